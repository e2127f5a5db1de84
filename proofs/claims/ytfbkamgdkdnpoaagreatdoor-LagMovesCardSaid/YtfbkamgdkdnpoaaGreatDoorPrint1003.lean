/- What each Go function that is named below answers, as a Lean function, and that its walk comes to just that: for whatever arguments that function gives an answer for. Written by a program of this session (wip/mkpr.py, pr.sh). -/
import Derived.Test.YtfbkamgdkdnpoaaGreatDoorPrint1000
import Derived.Test.YtfbkamgdkdnpoaaGreatDoorPrint1002
import Derived.Test.YtfbkamgdkdnpoaaGreatDoorPrint1001
namespace Go.Proofs.YtfbkamgdkdnpoaaGreatDoor.Print
open Go.RowKit Go.Proofs.YtfbkamgdkdnpoaaGreatDoorW.PrintWords Go.Proofs.YtfbkamgdkdnpoaaGreatDoorW.PrintLast Go.Proofs.YtfbkamgdkdnpoaaGreatDoorW.PrintMore
attribute [local go_sem] max2_int min2_int max_two min_two max_three min_three max_four min_four   -- for this text's walks alone
open Go.Proofs.YtfbkamgdkdnpoaaGreatDoor.Bits Go.Proofs.YtfbkamgdkdnpoaaGreatDoor.Short
attribute [local go_sem] add64_run0 sub64_run0 add64_run sub64_run
set_option linter.unusedVariables false
set_option linter.unusedSimpArgs false

/-! ### lag_Read: function 21 -/
def lag_Read.f (k : Nat) (a0_0 : Int) (a0_1 : Int) (a0_2 : Int) (a0_3 : Int) (a0_4 : Int) (a1_0 : Int) (a1_1 : Int) (a1_2 : Int) : Option (Int × Int × Bool) := (lag_over.f k a0_0 a0_1 a0_2 a0_3 a0_4 a1_0 a1_1 a1_2).bind fun bt209 => (if bt209.2.2 = true then ((wide_Int_Div.f k bt209.1 bt209.2.1 a0_3).bind fun bt213 => (some (bt213.1, bt213.2.1, true))) else (some (0, 0, false)))
theorem lag_Read.mono : ∀ a0 a1 a2 a3 a4 a5 a6 a7 k, LeO (lag_Read.f k a0 a1 a2 a3 a4 a5 a6 a7) (lag_Read.f (k + 1) a0 a1 a2 a3 a4 a5 a6 a7) := by
 intro a0 a1 a2 a3 a4 a5 a6 a7 k
 unfold lag_Read.f
 repeat' first
   | (with_reducible exact lag_over.mono _ _ _ _ _ _ _ _ _)
   | (with_reducible exact wide_Int_Div.mono _ _ _ _)
   | (with_reducible exact LeO.refl _)
   | (with_reducible exact LeO.none _)
   | (with_reducible refine LeO.ite ?_ ?_)
   | (with_reducible refine LeO.bind ?_ (fun _ => ?_))
   | exact lag_over.mono _ _ _ _ _ _ _ _ _
   | exact wide_Int_Div.mono _ _ _ _
   | exact LeO.none _
   | refine LeO.ite ?_ ?_
   | refine LeO.bind ?_ (fun _ => ?_)
set_option maxHeartbeats 8000000 in
set_option maxRecDepth 100000 in
theorem lag_Read.calls (k : Nat) (a0_0 : Int) (a0_1 : Int) (a0_2 : Int) (a0_3 : Int) (a0_4 : Int) (a1_0 : Int) (a1_1 : Int) (a1_2 : Int) (r1 : Int) (r2 : Int) (r3 : Bool) (w : World) (h : lag_Read.f k a0_0 a0_1 a0_2 a0_3 a0_4 a1_0 a1_1 a1_2 = some (r1, r2, r3)) :
  Calls Tryz.prog 21 #[.agg #[.int .u64 a0_0, .int .i64 a0_1, .int .u64 a0_2, .int .u64 a0_3, .int .i64 a0_4], .agg #[.int .u64 a1_0, .int .u32 a1_1, .int .u32 a1_2]] w fun e w' => e = .returned (.tuple #[.agg #[.int .i64 r1, .int .u64 r2], .bool r3]) ∧ Below w.heap.size w w' := by
 have hu33 := Tryz.underlying33
 have hu28 := Tryz.underlying28
 have hu31 := Tryz.underlying31
 have HB := Aside0.mk (Below.refl w.heap.size w)
 have H : ((lag_over.f k a0_0 a0_1 a0_2 a0_3 a0_4 a1_0 a1_1 a1_2).bind fun bt209 => (if bt209.2.2 = true then ((wide_Int_Div.f k bt209.1 bt209.2.1 a0_3).bind fun bt213 => (some (bt213.1, bt213.2.1, true))) else (some (0, 0, false)))) = some (r1, r2, r3) := h
 clear h
 replace H := Option.bind_eq_some_iff.mp H
 obtain ⟨⟨t209, t210, t211⟩, A30, H⟩ := H
 replace H : (if t211 = true then ((wide_Int_Div.f k t209 t210 a0_3).bind fun bt213 => (some (bt213.1, bt213.2.1, true))) else (some (0, 0, false))) = some (r1, r2, r3) := H
 have A3 := Aside0.mk A30
 clear A30
 by_cases c4 : t211 = true
 ·subst c4
  have H1 : ((wide_Int_Div.f k t209 t210 a0_3).bind fun bt213 => (some (bt213.1, bt213.2.1, true))) = some (r1, r2, r3) := by rw [if_pos rfl] at H; exact H
  clear H
  have H := H1
  clear H1
  replace H := Option.bind_eq_some_iff.mp H
  obtain ⟨⟨t213, t214, t215, t216⟩, A50, H⟩ := H
  replace H : (some (t213, t214, true)) = some (r1, r2, r3) := H
  have A5 := Aside0.mk A50
  clear A50
  simp only [Option.some.injEq, Prod.mk.injEq] at H
  obtain ⟨rfl, rfl, rfl⟩ := H
  go_enter Tryz.func21, Tryz.ntmps21
  go_wp2_with (first | ((with_reducible refine gate_dst (N := 2) rfl ?_); refine box_event ?hg (N := 2) ?hd (cs := #[.int .u64 a0_0, .int .i64 a0_1, .int .u64 a0_2, .int .u64 a0_3, .int .i64 a0_4]) (t := 33) ?hr ?_; (case hd => rfl); (case hg => rfl); (case hr => first | (go_simp; done) | (go_simp; rfl)); intro gb206 hg w6 hbox hb; have BK206 := Aside0.mk (hbox); have GW206 := bels HB hg; have GE206 := bels HB hg; replace HB := belb HB hb; clear hb hbox hg) | ((with_reducible refine gate_dst (N := 3) rfl ?_); refine box_event ?hg (N := 3) ?hd (cs := #[.int .u64 a1_0, .int .u32 a1_1, .int .u32 a1_2]) (t := 28) ?hr ?_; (case hd => rfl); (case hg => rfl); (case hr => first | (go_simp; done) | (go_simp; rfl)); intro gb207 hg w7 hbox hb; have BK207 := Aside0.mk (hbox); have GW207 := bels HB hg; have GE207 := bels HB hg; have NB206_207 := blkl BK206 hg; have NB207_206 := blkg BK206 hg; replace BK206 := blkb BK206 hb; replace HB := belb HB hb; clear hb hbox hg) | ((with_reducible refine gate_dst (N := 4) rfl ?_); refine box_event ?hg (N := 4) ?hd (cs := #[.int .i64 0, .int .u64 0]) (t := 31) ?hr ?_; (case hd => rfl); (case hg => rfl); (case hr => first | (go_simp; done) | (go_simp; rfl)); intro gb208 hg w8 hbox hb; have BK208 := Aside0.mk (hbox); have GW208 := bels HB hg; have GE208 := bels HB hg; have NB206_208 := blkl BK206 hg; have NB208_206 := blkg BK206 hg; have NB207_208 := blkl BK207 hg; have NB208_207 := blkg BK207 hg; replace BK206 := blkb BK206 hb; replace BK207 := blkb BK207 hb; replace HB := belb HB hb; clear hb hbox hg; have hnb9 := NB206_207.out; have hnc9 := NB207_206.out; have hnb10 := NB206_208.out; have hnc10 := NB208_206.out; have hcz11_0 : w8.cell? ⟨gb206, 0, none⟩ = some (.int .u64 a0_0) := bc BK206 0; have hcz11_1 : w8.cell? ⟨gb206, 1, none⟩ = some (.int .i64 a0_1) := bc BK206 1; have hcz11_2 : w8.cell? ⟨gb206, 2, none⟩ = some (.int .u64 a0_2) := bc BK206 2; have hcz11_3 : w8.cell? ⟨gb206, 3, none⟩ = some (.int .u64 a0_3) := bc BK206 3; have hcz11_4 : w8.cell? ⟨gb206, 4, none⟩ = some (.int .i64 a0_4) := bc BK206 4; have hfz11_0 := blk_frozen BK206.out 0; have hfz11_1 := blk_frozen BK206.out 1; have hfz11_2 := blk_frozen BK206.out 2; have hfz11_3 := blk_frozen BK206.out 3; have hfz11_4 := blk_frozen BK206.out 4; have hnb12 := NB207_208.out; have hnc12 := NB208_207.out; have hcz13_0 : w8.cell? ⟨gb207, 0, none⟩ = some (.int .u64 a1_0) := bc BK207 0; have hcz13_1 : w8.cell? ⟨gb207, 1, none⟩ = some (.int .u32 a1_1) := bc BK207 1; have hcz13_2 : w8.cell? ⟨gb207, 2, none⟩ = some (.int .u32 a1_2) := bc BK207 2; have hfz13_0 := blk_frozen BK207.out 0; have hfz13_1 := blk_frozen BK207.out 1; have hfz13_2 := blk_frozen BK207.out 2) | ((with_reducible refine gate_callee (f := 55) rfl ?_); refine goesL_ (some 14) rfl rfl Tryz.func55 (by kernel_rfl) rfl #[.agg #[.int .u64 a0_0, .int .i64 a0_1, .int .u64 a0_2, .int .u64 a0_3, .int .i64 a0_4], .agg #[.int .u64 a1_0, .int .u32 a1_1, .int .u32 a1_2]] rfl argt ?_; (with_reducible refine (lag_over.calls k a0_0 a0_1 a0_2 a0_3 a0_4 a1_0 a1_1 a1_2 t209 t210 true _ A3.out).mono ?_); rintro e w14 ⟨rfl, hb⟩; refine ⟨_, rfl, ?_⟩; replace BK206 := blkb BK206 hb; replace BK207 := blkb BK207 hb; replace BK208 := blkb BK208 hb; replace HB := belb HB hb; (try clear hb); (try clear hb2); (try clear hk); (try clear hi)) | ((with_reducible refine gate_dst (N := 6) rfl ?_); refine box_event ?hg (N := 6) ?hd (cs := #[.int .i64 0, .int .u64 0]) (t := 31) ?hr ?_; (case hd => rfl); (case hg => rfl); (case hr => first | (go_simp; done) | (go_simp; rfl)); intro gb212 hg w15 hbox hb; have BK212 := Aside0.mk (hbox); have GW212 := bels HB hg; have GE212 := bels HB hg; have NB206_212 := blkl BK206 hg; have NB212_206 := blkg BK206 hg; have NB207_212 := blkl BK207 hg; have NB212_207 := blkg BK207 hg; have NB208_212 := blkl BK208 hg; have NB212_208 := blkg BK208 hg; replace BK206 := blkb BK206 hb; replace BK207 := blkb BK207 hb; replace BK208 := blkb BK208 hb; replace HB := belb HB hb; clear hb hbox hg; have hnb16 := NB212_206.out; have hnc16 := NB206_212.out; have hnb17 := NB212_207.out; have hnc17 := NB207_212.out; have hnb18 := NB212_208.out; have hnc18 := NB208_212.out; have hcz19_0 : w15.cell? ⟨gb212, 0, none⟩ = some (.int .i64 0) := bc BK212 0; have hcz19_1 : w15.cell? ⟨gb212, 1, none⟩ = some (.int .u64 0) := bc BK212 1; have hfz19_0 := blk_frozen BK212.out 0; have hfz19_1 := blk_frozen BK212.out 1; have hcz20_0 : w15.cell? ⟨gb206, 0, none⟩ = some (.int .u64 a0_0) := bc BK206 0; have hcz20_1 : w15.cell? ⟨gb206, 1, none⟩ = some (.int .i64 a0_1) := bc BK206 1; have hcz20_2 : w15.cell? ⟨gb206, 2, none⟩ = some (.int .u64 a0_2) := bc BK206 2; have hcz20_3 : w15.cell? ⟨gb206, 3, none⟩ = some (.int .u64 a0_3) := bc BK206 3; have hcz20_4 : w15.cell? ⟨gb206, 4, none⟩ = some (.int .i64 a0_4) := bc BK206 4; have hfz20_0 := blk_frozen BK206.out 0; have hfz20_1 := blk_frozen BK206.out 1; have hfz20_2 := blk_frozen BK206.out 2; have hfz20_3 := blk_frozen BK206.out 3; have hfz20_4 := blk_frozen BK206.out 4) | ((with_reducible refine gate_callee (f := 56) rfl ?_); refine goesL_ (some 24) rfl rfl Tryz.func56 (by kernel_rfl) rfl #[.agg #[.int .i64 t209, .int .u64 t210], .int .u64 a0_3] rfl argt ?_; (with_reducible refine (wide_Int_Div.calls k t209 t210 a0_3 t213 t214 t215 t216 _ A5.out).mono ?_); rintro e w21 ⟨rfl, hb⟩; refine ⟨_, rfl, ?_⟩; replace BK206 := Aside0.mk (blk_below (g := gb206) (o := .cells #[.int .u64 a0_0, .int .i64 a0_1, .int .u64 a0_2, .int .u64 a0_3, .int .i64 a0_4] 33 (0, 0)) (by (with_reducible repeat (first | refine blk_drewN ?_ _ | refine blk_drew ?_ | refine blk_alloc ?_ _)); refine blk_far ?_ NB206_212.out _; (with_reducible repeat (first | refine blk_drewN ?_ _ | refine blk_drew ?_ | refine blk_alloc ?_ _)); refine blk_far ?_ NB206_212.out _; exact blkt BK206) hb); replace BK207 := Aside0.mk (blk_below (g := gb207) (o := .cells #[.int .u64 a1_0, .int .u32 a1_1, .int .u32 a1_2] 28 (0, 0)) (by (with_reducible repeat (first | refine blk_drewN ?_ _ | refine blk_drew ?_ | refine blk_alloc ?_ _)); refine blk_far ?_ NB207_212.out _; (with_reducible repeat (first | refine blk_drewN ?_ _ | refine blk_drew ?_ | refine blk_alloc ?_ _)); refine blk_far ?_ NB207_212.out _; exact blkt BK207) hb); replace BK208 := Aside0.mk (blk_below (g := gb208) (o := .cells #[.int .i64 0, .int .u64 0] 31 (0, 0)) (by (with_reducible repeat (first | refine blk_drewN ?_ _ | refine blk_drew ?_ | refine blk_alloc ?_ _)); refine blk_far ?_ NB208_212.out _; (with_reducible repeat (first | refine blk_drewN ?_ _ | refine blk_drew ?_ | refine blk_alloc ?_ _)); refine blk_far ?_ NB208_212.out _; exact blkt BK208) hb); replace BK212 := Aside0.mk (blk_below (g := gb212) (o := .cells #[.int .i64 t209, .int .u64 t210] 31 (0, 0)) (by (with_reducible repeat (first | refine blk_drewN ?_ _ | refine blk_drew ?_ | refine blk_alloc ?_ _)); refine blk_put (cs := #[.int .i64 t209, .int .u64 0]) ?_ 1 _ rfl; (with_reducible repeat (first | refine blk_drewN ?_ _ | refine blk_drew ?_ | refine blk_alloc ?_ _)); refine blk_put (cs := #[.int .i64 0, .int .u64 0]) ?_ 0 _ rfl; exact blkt BK212) hb); replace HB := belb HB hb; (try clear hb); (try clear hb2); (try clear hk); (try clear hi)) | ((with_reducible refine gate_dst (N := 8) rfl ?_); refine box_event ?hg (N := 8) ?hd (cs := #[.int .i64 0, .int .u64 0]) (t := 31) ?hr ?_; (case hd => rfl); (case hg => rfl); (case hr => first | (go_simp; done) | (go_simp; rfl)); intro gb217 hg w22 hbox hb; have BK217 := Aside0.mk (hbox); have GW217 := bels HB hg; have GE217 := bels HB hg; have NB206_217 := blkl BK206 hg; have NB217_206 := blkg BK206 hg; have NB207_217 := blkl BK207 hg; have NB217_207 := blkg BK207 hg; have NB208_217 := blkl BK208 hg; have NB217_208 := blkg BK208 hg; have NB212_217 := blkl BK212 hg; have NB217_212 := blkg BK212 hg; replace BK206 := blkb BK206 hb; replace BK207 := blkb BK207 hb; replace BK208 := blkb BK208 hb; replace BK212 := blkb BK212 hb; replace HB := belb HB hb; clear hb hbox hg; have hnb23 := NB217_206.out; have hnc23 := NB206_217.out; have hnb24 := NB217_207.out; have hnc24 := NB207_217.out; have hnb25 := NB217_208.out; have hnc25 := NB208_217.out; have hnb26 := NB217_212.out; have hnc26 := NB212_217.out; have hcz27_0 : w22.cell? ⟨gb217, 0, none⟩ = some (.int .i64 0) := bc BK217 0; have hcz27_1 : w22.cell? ⟨gb217, 1, none⟩ = some (.int .u64 0) := bc BK217 1; have hfz27_0 := blk_frozen BK217.out 0; have hfz27_1 := blk_frozen BK217.out 1; have hcz28_0 : w22.cell? ⟨gb208, 0, none⟩ = some (.int .i64 0) := bc BK208 0; have hcz28_1 : w22.cell? ⟨gb208, 1, none⟩ = some (.int .u64 0) := bc BK208 1; have hfz28_0 := blk_frozen BK208.out 0; have hfz28_1 := blk_frozen BK208.out 1))
  refine bodyPost_ret (results_ct rfl _ _ gb208 31 #[.int .i64 t213, .int .u64 t214] (0, 0) _ rfl (by (with_reducible repeat (first | refine blk_drewN ?_ _ | refine blk_drew ?_ | refine blk_alloc ?_ _)); refine blk_put (cs := #[.int .i64 t213, .int .u64 0]) ?_ 1 _ rfl; (with_reducible repeat (first | refine blk_drewN ?_ _ | refine blk_drew ?_ | refine blk_alloc ?_ _)); refine blk_put (cs := #[.int .i64 0, .int .u64 0]) ?_ 0 _ rfl; (with_reducible repeat (first | refine blk_drewN ?_ _ | refine blk_drew ?_ | refine blk_alloc ?_ _)); refine blk_far ?_ NB208_217.out _; (with_reducible repeat (first | refine blk_drewN ?_ _ | refine blk_drew ?_ | refine blk_alloc ?_ _)); refine blk_far ?_ NB208_217.out _; exact blkt BK208) Tryz.underlying31 rfl (by kernel_rfl)) rfl ?_
  exact ⟨by first | rfl | (simp [errW_none, errW_some] <;> rfl) | (simp [*, errW_none, errW_some] <;> rfl), belt HB⟩
 replace c4 := Bool.eq_false_iff.mpr c4
 subst c4
 have H1 : (some (0, 0, false)) = some (r1, r2, r3) := by rw [if_neg (show ¬ (false = true) by decide)] at H; exact H
 clear H
 have H := H1
 clear H1
 simp only [Option.some.injEq, Prod.mk.injEq] at H
 obtain ⟨rfl, rfl, rfl⟩ := H
 go_enter Tryz.func21, Tryz.ntmps21
 go_wp2_with (first | ((with_reducible refine gate_dst (N := 2) rfl ?_); refine box_event ?hg (N := 2) ?hd (cs := #[.int .u64 a0_0, .int .i64 a0_1, .int .u64 a0_2, .int .u64 a0_3, .int .i64 a0_4]) (t := 33) ?hr ?_; (case hd => rfl); (case hg => rfl); (case hr => first | (go_simp; done) | (go_simp; rfl)); intro gb206 hg w29 hbox hb; have BK206 := Aside0.mk (hbox); have GW206 := bels HB hg; have GE206 := bels HB hg; replace HB := belb HB hb; clear hb hbox hg) | ((with_reducible refine gate_dst (N := 3) rfl ?_); refine box_event ?hg (N := 3) ?hd (cs := #[.int .u64 a1_0, .int .u32 a1_1, .int .u32 a1_2]) (t := 28) ?hr ?_; (case hd => rfl); (case hg => rfl); (case hr => first | (go_simp; done) | (go_simp; rfl)); intro gb207 hg w30 hbox hb; have BK207 := Aside0.mk (hbox); have GW207 := bels HB hg; have GE207 := bels HB hg; have NB206_207 := blkl BK206 hg; have NB207_206 := blkg BK206 hg; replace BK206 := blkb BK206 hb; replace HB := belb HB hb; clear hb hbox hg) | ((with_reducible refine gate_dst (N := 4) rfl ?_); refine box_event ?hg (N := 4) ?hd (cs := #[.int .i64 0, .int .u64 0]) (t := 31) ?hr ?_; (case hd => rfl); (case hg => rfl); (case hr => first | (go_simp; done) | (go_simp; rfl)); intro gb208 hg w31 hbox hb; have BK208 := Aside0.mk (hbox); have GW208 := bels HB hg; have GE208 := bels HB hg; have NB206_208 := blkl BK206 hg; have NB208_206 := blkg BK206 hg; have NB207_208 := blkl BK207 hg; have NB208_207 := blkg BK207 hg; replace BK206 := blkb BK206 hb; replace BK207 := blkb BK207 hb; replace HB := belb HB hb; clear hb hbox hg; have hnb32 := NB206_207.out; have hnc32 := NB207_206.out; have hnb33 := NB206_208.out; have hnc33 := NB208_206.out; have hcz34_0 : w31.cell? ⟨gb206, 0, none⟩ = some (.int .u64 a0_0) := bc BK206 0; have hcz34_1 : w31.cell? ⟨gb206, 1, none⟩ = some (.int .i64 a0_1) := bc BK206 1; have hcz34_2 : w31.cell? ⟨gb206, 2, none⟩ = some (.int .u64 a0_2) := bc BK206 2; have hcz34_3 : w31.cell? ⟨gb206, 3, none⟩ = some (.int .u64 a0_3) := bc BK206 3; have hcz34_4 : w31.cell? ⟨gb206, 4, none⟩ = some (.int .i64 a0_4) := bc BK206 4; have hfz34_0 := blk_frozen BK206.out 0; have hfz34_1 := blk_frozen BK206.out 1; have hfz34_2 := blk_frozen BK206.out 2; have hfz34_3 := blk_frozen BK206.out 3; have hfz34_4 := blk_frozen BK206.out 4; have hnb35 := NB207_208.out; have hnc35 := NB208_207.out; have hcz36_0 : w31.cell? ⟨gb207, 0, none⟩ = some (.int .u64 a1_0) := bc BK207 0; have hcz36_1 : w31.cell? ⟨gb207, 1, none⟩ = some (.int .u32 a1_1) := bc BK207 1; have hcz36_2 : w31.cell? ⟨gb207, 2, none⟩ = some (.int .u32 a1_2) := bc BK207 2; have hfz36_0 := blk_frozen BK207.out 0; have hfz36_1 := blk_frozen BK207.out 1; have hfz36_2 := blk_frozen BK207.out 2) | ((with_reducible refine gate_callee (f := 55) rfl ?_); refine goesL_ (some 14) rfl rfl Tryz.func55 (by kernel_rfl) rfl #[.agg #[.int .u64 a0_0, .int .i64 a0_1, .int .u64 a0_2, .int .u64 a0_3, .int .i64 a0_4], .agg #[.int .u64 a1_0, .int .u32 a1_1, .int .u32 a1_2]] rfl argt ?_; (with_reducible refine (lag_over.calls k a0_0 a0_1 a0_2 a0_3 a0_4 a1_0 a1_1 a1_2 t209 t210 false _ A3.out).mono ?_); rintro e w37 ⟨rfl, hb⟩; refine ⟨_, rfl, ?_⟩; replace BK206 := blkb BK206 hb; replace BK207 := blkb BK207 hb; replace BK208 := blkb BK208 hb; replace HB := belb HB hb; (try clear hb); (try clear hb2); (try clear hk); (try clear hi)) | ((with_reducible refine gate_dst (N := 6) rfl ?_); refine box_event ?hg (N := 6) ?hd (cs := #[.int .i64 0, .int .u64 0]) (t := 31) ?hr ?_; (case hd => rfl); (case hg => rfl); (case hr => first | (go_simp; done) | (go_simp; rfl)); intro gb212 hg w38 hbox hb; have BK212 := Aside0.mk (hbox); have GW212 := bels HB hg; have GE212 := bels HB hg; have NB206_212 := blkl BK206 hg; have NB212_206 := blkg BK206 hg; have NB207_212 := blkl BK207 hg; have NB212_207 := blkg BK207 hg; have NB208_212 := blkl BK208 hg; have NB212_208 := blkg BK208 hg; replace BK206 := blkb BK206 hb; replace BK207 := blkb BK207 hb; replace BK208 := blkb BK208 hb; replace HB := belb HB hb; clear hb hbox hg; have hnb39 := NB212_206.out; have hnc39 := NB206_212.out; have hnb40 := NB212_207.out; have hnc40 := NB207_212.out; have hnb41 := NB212_208.out; have hnc41 := NB208_212.out; have hcz42_0 : w38.cell? ⟨gb212, 0, none⟩ = some (.int .i64 0) := bc BK212 0; have hcz42_1 : w38.cell? ⟨gb212, 1, none⟩ = some (.int .u64 0) := bc BK212 1; have hfz42_0 := blk_frozen BK212.out 0; have hfz42_1 := blk_frozen BK212.out 1; have hcz43_0 : w38.cell? ⟨gb208, 0, none⟩ = some (.int .i64 0) := bc BK208 0; have hcz43_1 : w38.cell? ⟨gb208, 1, none⟩ = some (.int .u64 0) := bc BK208 1; have hfz43_0 := blk_frozen BK208.out 0; have hfz43_1 := blk_frozen BK208.out 1))
 refine bodyPost_ret (results_ct rfl _ _ gb208 31 #[.int .i64 0, .int .u64 0] (0, 0) _ rfl (by (with_reducible repeat (first | refine blk_drewN ?_ _ | refine blk_drew ?_ | refine blk_alloc ?_ _)); refine blk_put (cs := #[.int .i64 0, .int .u64 0]) ?_ 1 _ rfl; (with_reducible repeat (first | refine blk_drewN ?_ _ | refine blk_drew ?_ | refine blk_alloc ?_ _)); refine blk_put (cs := #[.int .i64 0, .int .u64 0]) ?_ 0 _ rfl; (with_reducible repeat (first | refine blk_drewN ?_ _ | refine blk_drew ?_ | refine blk_alloc ?_ _)); refine blk_far ?_ NB208_212.out _; (with_reducible repeat (first | refine blk_drewN ?_ _ | refine blk_drew ?_ | refine blk_alloc ?_ _)); refine blk_far ?_ NB208_212.out _; exact blkt BK208) Tryz.underlying31 rfl (by kernel_rfl)) rfl ?_
 exact ⟨by first | rfl | (simp [errW_none, errW_some] <;> rfl) | (simp [*, errW_none, errW_some] <;> rfl), belt HB⟩


/-! ### vtime_Time_Add: function 20 -/
def vtime_Time_Add.f (a0 : Int) (a1 : Int) : Option (Int) := some (IntKind.u64.wrap (a0 + (IntKind.u64.wrap (a1))))
set_option maxHeartbeats 8000000 in
set_option maxRecDepth 100000 in
theorem vtime_Time_Add.calls (a0 : Int) (a1 : Int) (r : Int) (w : World) (h : vtime_Time_Add.f a0 a1 = some r) :
  Calls Tryz.prog 20 #[.int .u64 a0, .int .i64 a1] w fun e w' => e = .returned (.int .u64 r) ∧ Drawn0 w w' := by
 have H : (some (IntKind.u64.wrap (a0 + (IntKind.u64.wrap (a1))))) = some r := h
 clear h
 obtain rfl := Option.some.inj H
 go_enter Tryz.func20, Tryz.ntmps20
 go_wp2
 go_ret
 exact ⟨by first | rfl | (simp; done) | (simp [*]; done), by repeat (first | exact Drawn0.refl _ | apply Drawn0.step)⟩


/-! ### pos_At: function 58 -/
def pos_At.f (k : Nat) (a0 : Int) (a1_0 : Int) (a1_1 : Int) (a2 : Int) : Option (Int × Int × Int × Bool) := (pos_weight.f a2).bind fun t238 => (if t238 = true then ((wide_Int_Div.f k a1_0 a1_1 (IntKind.u64.wrap (a2))).bind fun bt239 => ((wide_Int_Small.f bt239.1 bt239.2.1).bind fun bt244 => (if bt244.2 = true then ((vtime_Time_Add.f a0 bt244.1).bind fun t246 => (some (t246, (bt239.2.2.1) % 4294967296, a2, true))) else (some (0, 0, 0, false))))) else (some (0, 0, 0, false)))
theorem pos_At.mono : ∀ a0 a1 a2 a3 k, LeO (pos_At.f k a0 a1 a2 a3) (pos_At.f (k + 1) a0 a1 a2 a3) := by
 intro a0 a1 a2 a3 k
 unfold pos_At.f
 repeat' first
   | (with_reducible exact wide_Int_Div.mono _ _ _ _)
   | (with_reducible exact LeO.refl _)
   | (with_reducible exact LeO.none _)
   | (with_reducible refine LeO.ite ?_ ?_)
   | (with_reducible refine LeO.bind ?_ (fun _ => ?_))
   | exact wide_Int_Div.mono _ _ _ _
   | exact LeO.none _
   | refine LeO.ite ?_ ?_
   | refine LeO.bind ?_ (fun _ => ?_)
set_option maxHeartbeats 8000000 in
set_option maxRecDepth 100000 in
theorem pos_At.calls (k : Nat) (a0 : Int) (a1_0 : Int) (a1_1 : Int) (a2 : Int) (r1 : Int) (r2 : Int) (r3 : Int) (r4 : Bool) (w : World) (h : pos_At.f k a0 a1_0 a1_1 a2 = some (r1, r2, r3, r4)) :
  Calls Tryz.prog 58 #[.int .u64 a0, .agg #[.int .i64 a1_0, .int .u64 a1_1], .int .u32 a2] w fun e w' => e = .returned (.tuple #[.agg #[.int .u64 r1, .int .u32 r2, .int .u32 r3], .bool r4]) ∧ Below w.heap.size w w' := by
 have hu31 := Tryz.underlying31
 have hu28 := Tryz.underlying28
 have HB := Aside0.mk (Below.refl w.heap.size w)
 have H : ((pos_weight.f a2).bind fun t238 => (if t238 = true then ((wide_Int_Div.f k a1_0 a1_1 (IntKind.u64.wrap (a2))).bind fun bt239 => ((wide_Int_Small.f bt239.1 bt239.2.1).bind fun bt244 => (if bt244.2 = true then ((vtime_Time_Add.f a0 bt244.1).bind fun t246 => (some (t246, (bt239.2.2.1) % 4294967296, a2, true))) else (some (0, 0, 0, false))))) else (some (0, 0, 0, false)))) = some (r1, r2, r3, r4) := h
 clear h
 replace H := Option.bind_eq_some_iff.mp H
 obtain ⟨t238, A40, H⟩ := H
 replace H : (if t238 = true then ((wide_Int_Div.f k a1_0 a1_1 (IntKind.u64.wrap (a2))).bind fun bt239 => ((wide_Int_Small.f bt239.1 bt239.2.1).bind fun bt244 => (if bt244.2 = true then ((vtime_Time_Add.f a0 bt244.1).bind fun t246 => (some (t246, (bt239.2.2.1) % 4294967296, a2, true))) else (some (0, 0, 0, false))))) else (some (0, 0, 0, false))) = some (r1, r2, r3, r4) := H
 have A4 := Aside0.mk A40
 clear A40
 by_cases c5 : t238 = true
 ·subst c5
  have H1 : ((wide_Int_Div.f k a1_0 a1_1 (IntKind.u64.wrap (a2))).bind fun bt239 => ((wide_Int_Small.f bt239.1 bt239.2.1).bind fun bt244 => (if bt244.2 = true then ((vtime_Time_Add.f a0 bt244.1).bind fun t246 => (some (t246, (bt239.2.2.1) % 4294967296, a2, true))) else (some (0, 0, 0, false))))) = some (r1, r2, r3, r4) := by rw [if_pos rfl] at H; exact H
  clear H
  have H := H1
  clear H1
  replace H := Option.bind_eq_some_iff.mp H
  obtain ⟨⟨t239, t240, t241, t242⟩, A60, H⟩ := H
  replace H : ((wide_Int_Small.f t239 t240).bind fun bt244 => (if bt244.2 = true then ((vtime_Time_Add.f a0 bt244.1).bind fun t246 => (some (t246, (t241) % 4294967296, a2, true))) else (some (0, 0, 0, false)))) = some (r1, r2, r3, r4) := H
  have A6 := Aside0.mk A60
  clear A60
  replace H := Option.bind_eq_some_iff.mp H
  obtain ⟨⟨t244, t245⟩, A70, H⟩ := H
  replace H : (if t245 = true then ((vtime_Time_Add.f a0 t244).bind fun t246 => (some (t246, (t241) % 4294967296, a2, true))) else (some (0, 0, 0, false))) = some (r1, r2, r3, r4) := H
  have A7 := Aside0.mk A70
  clear A70
  by_cases c8 : t245 = true
  ·subst c8
   have H1 : ((vtime_Time_Add.f a0 t244).bind fun t246 => (some (t246, (t241) % 4294967296, a2, true))) = some (r1, r2, r3, r4) := by rw [if_pos rfl] at H; exact H
   clear H
   have H := H1
   clear H1
   replace H := Option.bind_eq_some_iff.mp H
   obtain ⟨t246, A90, H⟩ := H
   replace H : (some (t246, (t241) % 4294967296, a2, true)) = some (r1, r2, r3, r4) := H
   have A9 := Aside0.mk A90
   clear A90
   simp only [Option.some.injEq, Prod.mk.injEq] at H
   obtain ⟨rfl, rfl, rfl, rfl⟩ := H
   go_enter Tryz.func58, Tryz.ntmps58
   go_wp2_with (first | ((with_reducible refine gate_dst (N := 4) rfl ?_); refine box_event ?hg (N := 4) ?hd (cs := #[.int .i64 a1_0, .int .u64 a1_1]) (t := 31) ?hr ?_; (case hd => rfl); (case hg => rfl); (case hr => first | (go_simp; done) | (go_simp; rfl)); intro gb236 hg w10 hbox hb; have BK236 := Aside0.mk (hbox); have GW236 := bels HB hg; have GE236 := bels HB hg; replace HB := belb HB hb; clear hb hbox hg) | ((with_reducible refine gate_dst (N := 6) rfl ?_); refine box_event ?hg (N := 6) ?hd (cs := #[.int .u64 0, .int .u32 0, .int .u32 0]) (t := 28) ?hr ?_; (case hd => rfl); (case hg => rfl); (case hr => first | (go_simp; done) | (go_simp; rfl)); intro gb237 hg w11 hbox hb; have BK237 := Aside0.mk (hbox); have GW237 := bels HB hg; have GE237 := bels HB hg; have NB236_237 := blkl BK236 hg; have NB237_236 := blkg BK236 hg; replace BK236 := blkb BK236 hb; replace HB := belb HB hb; clear hb hbox hg) | ((with_reducible refine gate_callee (f := 51) rfl ?_); refine goesL_ (some 14) rfl rfl Tryz.func51 (by kernel_rfl) rfl #[.int .u32 a2] rfl argt ?_; (with_reducible refine (pos_weight.calls a2 true _ A4.out).mono ?_); rintro e w' ⟨rfl, ⟨nd, rfl⟩⟩; refine ⟨_, rfl, ?_⟩; (try (rw [drewN_self w11]; generalize hq_ : World.drewN w11 _ = w11; replace BK236 : Aside0 (w11.heap[gb236]? = some (.cells #[.int .i64 a1_0, .int .u64 a1_1] 31 (0, 0))) := ⟨by rw [← hq_]; exact (blkt BK236)⟩; replace BK237 : Aside0 (w11.heap[gb237]? = some (.cells #[.int .u64 0, .int .u32 0, .int .u32 0] 28 (0, 0))) := ⟨by rw [← hq_]; exact (blkt BK237)⟩; replace HB : Aside0 (Below w.heap.size w w11) := ⟨by rw [← hq_]; exact (belt HB)⟩; clear hq_)); have hnb12 := NB236_237.out; have hnc12 := NB237_236.out; have hcz13_0 : w11.cell? ⟨gb236, 0, none⟩ = some (.int .i64 a1_0) := bc BK236 0; have hcz13_1 : w11.cell? ⟨gb236, 1, none⟩ = some (.int .u64 a1_1) := bc BK236 1; have hfz13_0 := blk_frozen BK236.out 0; have hfz13_1 := blk_frozen BK236.out 1) | ((with_reducible refine gate_callee (f := 56) rfl ?_); refine goesL_ (some 21) rfl rfl Tryz.func56 (by kernel_rfl) rfl #[.agg #[.int .i64 a1_0, .int .u64 a1_1], .int .u64 (IntKind.u64.wrap (a2))] rfl argt ?_; (with_reducible refine (wide_Int_Div.calls k a1_0 a1_1 (IntKind.u64.wrap (a2)) t239 t240 t241 t242 _ A6.out).mono ?_); rintro e w14 ⟨rfl, hb⟩; refine ⟨_, rfl, ?_⟩; replace BK236 := blkb BK236 hb; replace BK237 := blkb BK237 hb; replace HB := belb HB hb; (try clear hb); (try clear hb2); (try clear hk); (try clear hi)) | ((with_reducible refine gate_dst (N := 8) rfl ?_); refine box_event ?hg (N := 8) ?hd (cs := #[.int .i64 0, .int .u64 0]) (t := 31) ?hr ?_; (case hd => rfl); (case hg => rfl); (case hr => first | (go_simp; done) | (go_simp; rfl)); intro gb243 hg w15 hbox hb; have BK243 := Aside0.mk (hbox); have GW243 := bels HB hg; have GE243 := bels HB hg; have NB236_243 := blkl BK236 hg; have NB243_236 := blkg BK236 hg; have NB237_243 := blkl BK237 hg; have NB243_237 := blkg BK237 hg; replace BK236 := blkb BK236 hb; replace BK237 := blkb BK237 hb; replace HB := belb HB hb; clear hb hbox hg; have hnb16 := NB243_236.out; have hnc16 := NB236_243.out; have hnb17 := NB243_237.out; have hnc17 := NB237_243.out; have hcz18_0 : w15.cell? ⟨gb243, 0, none⟩ = some (.int .i64 0) := bc BK243 0; have hcz18_1 : w15.cell? ⟨gb243, 1, none⟩ = some (.int .u64 0) := bc BK243 1; have hfz18_0 := blk_frozen BK243.out 0; have hfz18_1 := blk_frozen BK243.out 1) | ((with_reducible refine gate_callee (f := 27) rfl ?_); refine goesL_ (some 27) rfl rfl Tryz.func27 (by kernel_rfl) rfl #[.agg #[.int .i64 t239, .int .u64 t240]] rfl argt ?_; (with_reducible refine (wide_Int_Small.calls t239 t240 t244 true _ A7.out).mono ?_); rintro e w19 ⟨rfl, hb⟩; refine ⟨_, rfl, ?_⟩; replace BK236 := Aside0.mk (blk_below (g := gb236) (o := .cells #[.int .i64 a1_0, .int .u64 a1_1] 31 (0, 0)) (by (with_reducible repeat (first | refine blk_drewN ?_ _ | refine blk_drew ?_ | refine blk_alloc ?_ _)); refine blk_far ?_ NB236_243.out _; (with_reducible repeat (first | refine blk_drewN ?_ _ | refine blk_drew ?_ | refine blk_alloc ?_ _)); refine blk_far ?_ NB236_243.out _; exact blkt BK236) hb); replace BK237 := Aside0.mk (blk_below (g := gb237) (o := .cells #[.int .u64 0, .int .u32 0, .int .u32 0] 28 (0, 0)) (by (with_reducible repeat (first | refine blk_drewN ?_ _ | refine blk_drew ?_ | refine blk_alloc ?_ _)); refine blk_far ?_ NB237_243.out _; (with_reducible repeat (first | refine blk_drewN ?_ _ | refine blk_drew ?_ | refine blk_alloc ?_ _)); refine blk_far ?_ NB237_243.out _; exact blkt BK237) hb); replace BK243 := Aside0.mk (blk_below (g := gb243) (o := .cells #[.int .i64 t239, .int .u64 t240] 31 (0, 0)) (by (with_reducible repeat (first | refine blk_drewN ?_ _ | refine blk_drew ?_ | refine blk_alloc ?_ _)); refine blk_put (cs := #[.int .i64 t239, .int .u64 0]) ?_ 1 _ rfl; (with_reducible repeat (first | refine blk_drewN ?_ _ | refine blk_drew ?_ | refine blk_alloc ?_ _)); refine blk_put (cs := #[.int .i64 0, .int .u64 0]) ?_ 0 _ rfl; exact blkt BK243) hb); replace HB := belb HB hb; (try clear hb); (try clear hb2); (try clear hk); (try clear hi)) | ((with_reducible refine gate_callee (f := 20) rfl ?_); refine goesL_ (some 35) rfl rfl Tryz.func20 (by kernel_rfl) rfl #[.int .u64 a0, .int .i64 t244] rfl argt ?_; (with_reducible refine (vtime_Time_Add.calls a0 t244 t246 _ A9.out).mono ?_); rintro e w' ⟨rfl, ⟨nd, rfl⟩⟩; refine ⟨_, rfl, ?_⟩; (try (rw [drewN_self w19]; generalize hq_ : World.drewN w19 _ = w19; replace BK236 : Aside0 (w19.heap[gb236]? = some (.cells #[.int .i64 a1_0, .int .u64 a1_1] 31 (0, 0))) := ⟨by rw [← hq_]; exact (blkt BK236)⟩; replace BK237 : Aside0 (w19.heap[gb237]? = some (.cells #[.int .u64 0, .int .u32 0, .int .u32 0] 28 (0, 0))) := ⟨by rw [← hq_]; exact (blkt BK237)⟩; replace BK243 : Aside0 (w19.heap[gb243]? = some (.cells #[.int .i64 t239, .int .u64 t240] 31 (0, 0))) := ⟨by rw [← hq_]; exact (blkt BK243)⟩; replace HB : Aside0 (Below w.heap.size w w19) := ⟨by rw [← hq_]; exact (belt HB)⟩; clear hq_)); have hcz20_0 : w19.cell? ⟨gb237, 0, none⟩ = some (.int .u64 0) := bc BK237 0; have hcz20_1 : w19.cell? ⟨gb237, 1, none⟩ = some (.int .u32 0) := bc BK237 1; have hcz20_2 : w19.cell? ⟨gb237, 2, none⟩ = some (.int .u32 0) := bc BK237 2; have hfz20_0 := blk_frozen BK237.out 0; have hfz20_1 := blk_frozen BK237.out 1; have hfz20_2 := blk_frozen BK237.out 2))
   refine bodyPost_ret (results_ct rfl _ _ gb237 28 #[.int .u64 t246, .int .u32 ((t241) % 4294967296), .int .u32 a2] (0, 0) _ rfl (by (with_reducible repeat (first | refine blk_drewN ?_ _ | refine blk_drew ?_ | refine blk_alloc ?_ _)); refine blk_put (cs := #[.int .u64 t246, .int .u32 ((t241) % 4294967296), .int .u32 0]) ?_ 2 _ rfl; (with_reducible repeat (first | refine blk_drewN ?_ _ | refine blk_drew ?_ | refine blk_alloc ?_ _)); refine blk_put (cs := #[.int .u64 t246, .int .u32 0, .int .u32 0]) ?_ 1 _ rfl; (with_reducible repeat (first | refine blk_drewN ?_ _ | refine blk_drew ?_ | refine blk_alloc ?_ _)); refine blk_put (cs := #[.int .u64 0, .int .u32 0, .int .u32 0]) ?_ 0 _ rfl; exact blkt BK237) Tryz.underlying28 rfl (by kernel_rfl)) rfl ?_
   exact ⟨by first | rfl | (simp [errW_none, errW_some] <;> rfl) | (simp [*, errW_none, errW_some] <;> rfl), belt HB⟩
  replace c8 := Bool.eq_false_iff.mpr c8
  subst c8
  have H1 : (some (0, 0, 0, false)) = some (r1, r2, r3, r4) := by rw [if_neg (show ¬ (false = true) by decide)] at H; exact H
  clear H
  have H := H1
  clear H1
  simp only [Option.some.injEq, Prod.mk.injEq] at H
  obtain ⟨rfl, rfl, rfl, rfl⟩ := H
  go_enter Tryz.func58, Tryz.ntmps58
  go_wp2_with (first | ((with_reducible refine gate_dst (N := 4) rfl ?_); refine box_event ?hg (N := 4) ?hd (cs := #[.int .i64 a1_0, .int .u64 a1_1]) (t := 31) ?hr ?_; (case hd => rfl); (case hg => rfl); (case hr => first | (go_simp; done) | (go_simp; rfl)); intro gb236 hg w21 hbox hb; have BK236 := Aside0.mk (hbox); have GW236 := bels HB hg; have GE236 := bels HB hg; replace HB := belb HB hb; clear hb hbox hg) | ((with_reducible refine gate_dst (N := 6) rfl ?_); refine box_event ?hg (N := 6) ?hd (cs := #[.int .u64 0, .int .u32 0, .int .u32 0]) (t := 28) ?hr ?_; (case hd => rfl); (case hg => rfl); (case hr => first | (go_simp; done) | (go_simp; rfl)); intro gb237 hg w22 hbox hb; have BK237 := Aside0.mk (hbox); have GW237 := bels HB hg; have GE237 := bels HB hg; have NB236_237 := blkl BK236 hg; have NB237_236 := blkg BK236 hg; replace BK236 := blkb BK236 hb; replace HB := belb HB hb; clear hb hbox hg) | ((with_reducible refine gate_callee (f := 51) rfl ?_); refine goesL_ (some 14) rfl rfl Tryz.func51 (by kernel_rfl) rfl #[.int .u32 a2] rfl argt ?_; (with_reducible refine (pos_weight.calls a2 true _ A4.out).mono ?_); rintro e w' ⟨rfl, ⟨nd, rfl⟩⟩; refine ⟨_, rfl, ?_⟩; (try (rw [drewN_self w22]; generalize hq_ : World.drewN w22 _ = w22; replace BK236 : Aside0 (w22.heap[gb236]? = some (.cells #[.int .i64 a1_0, .int .u64 a1_1] 31 (0, 0))) := ⟨by rw [← hq_]; exact (blkt BK236)⟩; replace BK237 : Aside0 (w22.heap[gb237]? = some (.cells #[.int .u64 0, .int .u32 0, .int .u32 0] 28 (0, 0))) := ⟨by rw [← hq_]; exact (blkt BK237)⟩; replace HB : Aside0 (Below w.heap.size w w22) := ⟨by rw [← hq_]; exact (belt HB)⟩; clear hq_)); have hnb23 := NB236_237.out; have hnc23 := NB237_236.out; have hcz24_0 : w22.cell? ⟨gb236, 0, none⟩ = some (.int .i64 a1_0) := bc BK236 0; have hcz24_1 : w22.cell? ⟨gb236, 1, none⟩ = some (.int .u64 a1_1) := bc BK236 1; have hfz24_0 := blk_frozen BK236.out 0; have hfz24_1 := blk_frozen BK236.out 1) | ((with_reducible refine gate_callee (f := 56) rfl ?_); refine goesL_ (some 21) rfl rfl Tryz.func56 (by kernel_rfl) rfl #[.agg #[.int .i64 a1_0, .int .u64 a1_1], .int .u64 (IntKind.u64.wrap (a2))] rfl argt ?_; (with_reducible refine (wide_Int_Div.calls k a1_0 a1_1 (IntKind.u64.wrap (a2)) t239 t240 t241 t242 _ A6.out).mono ?_); rintro e w25 ⟨rfl, hb⟩; refine ⟨_, rfl, ?_⟩; replace BK236 := blkb BK236 hb; replace BK237 := blkb BK237 hb; replace HB := belb HB hb; (try clear hb); (try clear hb2); (try clear hk); (try clear hi)) | ((with_reducible refine gate_dst (N := 8) rfl ?_); refine box_event ?hg (N := 8) ?hd (cs := #[.int .i64 0, .int .u64 0]) (t := 31) ?hr ?_; (case hd => rfl); (case hg => rfl); (case hr => first | (go_simp; done) | (go_simp; rfl)); intro gb243 hg w26 hbox hb; have BK243 := Aside0.mk (hbox); have GW243 := bels HB hg; have GE243 := bels HB hg; have NB236_243 := blkl BK236 hg; have NB243_236 := blkg BK236 hg; have NB237_243 := blkl BK237 hg; have NB243_237 := blkg BK237 hg; replace BK236 := blkb BK236 hb; replace BK237 := blkb BK237 hb; replace HB := belb HB hb; clear hb hbox hg; have hnb27 := NB243_236.out; have hnc27 := NB236_243.out; have hnb28 := NB243_237.out; have hnc28 := NB237_243.out; have hcz29_0 : w26.cell? ⟨gb243, 0, none⟩ = some (.int .i64 0) := bc BK243 0; have hcz29_1 : w26.cell? ⟨gb243, 1, none⟩ = some (.int .u64 0) := bc BK243 1; have hfz29_0 := blk_frozen BK243.out 0; have hfz29_1 := blk_frozen BK243.out 1) | ((with_reducible refine gate_callee (f := 27) rfl ?_); refine goesL_ (some 27) rfl rfl Tryz.func27 (by kernel_rfl) rfl #[.agg #[.int .i64 t239, .int .u64 t240]] rfl argt ?_; (with_reducible refine (wide_Int_Small.calls t239 t240 t244 false _ A7.out).mono ?_); rintro e w30 ⟨rfl, hb⟩; refine ⟨_, rfl, ?_⟩; replace BK236 := Aside0.mk (blk_below (g := gb236) (o := .cells #[.int .i64 a1_0, .int .u64 a1_1] 31 (0, 0)) (by (with_reducible repeat (first | refine blk_drewN ?_ _ | refine blk_drew ?_ | refine blk_alloc ?_ _)); refine blk_far ?_ NB236_243.out _; (with_reducible repeat (first | refine blk_drewN ?_ _ | refine blk_drew ?_ | refine blk_alloc ?_ _)); refine blk_far ?_ NB236_243.out _; exact blkt BK236) hb); replace BK237 := Aside0.mk (blk_below (g := gb237) (o := .cells #[.int .u64 0, .int .u32 0, .int .u32 0] 28 (0, 0)) (by (with_reducible repeat (first | refine blk_drewN ?_ _ | refine blk_drew ?_ | refine blk_alloc ?_ _)); refine blk_far ?_ NB237_243.out _; (with_reducible repeat (first | refine blk_drewN ?_ _ | refine blk_drew ?_ | refine blk_alloc ?_ _)); refine blk_far ?_ NB237_243.out _; exact blkt BK237) hb); replace BK243 := Aside0.mk (blk_below (g := gb243) (o := .cells #[.int .i64 t239, .int .u64 t240] 31 (0, 0)) (by (with_reducible repeat (first | refine blk_drewN ?_ _ | refine blk_drew ?_ | refine blk_alloc ?_ _)); refine blk_put (cs := #[.int .i64 t239, .int .u64 0]) ?_ 1 _ rfl; (with_reducible repeat (first | refine blk_drewN ?_ _ | refine blk_drew ?_ | refine blk_alloc ?_ _)); refine blk_put (cs := #[.int .i64 0, .int .u64 0]) ?_ 0 _ rfl; exact blkt BK243) hb); replace HB := belb HB hb; (try clear hb); (try clear hb2); (try clear hk); (try clear hi); have hcz31_0 : w30.cell? ⟨gb237, 0, none⟩ = some (.int .u64 0) := bc BK237 0; have hcz31_1 : w30.cell? ⟨gb237, 1, none⟩ = some (.int .u32 0) := bc BK237 1; have hcz31_2 : w30.cell? ⟨gb237, 2, none⟩ = some (.int .u32 0) := bc BK237 2; have hfz31_0 := blk_frozen BK237.out 0; have hfz31_1 := blk_frozen BK237.out 1; have hfz31_2 := blk_frozen BK237.out 2))
  refine bodyPost_ret (results_ct rfl _ _ gb237 28 #[.int .u64 0, .int .u32 0, .int .u32 0] (0, 0) _ rfl (by (with_reducible repeat (first | refine blk_drewN ?_ _ | refine blk_drew ?_ | refine blk_alloc ?_ _)); refine blk_put (cs := #[.int .u64 0, .int .u32 0, .int .u32 0]) ?_ 2 _ rfl; (with_reducible repeat (first | refine blk_drewN ?_ _ | refine blk_drew ?_ | refine blk_alloc ?_ _)); refine blk_put (cs := #[.int .u64 0, .int .u32 0, .int .u32 0]) ?_ 1 _ rfl; (with_reducible repeat (first | refine blk_drewN ?_ _ | refine blk_drew ?_ | refine blk_alloc ?_ _)); refine blk_put (cs := #[.int .u64 0, .int .u32 0, .int .u32 0]) ?_ 0 _ rfl; exact blkt BK237) Tryz.underlying28 rfl (by kernel_rfl)) rfl ?_
  exact ⟨by first | rfl | (simp [errW_none, errW_some] <;> rfl) | (simp [*, errW_none, errW_some] <;> rfl), belt HB⟩
 replace c5 := Bool.eq_false_iff.mpr c5
 subst c5
 have H1 : (some (0, 0, 0, false)) = some (r1, r2, r3, r4) := by rw [if_neg (show ¬ (false = true) by decide)] at H; exact H
 clear H
 have H := H1
 clear H1
 simp only [Option.some.injEq, Prod.mk.injEq] at H
 obtain ⟨rfl, rfl, rfl, rfl⟩ := H
 go_enter Tryz.func58, Tryz.ntmps58
 go_wp2_with (first | ((with_reducible refine gate_dst (N := 4) rfl ?_); refine box_event ?hg (N := 4) ?hd (cs := #[.int .i64 a1_0, .int .u64 a1_1]) (t := 31) ?hr ?_; (case hd => rfl); (case hg => rfl); (case hr => first | (go_simp; done) | (go_simp; rfl)); intro gb236 hg w32 hbox hb; have BK236 := Aside0.mk (hbox); have GW236 := bels HB hg; have GE236 := bels HB hg; replace HB := belb HB hb; clear hb hbox hg) | ((with_reducible refine gate_dst (N := 6) rfl ?_); refine box_event ?hg (N := 6) ?hd (cs := #[.int .u64 0, .int .u32 0, .int .u32 0]) (t := 28) ?hr ?_; (case hd => rfl); (case hg => rfl); (case hr => first | (go_simp; done) | (go_simp; rfl)); intro gb237 hg w33 hbox hb; have BK237 := Aside0.mk (hbox); have GW237 := bels HB hg; have GE237 := bels HB hg; have NB236_237 := blkl BK236 hg; have NB237_236 := blkg BK236 hg; replace BK236 := blkb BK236 hb; replace HB := belb HB hb; clear hb hbox hg) | ((with_reducible refine gate_callee (f := 51) rfl ?_); refine goesL_ (some 14) rfl rfl Tryz.func51 (by kernel_rfl) rfl #[.int .u32 a2] rfl argt ?_; (with_reducible refine (pos_weight.calls a2 false _ A4.out).mono ?_); rintro e w' ⟨rfl, ⟨nd, rfl⟩⟩; refine ⟨_, rfl, ?_⟩; (try (rw [drewN_self w33]; generalize hq_ : World.drewN w33 _ = w33; replace BK236 : Aside0 (w33.heap[gb236]? = some (.cells #[.int .i64 a1_0, .int .u64 a1_1] 31 (0, 0))) := ⟨by rw [← hq_]; exact (blkt BK236)⟩; replace BK237 : Aside0 (w33.heap[gb237]? = some (.cells #[.int .u64 0, .int .u32 0, .int .u32 0] 28 (0, 0))) := ⟨by rw [← hq_]; exact (blkt BK237)⟩; replace HB : Aside0 (Below w.heap.size w w33) := ⟨by rw [← hq_]; exact (belt HB)⟩; clear hq_)); have hnb34 := NB237_236.out; have hnc34 := NB236_237.out; have hcz35_0 : w33.cell? ⟨gb237, 0, none⟩ = some (.int .u64 0) := bc BK237 0; have hcz35_1 : w33.cell? ⟨gb237, 1, none⟩ = some (.int .u32 0) := bc BK237 1; have hcz35_2 : w33.cell? ⟨gb237, 2, none⟩ = some (.int .u32 0) := bc BK237 2; have hfz35_0 := blk_frozen BK237.out 0; have hfz35_1 := blk_frozen BK237.out 1; have hfz35_2 := blk_frozen BK237.out 2))
 refine bodyPost_ret (results_ct rfl _ _ gb237 28 #[.int .u64 0, .int .u32 0, .int .u32 0] (0, 0) _ rfl (by (with_reducible repeat (first | refine blk_drewN ?_ _ | refine blk_drew ?_ | refine blk_alloc ?_ _)); refine blk_put (cs := #[.int .u64 0, .int .u32 0, .int .u32 0]) ?_ 2 _ rfl; (with_reducible repeat (first | refine blk_drewN ?_ _ | refine blk_drew ?_ | refine blk_alloc ?_ _)); refine blk_put (cs := #[.int .u64 0, .int .u32 0, .int .u32 0]) ?_ 1 _ rfl; (with_reducible repeat (first | refine blk_drewN ?_ _ | refine blk_drew ?_ | refine blk_alloc ?_ _)); refine blk_put (cs := #[.int .u64 0, .int .u32 0, .int .u32 0]) ?_ 0 _ rfl; exact blkt BK237) Tryz.underlying28 rfl (by kernel_rfl)) rfl ?_
 exact ⟨by first | rfl | (simp [errW_none, errW_some] <;> rfl) | (simp [*, errW_none, errW_some] <;> rfl), belt HB⟩


/-! ### pos_Pos_Move: function 23 -/
def pos_Pos_Move.f (k : Nat) (a0_0 : Int) (a0_1 : Int) (a0_2 : Int) (a1 : Int) : Option (Int × Int × Int × Bool) := (wide_OfU.f a1).bind fun bt249 => ((wide_OfU.f (IntKind.u64.wrap (a0_1))).bind fun bt251 => ((wide_Int_Add.f bt249.1 bt249.2 bt251.1 bt251.2).bind fun bt253 => ((pos_At.f k a0_0 bt253.1 bt253.2.1 a0_2).bind fun bt257 => (some (bt257.1, bt257.2.1, bt257.2.2.1, bt257.2.2.2)))))
theorem pos_Pos_Move.mono : ∀ a0 a1 a2 a3 k, LeO (pos_Pos_Move.f k a0 a1 a2 a3) (pos_Pos_Move.f (k + 1) a0 a1 a2 a3) := by
 intro a0 a1 a2 a3 k
 unfold pos_Pos_Move.f
 repeat' first
   | (with_reducible exact pos_At.mono _ _ _ _ _)
   | (with_reducible exact LeO.refl _)
   | (with_reducible exact LeO.none _)
   | (with_reducible refine LeO.ite ?_ ?_)
   | (with_reducible refine LeO.bind ?_ (fun _ => ?_))
   | exact pos_At.mono _ _ _ _ _
   | exact LeO.none _
   | refine LeO.ite ?_ ?_
   | refine LeO.bind ?_ (fun _ => ?_)
def pos_Pos_Move.T1 : Bool × List (List Nat × List Nat) := (true, [([], []), ([0], [0]), ([], []), ([2], [2]), ([3], [3]), ([4, 1], [4]), ([1, 5, 5], [1, 5]), ([6], [6]), ([7], [7]), ([7], [7]), ([], []), ([10, 8, 6, 0, 1, 2, 3, 4, 5, 6, 7, 8, 10], [8, 10]), ([9, 11, 0, 1, 2, 3, 4, 5, 6, 7, 8, 9, 10, 11], [9])])
def pos_Pos_Move.B1 : List Nat := [0, 1, 0, 4, 12, 31, 63, 127, 255, 255, 0, 1535, 4095]
theorem pos_Pos_Move.tab1 : rtab .any (opsOf Tryz.f23 1) = pos_Pos_Move.T1 := by kernel_rfl
theorem pos_Pos_Move.bits1 : waitsOk pos_Pos_Move.T1.2 pos_Pos_Move.B1 = true := by kernel_rfl
set_option maxHeartbeats 8000000 in
set_option maxRecDepth 100000 in
theorem pos_Pos_Move.calls (k : Nat) (a0_0 : Int) (a0_1 : Int) (a0_2 : Int) (a1 : Int) (r1 : Int) (r2 : Int) (r3 : Int) (r4 : Bool) (w : World) (h : pos_Pos_Move.f k a0_0 a0_1 a0_2 a1 = some (r1, r2, r3, r4)) :
  Calls Tryz.prog 23 #[.agg #[.int .u64 a0_0, .int .u32 a0_1, .int .u32 a0_2], .int .u64 a1] w fun e w' => e = .returned (.tuple #[.agg #[.int .u64 r1, .int .u32 r2, .int .u32 r3], .bool r4]) ∧ Below w.heap.size w w' := by
 have hu28 := Tryz.underlying28
 have hu31 := Tryz.underlying31
 have HB := Aside0.mk (Below.refl w.heap.size w)
 have H : ((wide_OfU.f a1).bind fun bt249 => ((wide_OfU.f (IntKind.u64.wrap (a0_1))).bind fun bt251 => ((wide_Int_Add.f bt249.1 bt249.2 bt251.1 bt251.2).bind fun bt253 => ((pos_At.f k a0_0 bt253.1 bt253.2.1 a0_2).bind fun bt257 => (some (bt257.1, bt257.2.1, bt257.2.2.1, bt257.2.2.2)))))) = some (r1, r2, r3, r4) := h
 clear h
 replace H := Option.bind_eq_some_iff.mp H
 obtain ⟨⟨t249, t250⟩, A30, H⟩ := H
 replace H : ((wide_OfU.f (IntKind.u64.wrap (a0_1))).bind fun bt251 => ((wide_Int_Add.f t249 t250 bt251.1 bt251.2).bind fun bt253 => ((pos_At.f k a0_0 bt253.1 bt253.2.1 a0_2).bind fun bt257 => (some (bt257.1, bt257.2.1, bt257.2.2.1, bt257.2.2.2))))) = some (r1, r2, r3, r4) := H
 have A3 := Aside0.mk A30
 clear A30
 replace H := Option.bind_eq_some_iff.mp H
 obtain ⟨⟨t251, t252⟩, A40, H⟩ := H
 replace H : ((wide_Int_Add.f t249 t250 t251 t252).bind fun bt253 => ((pos_At.f k a0_0 bt253.1 bt253.2.1 a0_2).bind fun bt257 => (some (bt257.1, bt257.2.1, bt257.2.2.1, bt257.2.2.2)))) = some (r1, r2, r3, r4) := H
 have A4 := Aside0.mk A40
 clear A40
 replace H := Option.bind_eq_some_iff.mp H
 obtain ⟨⟨t253, t254, t255⟩, A50, H⟩ := H
 replace H : ((pos_At.f k a0_0 t253 t254 a0_2).bind fun bt257 => (some (bt257.1, bt257.2.1, bt257.2.2.1, bt257.2.2.2))) = some (r1, r2, r3, r4) := H
 have A5 := Aside0.mk A50
 clear A50
 replace H := Option.bind_eq_some_iff.mp H
 obtain ⟨⟨t257, t258, t259, t260⟩, A60, H⟩ := H
 replace H : (some (t257, t258, t259, t260)) = some (r1, r2, r3, r4) := H
 have A6 := Aside0.mk A60
 clear A60
 simp only [Option.some.injEq, Prod.mk.injEq] at H
 obtain ⟨rfl, rfl, rfl, rfl⟩ := H
 go_enter Tryz.func23, Tryz.ntmps23
 try go_wp2_with (first | ((with_reducible refine gate_dst (N := 2) rfl ?_); refine box_event ?hg (N := 2) ?hd (cs := #[.int .u64 a0_0, .int .u32 a0_1, .int .u32 a0_2]) (t := 28) ?hr ?_; (case hd => rfl); (case hg => rfl); (case hr => first | (go_simp; done) | (go_simp; rfl)); intro gb247 hg w7 hbox hb; have BK247 := Aside0.mk (hbox); have GW247 := bels HB hg; have GE247 := bels HB hg; replace HB := belb HB hb; clear hb hbox hg) | ((with_reducible refine gate_dst (N := 4) rfl ?_); refine box_event ?hg (N := 4) ?hd (cs := #[.int .u64 0, .int .u32 0, .int .u32 0]) (t := 28) ?hr ?_; (case hd => rfl); (case hg => rfl); (case hr => first | (go_simp; done) | (go_simp; rfl)); intro gb248 hg w8 hbox hb; have BK248 := Aside0.mk (hbox); have GW248 := bels HB hg; have GE248 := bels HB hg; have NB247_248 := blkl BK247 hg; have NB248_247 := blkg BK247 hg; replace BK247 := blkb BK247 hb; replace HB := belb HB hb; clear hb hbox hg))
 replace BK247 := Aside0.mk (blk_drew BK247.out)
 replace BK248 := Aside0.mk (blk_drew BK248.out)
 replace HB := Aside0.mk (below_drew1 HB.out)
 refine start_ (n := 13) (S := fun w' => w'.cell? ⟨gb247, 0, none⟩ = some (.int .u64 a0_0) ∧ w'.cell? ⟨gb247, 1, none⟩ = some (.int .u32 a0_1) ∧ w'.cell? ⟨gb247, 2, none⟩ = some (.int .u32 a0_2)) (ds := []) #[false, false, false, false, false, false, false, false, false, false, false, false, false] (by kernel_rfl) rfl rfl ⟨bc BK247 0, bc BK247 1, bc BK247 2⟩ (fun hHeld => ?_); refine with_tabW pos_Pos_Move.tab1 pos_Pos_Move.bits1 (fun HT_ HW_ => ?_)
 generalize w8.drew = w9 at BK247 BK248 HB hHeld ⊢
 refine pure_ (i := 0) (N := some 9) (v := ?_) (a' := ?_) #[true, false, false, false, false, false, false, false, false, false, false, false, false] rfl rfl (any_of HT_.out (by kernel_rfl)) (fun _ _ _ h => h) (Or.inl ⟨by rfl, ?_⟩) ?_ ?_
 rotate_left
 ·intro w'
  go_simp
  with_reducible rfl
 rotate_left
 ·simp only [Act.put, List.setIfInBounds_toArray, List.set_cons_zero, List.set_cons_succ, i64_w, i32_w]
  rfl
 refine pure_ (i := 2) (N := some 11) (v := ?_) (a' := ?_) #[true, false, true, false, false, false, false, false, false, false, false, false, false] rfl rfl (any_of HT_.out (by kernel_rfl)) (fun _ _ _ h => h) (Or.inl ⟨by rfl, ?_⟩) ?_ ?_
 rotate_left
 ·intro w'
  go_simp
  with_reducible rfl
 rotate_left
 ·simp only [Act.put, List.setIfInBounds_toArray, List.set_cons_zero, List.set_cons_succ, i64_w, i32_w]
  rfl
 refine take_ (i := 3) (N := some 12) (v := ?_) (a' := ?_) #[true, false, true, true, false, false, false, false, false, false, false, false, false] rfl rfl (take_ofW HT_.out HW_.out (by kernel_rfl)) (fun _ _ _ h => h) (Or.inl ⟨by rfl, ?_⟩) hHeld ?_ ?_
 rotate_left
 ·rintro w' ⟨s0, s1, s2⟩
  go_simp
  with_reducible rfl
 rotate_left
 ·simp only [Act.put, List.setIfInBounds_toArray, List.set_cons_zero, List.set_cons_succ, i64_w, i32_w]
  rfl
 refine pure_ (i := 4) (N := some 13) (v := ?_) (a' := ?_) #[true, false, true, true, true, false, false, false, false, false, false, false, false] rfl rfl (any_of HT_.out (by kernel_rfl)) (fun _ _ _ h => h) (Or.inl ⟨by rfl, ?_⟩) ?_ ?_
 rotate_left
 ·intro w'
  go_simp
  with_reducible rfl
 rotate_left
 ·simp only [Act.put, List.setIfInBounds_toArray, List.set_cons_zero, List.set_cons_succ, i64_w, i32_w]
  rfl
 refine join_ (σ := Nat) 2 #[true, true, true, true, true, true, true, true, true, true, true, false, false] (fun s_ => [(10, .agg #[.int .i64 t249, .int .u64 t250]), (14, .agg #[.int .i64 t251, .int .u64 t252]), (15, .tuple #[.agg #[.int .i64 t253, .int .u64 t254], .bool t255]), (6, .pointer (some ⟨s_, 0, none⟩)), (8, .tuple #[.agg #[.int .i64 t253, .int .u64 t254], .bool t255]), (16, .agg #[.int .i64 t253, .int .u64 t254]), (17, .bool t255)]) (fun s_ w' => (w'.cell? ⟨gb247, 0, none⟩ = some (.int .u64 a0_0) ∧ w'.cell? ⟨gb247, 1, none⟩ = some (.int .u32 a0_1) ∧ w'.cell? ⟨gb247, 2, none⟩ = some (.int .u32 a0_2)) ∧ (w'.heap[gb247]? = some (.cells #[.int .u64 a0_0, .int .u32 a0_1, .int .u32 a0_2] 28 (0, 0))) ∧ (w'.heap[gb248]? = some (.cells #[.int .u64 0, .int .u32 0, .int .u32 0] 28 (0, 0))) ∧ (w'.heap[s_]? = some (.cells #[.int .i64 0, .int .u64 0] 31 (0, 0))) ∧ (w.heap.size ≤ s_) ∧ (w.heap.size ≤ s_) ∧ (gb247 ≠ s_) ∧ (s_ ≠ gb247) ∧ (gb248 ≠ s_) ∧ (s_ ≠ gb248) ∧ (Below w.heap.size w w')) ?_ ?_
 rotate_left
 ·intro hCont
  refine two_ (i := 1) (j := 10) (Ni := some 10) (Nj := some 6) #[true, true, true, true, true, false, false, false, false, false, false, false, false] #[true, false, true, true, true, false, false, false, false, false, true, false, false] rfl rfl rfl rfl (two_of HT_.out (by kernel_rfl)) (by decide) (by decide) (fun K hK => ?_) (fun K hK => ?_)
  ·skip
   refine goes_ Tryz.func53 (by kernel_rfl) rfl #[.int .u64 a1] (by rfl) rfl rfl argt ?_
   with_reducible refine (wide_OfU.calls a1 t249 t250 _ A3.out).mono ?_
   rintro e w10 ⟨rfl, hb⟩
   refine ⟨_, rfl, ?_⟩
   replace BK247 := blkb BK247 hb
   replace BK248 := blkb BK248 hb
   replace HB := belb HB hb
   (try clear hb)
   (try clear hb2)
   (try clear hk)
   (try clear hi)
   refine hK.out _ _ ⟨bc BK247 0, bc BK247 1, bc BK247 2⟩ (fun hHeld => ?_)
   clear hK K
   refine norm_ (a' := ?_) ?_ ?_
   rotate_left
   ·show Act.put _ (some 10) _ = _
    simp only [Act.put, List.setIfInBounds_toArray, List.set_cons_zero, List.set_cons_succ, i64_w, i32_w]
    rfl
   refine two_ (i := 5) (j := 10) (Ni := some 14) (Nj := some 6) #[true, true, true, true, true, true, false, false, false, false, false, false, false] #[true, true, true, true, true, false, false, false, false, false, true, false, false] rfl rfl rfl rfl (two_of HT_.out (by kernel_rfl)) (by decide) (by decide) (fun K hK => ?_) (fun K hK => ?_)
   ·skip
    refine goes_ Tryz.func53 (by kernel_rfl) rfl #[.int .u64 (IntKind.u64.wrap (a0_1))] (by rfl) rfl rfl argt ?_
    with_reducible refine (wide_OfU.calls (IntKind.u64.wrap (a0_1)) t251 t252 _ A4.out).mono ?_
    rintro e w11 ⟨rfl, hb⟩
    refine ⟨_, rfl, ?_⟩
    replace BK247 := blkb BK247 hb
    replace BK248 := blkb BK248 hb
    replace HB := belb HB hb
    (try clear hb)
    (try clear hb2)
    (try clear hk)
    (try clear hi)
    refine hK.out _ _ ⟨bc BK247 0, bc BK247 1, bc BK247 2⟩ (fun hHeld => ?_)
    clear hK K
    refine norm_ (a' := ?_) ?_ ?_
    rotate_left
    ·show Act.put _ (some 14) _ = _
     simp only [Act.put, List.setIfInBounds_toArray, List.set_cons_zero, List.set_cons_succ, i64_w, i32_w]
     rfl
    refine two_ (i := 6) (j := 10) (Ni := some 15) (Nj := some 6) #[true, true, true, true, true, true, true, false, false, false, false, false, false] #[true, true, true, true, true, true, false, false, false, false, true, false, false] rfl rfl rfl rfl (two_of HT_.out (by kernel_rfl)) (by decide) (by decide) (fun K hK => ?_) (fun K hK => ?_)
    ·skip
     refine goes_ Tryz.func57 (by kernel_rfl) rfl #[.agg #[.int .i64 t249, .int .u64 t250], .agg #[.int .i64 t251, .int .u64 t252]] (by rfl) rfl rfl argt ?_
     with_reducible refine (wide_Int_Add.calls t249 t250 t251 t252 t253 t254 t255 _ A5.out).mono ?_
     rintro e w12 ⟨rfl, hb⟩
     refine ⟨_, rfl, ?_⟩
     replace BK247 := blkb BK247 hb
     replace BK248 := blkb BK248 hb
     replace HB := belb HB hb
     (try clear hb)
     (try clear hb2)
     (try clear hk)
     (try clear hi)
     refine hK.out _ _ ⟨bc BK247 0, bc BK247 1, bc BK247 2⟩ (fun hHeld => ?_)
     clear hK K
     refine norm_ (a' := ?_) ?_ ?_
     rotate_left
     ·show Act.put _ (some 15) _ = _
      simp only [Act.put, List.setIfInBounds_toArray, List.set_cons_zero, List.set_cons_succ, i64_w, i32_w]
      rfl
     refine pure_ (i := 7) (N := some 8) (v := ?_) (a' := ?_) #[true, true, true, true, true, true, true, true, false, false, false, false, false] rfl rfl (any_of HT_.out (by kernel_rfl)) (fun _ _ _ h => h) (Or.inl ⟨by rfl, ?_⟩) ?_ ?_
     rotate_left
     ·intro w'
      go_simp
      with_reducible rfl
     rotate_left
     ·simp only [Act.put, List.setIfInBounds_toArray, List.set_cons_zero, List.set_cons_succ, i64_w, i32_w]
      rfl
     refine pure_ (i := 8) (N := some 16) (v := ?_) (a' := ?_) #[true, true, true, true, true, true, true, true, true, false, false, false, false] rfl rfl (any_of HT_.out (by kernel_rfl)) (fun _ _ _ h => h) (Or.inl ⟨by rfl, ?_⟩) ?_ ?_
     rotate_left
     ·intro w'
      go_simp
      with_reducible rfl
     rotate_left
     ·simp only [Act.put, List.setIfInBounds_toArray, List.set_cons_zero, List.set_cons_succ, i64_w, i32_w]
      rfl
     refine pure_ (i := 9) (N := some 17) (v := ?_) (a' := ?_) #[true, true, true, true, true, true, true, true, true, true, false, false, false] rfl rfl (any_of HT_.out (by kernel_rfl)) (fun _ _ _ h => h) (Or.inl ⟨by rfl, ?_⟩) ?_ ?_
     rotate_left
     ·intro w'
      go_simp
      with_reducible rfl
     rotate_left
     ·simp only [Act.put, List.setIfInBounds_toArray, List.set_cons_zero, List.set_cons_succ, i64_w, i32_w]
      rfl
     refine one_ (i := 10) (N := some 6) #[true, true, true, true, true, true, true, true, true, true, true, false, false] rfl rfl (one_of HT_.out (by kernel_rfl)) (by decide) (fun K hK => ?_)
     refine box_step ?hg (N := 6) ?hd (cs := #[.int .i64 0, .int .u64 0]) (t := 31) ?hr ?_; (case hd => rfl); (case hg => rfl); (case hr => first | (go_simp; done) | (go_simp; rfl))
     intro gb256 hg w13 hbox hb
     have BK256 := Aside0.mk (hbox)
     have GW256 := bels HB hg
     have GE256 := bels HB hg
     have NB247_256 := blkl BK247 hg
     have NB256_247 := blkg BK247 hg
     have NB248_256 := blkl BK248 hg
     have NB256_248 := blkg BK248 hg
     replace BK247 := blkb BK247 hb
     replace BK248 := blkb BK248 hb
     replace HB := belb HB hb
     clear hb hbox hg
     refine hK.out _ _ ⟨bc BK247 0, bc BK247 1, bc BK247 2⟩ (fun hHeld => ?_)
     clear hK K
     refine norm_ (a' := ?_) ?_ ?_
     rotate_left
     ·show Act.put _ (some 6) _ = _
      simp only [Act.put, List.setIfInBounds_toArray, List.set_cons_zero, List.set_cons_succ, i64_w, i32_w]
      rfl
     exact norm_ (by simp only [putAll, Act.put, List.setIfInBounds_toArray, List.set_cons_zero, List.set_cons_succ]) (hCont (gb256) _ ⟨hHeld, (blkt BK247), (blkt BK248), (blkt BK256), GW256.out, GE256.out, NB247_256.out, NB256_247.out, NB248_256.out, NB256_248.out, (belt HB)⟩)
    skip
    refine box_step ?hg (N := 6) ?hd (cs := #[.int .i64 0, .int .u64 0]) (t := 31) ?hr ?_; (case hd => rfl); (case hg => rfl); (case hr => first | (go_simp; done) | (go_simp; rfl))
    intro gb256 hg w12 hbox hb
    have BK256 := Aside0.mk (hbox)
    have GW256 := bels HB hg
    have GE256 := bels HB hg
    have NB247_256 := blkl BK247 hg
    have NB256_247 := blkg BK247 hg
    have NB248_256 := blkl BK248 hg
    have NB256_248 := blkg BK248 hg
    replace BK247 := blkb BK247 hb
    replace BK248 := blkb BK248 hb
    replace HB := belb HB hb
    clear hb hbox hg
    refine hK.out _ _ ⟨bc BK247 0, bc BK247 1, bc BK247 2⟩ (fun hHeld => ?_)
    clear hK K
    refine norm_ (a' := ?_) ?_ ?_
    rotate_left
    ·show Act.put _ (some 6) _ = _
     simp only [Act.put, List.setIfInBounds_toArray, List.set_cons_zero, List.set_cons_succ, i64_w, i32_w]
     rfl
    refine one_ (i := 6) (N := some 15) #[true, true, true, true, true, true, true, false, false, false, true, false, false] rfl rfl (one_of HT_.out (by kernel_rfl)) (by decide) (fun K hK => ?_)
    refine goes_ Tryz.func57 (by kernel_rfl) rfl #[.agg #[.int .i64 t249, .int .u64 t250], .agg #[.int .i64 t251, .int .u64 t252]] (by rfl) rfl rfl argt ?_
    with_reducible refine (wide_Int_Add.calls t249 t250 t251 t252 t253 t254 t255 _ A5.out).mono ?_
    rintro e w13 ⟨rfl, hb⟩
    refine ⟨_, rfl, ?_⟩
    replace BK247 := blkb BK247 hb
    replace BK248 := blkb BK248 hb
    replace BK256 := blkb BK256 hb
    replace HB := belb HB hb
    (try clear hb)
    (try clear hb2)
    (try clear hk)
    (try clear hi)
    refine hK.out _ _ ⟨bc BK247 0, bc BK247 1, bc BK247 2⟩ (fun hHeld => ?_)
    clear hK K
    refine norm_ (a' := ?_) ?_ ?_
    rotate_left
    ·show Act.put _ (some 15) _ = _
     simp only [Act.put, List.setIfInBounds_toArray, List.set_cons_zero, List.set_cons_succ, i64_w, i32_w]
     rfl
    refine pure_ (i := 7) (N := some 8) (v := ?_) (a' := ?_) #[true, true, true, true, true, true, true, true, false, false, true, false, false] rfl rfl (any_of HT_.out (by kernel_rfl)) (fun _ _ _ h => h) (Or.inl ⟨by rfl, ?_⟩) ?_ ?_
    rotate_left
    ·intro w'
     go_simp
     with_reducible rfl
    rotate_left
    ·simp only [Act.put, List.setIfInBounds_toArray, List.set_cons_zero, List.set_cons_succ, i64_w, i32_w]
     rfl
    refine pure_ (i := 8) (N := some 16) (v := ?_) (a' := ?_) #[true, true, true, true, true, true, true, true, true, false, true, false, false] rfl rfl (any_of HT_.out (by kernel_rfl)) (fun _ _ _ h => h) (Or.inl ⟨by rfl, ?_⟩) ?_ ?_
    rotate_left
    ·intro w'
     go_simp
     with_reducible rfl
    rotate_left
    ·simp only [Act.put, List.setIfInBounds_toArray, List.set_cons_zero, List.set_cons_succ, i64_w, i32_w]
     rfl
    refine pure_ (i := 9) (N := some 17) (v := ?_) (a' := ?_) #[true, true, true, true, true, true, true, true, true, true, true, false, false] rfl rfl (any_of HT_.out (by kernel_rfl)) (fun _ _ _ h => h) (Or.inl ⟨by rfl, ?_⟩) ?_ ?_
    rotate_left
    ·intro w'
     go_simp
     with_reducible rfl
    rotate_left
    ·simp only [Act.put, List.setIfInBounds_toArray, List.set_cons_zero, List.set_cons_succ, i64_w, i32_w]
     rfl
    exact norm_ (by simp only [putAll, Act.put, List.setIfInBounds_toArray, List.set_cons_zero, List.set_cons_succ]) (hCont (gb256) _ ⟨hHeld, (blkt BK247), (blkt BK248), (blkt BK256), GW256.out, GE256.out, NB247_256.out, NB256_247.out, NB248_256.out, NB256_248.out, (belt HB)⟩)
   skip
   refine box_step ?hg (N := 6) ?hd (cs := #[.int .i64 0, .int .u64 0]) (t := 31) ?hr ?_; (case hd => rfl); (case hg => rfl); (case hr => first | (go_simp; done) | (go_simp; rfl))
   intro gb256 hg w11 hbox hb
   have BK256 := Aside0.mk (hbox)
   have GW256 := bels HB hg
   have GE256 := bels HB hg
   have NB247_256 := blkl BK247 hg
   have NB256_247 := blkg BK247 hg
   have NB248_256 := blkl BK248 hg
   have NB256_248 := blkg BK248 hg
   replace BK247 := blkb BK247 hb
   replace BK248 := blkb BK248 hb
   replace HB := belb HB hb
   clear hb hbox hg
   refine hK.out _ _ ⟨bc BK247 0, bc BK247 1, bc BK247 2⟩ (fun hHeld => ?_)
   clear hK K
   refine norm_ (a' := ?_) ?_ ?_
   rotate_left
   ·show Act.put _ (some 6) _ = _
    simp only [Act.put, List.setIfInBounds_toArray, List.set_cons_zero, List.set_cons_succ, i64_w, i32_w]
    rfl
   refine one_ (i := 5) (N := some 14) #[true, true, true, true, true, true, false, false, false, false, true, false, false] rfl rfl (one_of HT_.out (by kernel_rfl)) (by decide) (fun K hK => ?_)
   refine goes_ Tryz.func53 (by kernel_rfl) rfl #[.int .u64 (IntKind.u64.wrap (a0_1))] (by rfl) rfl rfl argt ?_
   with_reducible refine (wide_OfU.calls (IntKind.u64.wrap (a0_1)) t251 t252 _ A4.out).mono ?_
   rintro e w12 ⟨rfl, hb⟩
   refine ⟨_, rfl, ?_⟩
   replace BK247 := blkb BK247 hb
   replace BK248 := blkb BK248 hb
   replace BK256 := blkb BK256 hb
   replace HB := belb HB hb
   (try clear hb)
   (try clear hb2)
   (try clear hk)
   (try clear hi)
   refine hK.out _ _ ⟨bc BK247 0, bc BK247 1, bc BK247 2⟩ (fun hHeld => ?_)
   clear hK K
   refine norm_ (a' := ?_) ?_ ?_
   rotate_left
   ·show Act.put _ (some 14) _ = _
    simp only [Act.put, List.setIfInBounds_toArray, List.set_cons_zero, List.set_cons_succ, i64_w, i32_w]
    rfl
   refine one_ (i := 6) (N := some 15) #[true, true, true, true, true, true, true, false, false, false, true, false, false] rfl rfl (one_of HT_.out (by kernel_rfl)) (by decide) (fun K hK => ?_)
   refine goes_ Tryz.func57 (by kernel_rfl) rfl #[.agg #[.int .i64 t249, .int .u64 t250], .agg #[.int .i64 t251, .int .u64 t252]] (by rfl) rfl rfl argt ?_
   with_reducible refine (wide_Int_Add.calls t249 t250 t251 t252 t253 t254 t255 _ A5.out).mono ?_
   rintro e w13 ⟨rfl, hb⟩
   refine ⟨_, rfl, ?_⟩
   replace BK247 := blkb BK247 hb
   replace BK248 := blkb BK248 hb
   replace BK256 := blkb BK256 hb
   replace HB := belb HB hb
   (try clear hb)
   (try clear hb2)
   (try clear hk)
   (try clear hi)
   refine hK.out _ _ ⟨bc BK247 0, bc BK247 1, bc BK247 2⟩ (fun hHeld => ?_)
   clear hK K
   refine norm_ (a' := ?_) ?_ ?_
   rotate_left
   ·show Act.put _ (some 15) _ = _
    simp only [Act.put, List.setIfInBounds_toArray, List.set_cons_zero, List.set_cons_succ, i64_w, i32_w]
    rfl
   refine pure_ (i := 7) (N := some 8) (v := ?_) (a' := ?_) #[true, true, true, true, true, true, true, true, false, false, true, false, false] rfl rfl (any_of HT_.out (by kernel_rfl)) (fun _ _ _ h => h) (Or.inl ⟨by rfl, ?_⟩) ?_ ?_
   rotate_left
   ·intro w'
    go_simp
    with_reducible rfl
   rotate_left
   ·simp only [Act.put, List.setIfInBounds_toArray, List.set_cons_zero, List.set_cons_succ, i64_w, i32_w]
    rfl
   refine pure_ (i := 8) (N := some 16) (v := ?_) (a' := ?_) #[true, true, true, true, true, true, true, true, true, false, true, false, false] rfl rfl (any_of HT_.out (by kernel_rfl)) (fun _ _ _ h => h) (Or.inl ⟨by rfl, ?_⟩) ?_ ?_
   rotate_left
   ·intro w'
    go_simp
    with_reducible rfl
   rotate_left
   ·simp only [Act.put, List.setIfInBounds_toArray, List.set_cons_zero, List.set_cons_succ, i64_w, i32_w]
    rfl
   refine pure_ (i := 9) (N := some 17) (v := ?_) (a' := ?_) #[true, true, true, true, true, true, true, true, true, true, true, false, false] rfl rfl (any_of HT_.out (by kernel_rfl)) (fun _ _ _ h => h) (Or.inl ⟨by rfl, ?_⟩) ?_ ?_
   rotate_left
   ·intro w'
    go_simp
    with_reducible rfl
   rotate_left
   ·simp only [Act.put, List.setIfInBounds_toArray, List.set_cons_zero, List.set_cons_succ, i64_w, i32_w]
    rfl
   exact norm_ (by simp only [putAll, Act.put, List.setIfInBounds_toArray, List.set_cons_zero, List.set_cons_succ]) (hCont (gb256) _ ⟨hHeld, (blkt BK247), (blkt BK248), (blkt BK256), GW256.out, GE256.out, NB247_256.out, NB256_247.out, NB248_256.out, NB256_248.out, (belt HB)⟩)
  skip
  refine box_step ?hg (N := 6) ?hd (cs := #[.int .i64 0, .int .u64 0]) (t := 31) ?hr ?_; (case hd => rfl); (case hg => rfl); (case hr => first | (go_simp; done) | (go_simp; rfl))
  intro gb256 hg w10 hbox hb
  have BK256 := Aside0.mk (hbox)
  have GW256 := bels HB hg
  have GE256 := bels HB hg
  have NB247_256 := blkl BK247 hg
  have NB256_247 := blkg BK247 hg
  have NB248_256 := blkl BK248 hg
  have NB256_248 := blkg BK248 hg
  replace BK247 := blkb BK247 hb
  replace BK248 := blkb BK248 hb
  replace HB := belb HB hb
  clear hb hbox hg
  refine hK.out _ _ ⟨bc BK247 0, bc BK247 1, bc BK247 2⟩ (fun hHeld => ?_)
  clear hK K
  refine norm_ (a' := ?_) ?_ ?_
  rotate_left
  ·show Act.put _ (some 6) _ = _
   simp only [Act.put, List.setIfInBounds_toArray, List.set_cons_zero, List.set_cons_succ, i64_w, i32_w]
   rfl
  refine one_ (i := 1) (N := some 10) #[true, true, true, true, true, false, false, false, false, false, true, false, false] rfl rfl (one_of HT_.out (by kernel_rfl)) (by decide) (fun K hK => ?_)
  refine goes_ Tryz.func53 (by kernel_rfl) rfl #[.int .u64 a1] (by rfl) rfl rfl argt ?_
  with_reducible refine (wide_OfU.calls a1 t249 t250 _ A3.out).mono ?_
  rintro e w11 ⟨rfl, hb⟩
  refine ⟨_, rfl, ?_⟩
  replace BK247 := blkb BK247 hb
  replace BK248 := blkb BK248 hb
  replace BK256 := blkb BK256 hb
  replace HB := belb HB hb
  (try clear hb)
  (try clear hb2)
  (try clear hk)
  (try clear hi)
  refine hK.out _ _ ⟨bc BK247 0, bc BK247 1, bc BK247 2⟩ (fun hHeld => ?_)
  clear hK K
  refine norm_ (a' := ?_) ?_ ?_
  rotate_left
  ·show Act.put _ (some 10) _ = _
   simp only [Act.put, List.setIfInBounds_toArray, List.set_cons_zero, List.set_cons_succ, i64_w, i32_w]
   rfl
  refine one_ (i := 5) (N := some 14) #[true, true, true, true, true, true, false, false, false, false, true, false, false] rfl rfl (one_of HT_.out (by kernel_rfl)) (by decide) (fun K hK => ?_)
  refine goes_ Tryz.func53 (by kernel_rfl) rfl #[.int .u64 (IntKind.u64.wrap (a0_1))] (by rfl) rfl rfl argt ?_
  with_reducible refine (wide_OfU.calls (IntKind.u64.wrap (a0_1)) t251 t252 _ A4.out).mono ?_
  rintro e w12 ⟨rfl, hb⟩
  refine ⟨_, rfl, ?_⟩
  replace BK247 := blkb BK247 hb
  replace BK248 := blkb BK248 hb
  replace BK256 := blkb BK256 hb
  replace HB := belb HB hb
  (try clear hb)
  (try clear hb2)
  (try clear hk)
  (try clear hi)
  refine hK.out _ _ ⟨bc BK247 0, bc BK247 1, bc BK247 2⟩ (fun hHeld => ?_)
  clear hK K
  refine norm_ (a' := ?_) ?_ ?_
  rotate_left
  ·show Act.put _ (some 14) _ = _
   simp only [Act.put, List.setIfInBounds_toArray, List.set_cons_zero, List.set_cons_succ, i64_w, i32_w]
   rfl
  refine one_ (i := 6) (N := some 15) #[true, true, true, true, true, true, true, false, false, false, true, false, false] rfl rfl (one_of HT_.out (by kernel_rfl)) (by decide) (fun K hK => ?_)
  refine goes_ Tryz.func57 (by kernel_rfl) rfl #[.agg #[.int .i64 t249, .int .u64 t250], .agg #[.int .i64 t251, .int .u64 t252]] (by rfl) rfl rfl argt ?_
  with_reducible refine (wide_Int_Add.calls t249 t250 t251 t252 t253 t254 t255 _ A5.out).mono ?_
  rintro e w13 ⟨rfl, hb⟩
  refine ⟨_, rfl, ?_⟩
  replace BK247 := blkb BK247 hb
  replace BK248 := blkb BK248 hb
  replace BK256 := blkb BK256 hb
  replace HB := belb HB hb
  (try clear hb)
  (try clear hb2)
  (try clear hk)
  (try clear hi)
  refine hK.out _ _ ⟨bc BK247 0, bc BK247 1, bc BK247 2⟩ (fun hHeld => ?_)
  clear hK K
  refine norm_ (a' := ?_) ?_ ?_
  rotate_left
  ·show Act.put _ (some 15) _ = _
   simp only [Act.put, List.setIfInBounds_toArray, List.set_cons_zero, List.set_cons_succ, i64_w, i32_w]
   rfl
  refine pure_ (i := 7) (N := some 8) (v := ?_) (a' := ?_) #[true, true, true, true, true, true, true, true, false, false, true, false, false] rfl rfl (any_of HT_.out (by kernel_rfl)) (fun _ _ _ h => h) (Or.inl ⟨by rfl, ?_⟩) ?_ ?_
  rotate_left
  ·intro w'
   go_simp
   with_reducible rfl
  rotate_left
  ·simp only [Act.put, List.setIfInBounds_toArray, List.set_cons_zero, List.set_cons_succ, i64_w, i32_w]
   rfl
  refine pure_ (i := 8) (N := some 16) (v := ?_) (a' := ?_) #[true, true, true, true, true, true, true, true, true, false, true, false, false] rfl rfl (any_of HT_.out (by kernel_rfl)) (fun _ _ _ h => h) (Or.inl ⟨by rfl, ?_⟩) ?_ ?_
  rotate_left
  ·intro w'
   go_simp
   with_reducible rfl
  rotate_left
  ·simp only [Act.put, List.setIfInBounds_toArray, List.set_cons_zero, List.set_cons_succ, i64_w, i32_w]
   rfl
  refine pure_ (i := 9) (N := some 17) (v := ?_) (a' := ?_) #[true, true, true, true, true, true, true, true, true, true, true, false, false] rfl rfl (any_of HT_.out (by kernel_rfl)) (fun _ _ _ h => h) (Or.inl ⟨by rfl, ?_⟩) ?_ ?_
  rotate_left
  ·intro w'
   go_simp
   with_reducible rfl
  rotate_left
  ·simp only [Act.put, List.setIfInBounds_toArray, List.set_cons_zero, List.set_cons_succ, i64_w, i32_w]
   rfl
  exact norm_ (by simp only [putAll, Act.put, List.setIfInBounds_toArray, List.set_cons_zero, List.set_cons_succ]) (hCont (gb256) _ ⟨hHeld, (blkt BK247), (blkt BK248), (blkt BK256), GW256.out, GE256.out, NB247_256.out, NB256_247.out, NB248_256.out, NB256_248.out, (belt HB)⟩)
 rintro gb256 w14 ⟨hS_, h0_, h1_, h2_, h3_, h4_, h5_, h6_, h7_, h8_, h9_⟩
 replace BK247 : Aside0 (w14.heap[gb247]? = some (.cells #[.int .u64 a0_0, .int .u32 a0_1, .int .u32 a0_2] 28 (0, 0))) := ⟨h0_⟩
 replace BK248 : Aside0 (w14.heap[gb248]? = some (.cells #[.int .u64 0, .int .u32 0, .int .u32 0] 28 (0, 0))) := ⟨h1_⟩
 have BK256 : Aside0 (w14.heap[gb256]? = some (.cells #[.int .i64 0, .int .u64 0] 31 (0, 0))) := ⟨h2_⟩
 have GW256 : Aside0 (w.heap.size ≤ gb256) := ⟨h3_⟩
 have GE256 : Aside0 (w.heap.size ≤ gb256) := ⟨h4_⟩
 have NB247_256 : Aside0 (gb247 ≠ gb256) := ⟨h5_⟩
 have NB256_247 : Aside0 (gb256 ≠ gb247) := ⟨h6_⟩
 have NB248_256 : Aside0 (gb248 ≠ gb256) := ⟨h7_⟩
 have NB256_248 : Aside0 (gb256 ≠ gb248) := ⟨h8_⟩
 replace HB : Aside0 (Below w.heap.size w w14) := ⟨h9_⟩
 clear h0_ h1_ h2_ h3_ h4_ h5_ h6_ h7_ h8_ h9_
 have hHeld : w14.cell? ⟨gb247, 0, none⟩ = some (.int .u64 a0_0) ∧ w14.cell? ⟨gb247, 1, none⟩ = some (.int .u32 a0_1) ∧ w14.cell? ⟨gb247, 2, none⟩ = some (.int .u32 a0_2) := hS_
 refine norm_ (a' := ?_) ?_ ?_
 rotate_left
 ·simp only [putAll, Act.put, List.setIfInBounds_toArray, List.set_cons_zero, List.set_cons_succ]
  rfl
 refine one_ (i := 11) (N := none) #[true, true, true, true, true, true, true, true, true, true, true, true, false] rfl rfl (one_of HT_.out (by kernel_rfl)) (by decide) (fun K hK => ?_)
 have hs15 : w14.cell? ⟨gb256, 0, none⟩ = some (.int .i64 0) := bc BK256 0
 have hfs15 := blk_frozen BK256.out 0
 have hns15_0 := NB247_256.out
 have hns15_1 := NB248_256.out
 have hms15_0 := NB256_247.out
 have hms15_1 := NB256_248.out
 have hs16 : w14.cell? ⟨gb256, 1, none⟩ = some (.int .u64 0) := bc BK256 1
 have hfs16 := blk_frozen BK256.out 1
 have hns16_0 := NB247_256.out
 have hns16_1 := NB248_256.out
 have hms16_0 := NB256_247.out
 have hms16_1 := NB256_248.out
 refine skip_ (w1 := ?_) (by rfl) rfl ?_ ?_
 rotate_left
 ·go_simp
  rfl
 refine hK.out _ _ ⟨((cell_far (p := ⟨gb256, _, none⟩) NB247_256.out _).trans (((cell_far (p := ⟨gb256, _, none⟩) NB247_256.out _).trans (hHeld.1)))), ((cell_far (p := ⟨gb256, _, none⟩) NB247_256.out _).trans (((cell_far (p := ⟨gb256, _, none⟩) NB247_256.out _).trans (hHeld.2.1)))), ((cell_far (p := ⟨gb256, _, none⟩) NB247_256.out _).trans (((cell_far (p := ⟨gb256, _, none⟩) NB247_256.out _).trans (hHeld.2.2))))⟩ (fun hHeld => ?_)
 clear hK K
 refine pure_ (i := 12) (N := some 7) (v := ?_) (a' := ?_) #[true, true, true, true, true, true, true, true, true, true, true, true, true] rfl rfl (any_of HT_.out (by kernel_rfl)) (fun _ _ _ h => h) (Or.inl ⟨by rfl, ?_⟩) ?_ ?_
 rotate_left
 ·intro w'
  go_simp
  with_reducible rfl
 rotate_left
 ·simp only [Act.put, List.setIfInBounds_toArray, List.set_cons_zero, List.set_cons_succ, i64_w, i32_w]
  rfl
 refine done_ (done_of HT_.out (by kernel_rfl)) ?_
 have hnb17 := NB247_248.out
 have hnc17 := NB248_247.out
 have hnb18 := NB247_256.out
 have hnc18 := NB256_247.out
 have hcz19_0 : w14.cell? ⟨gb247, 0, none⟩ = some (.int .u64 a0_0) := bc BK247 0
 have hcz19_1 : w14.cell? ⟨gb247, 1, none⟩ = some (.int .u32 a0_1) := bc BK247 1
 have hcz19_2 : w14.cell? ⟨gb247, 2, none⟩ = some (.int .u32 a0_2) := bc BK247 2
 have hfz19_0 := blk_frozen BK247.out 0
 have hfz19_1 := blk_frozen BK247.out 1
 have hfz19_2 := blk_frozen BK247.out 2
 have hnb20 := NB256_248.out
 have hnc20 := NB248_256.out
 have hcz21_0 : w14.cell? ⟨gb256, 0, none⟩ = some (.int .i64 0) := bc BK256 0
 have hcz21_1 : w14.cell? ⟨gb256, 1, none⟩ = some (.int .u64 0) := bc BK256 1
 have hfz21_0 := blk_frozen BK256.out 0
 have hfz21_1 := blk_frozen BK256.out 1
 try go_wp2_with (first | ((with_reducible refine gate_callee (f := 58) rfl ?_); refine goesL_ (some 23) rfl rfl Tryz.func58 (by kernel_rfl) rfl #[.int .u64 a0_0, .agg #[.int .i64 t253, .int .u64 t254], .int .u32 a0_2] rfl argt ?_; (with_reducible refine (pos_At.calls k a0_0 t253 t254 a0_2 t257 t258 t259 t260 _ A6.out).mono ?_); rintro e w22 ⟨rfl, hb⟩; refine ⟨_, rfl, ?_⟩; replace BK247 := Aside0.mk (blk_below (g := gb247) (o := .cells #[.int .u64 a0_0, .int .u32 a0_1, .int .u32 a0_2] 28 (0, 0)) (by (with_reducible repeat (first | refine blk_drewN ?_ _ | refine blk_drew ?_ | refine blk_alloc ?_ _)); refine blk_far ?_ NB247_256.out _; (with_reducible repeat (first | refine blk_drewN ?_ _ | refine blk_drew ?_ | refine blk_alloc ?_ _)); refine blk_far ?_ NB247_256.out _; exact blkt BK247) hb); replace BK248 := Aside0.mk (blk_below (g := gb248) (o := .cells #[.int .u64 0, .int .u32 0, .int .u32 0] 28 (0, 0)) (by (with_reducible repeat (first | refine blk_drewN ?_ _ | refine blk_drew ?_ | refine blk_alloc ?_ _)); refine blk_far ?_ NB248_256.out _; (with_reducible repeat (first | refine blk_drewN ?_ _ | refine blk_drew ?_ | refine blk_alloc ?_ _)); refine blk_far ?_ NB248_256.out _; exact blkt BK248) hb); replace BK256 := Aside0.mk (blk_below (g := gb256) (o := .cells #[.int .i64 t253, .int .u64 t254] 31 (0, 0)) (by (with_reducible repeat (first | refine blk_drewN ?_ _ | refine blk_drew ?_ | refine blk_alloc ?_ _)); refine blk_put (cs := #[.int .i64 t253, .int .u64 0]) ?_ 1 _ rfl; (with_reducible repeat (first | refine blk_drewN ?_ _ | refine blk_drew ?_ | refine blk_alloc ?_ _)); refine blk_put (cs := #[.int .i64 0, .int .u64 0]) ?_ 0 _ rfl; exact blkt BK256) hb); replace HB := belb HB hb; (try clear hb); (try clear hb2); (try clear hk); (try clear hi); have hcz23_0 : w22.cell? ⟨gb248, 0, none⟩ = some (.int .u64 0) := bc BK248 0; have hcz23_1 : w22.cell? ⟨gb248, 1, none⟩ = some (.int .u32 0) := bc BK248 1; have hcz23_2 : w22.cell? ⟨gb248, 2, none⟩ = some (.int .u32 0) := bc BK248 2; have hfz23_0 := blk_frozen BK248.out 0; have hfz23_1 := blk_frozen BK248.out 1; have hfz23_2 := blk_frozen BK248.out 2))
 refine bodyPost_ret (results_ct rfl _ _ gb248 28 #[.int .u64 t257, .int .u32 t258, .int .u32 t259] (0, 0) _ rfl (by (with_reducible repeat (first | refine blk_drewN ?_ _ | refine blk_drew ?_ | refine blk_alloc ?_ _)); refine blk_put (cs := #[.int .u64 t257, .int .u32 t258, .int .u32 0]) ?_ 2 _ rfl; (with_reducible repeat (first | refine blk_drewN ?_ _ | refine blk_drew ?_ | refine blk_alloc ?_ _)); refine blk_put (cs := #[.int .u64 t257, .int .u32 0, .int .u32 0]) ?_ 1 _ rfl; (with_reducible repeat (first | refine blk_drewN ?_ _ | refine blk_drew ?_ | refine blk_alloc ?_ _)); refine blk_put (cs := #[.int .u64 0, .int .u32 0, .int .u32 0]) ?_ 0 _ rfl; exact blkt BK248) Tryz.underlying28 rfl (by kernel_rfl)) rfl ?_
 exact ⟨by first | rfl | (simp [errW_none, errW_some] <;> rfl) | (simp [*, errW_none, errW_some] <;> rfl), belt HB⟩


/-! ### turnstonelaw09_awake: function 15 -/
def turnstonelaw09_awake.f : Option Bool := some true
theorem turnstonelaw09_awake.calls (r : Bool) (w : World) (h : turnstonelaw09_awake.f = some r) : Calls Tryz.prog 15 #[] w fun e w' => e = .returned (.bool r) ∧ Below w.heap.size w w' := by
 obtain rfl := Option.some.inj h
 exact Go.Proofs.YtfbkamgdkdnpoaaGreatDoor.Awake.at15 w


/-! ### mean_Mean_Take: function 24 -/
def mean_Mean_Take.j0 : Nat → Bool → Int → Int → Int → Int → Int → Int → Int → Int → Option (Int × Int × Int × Int × Int × Bool)
 | 0, _, _, _, _, _, _, _, _, _ => none
 | k + 1, x29, x262000, x262001, x262002, x262003, x262004, x263000, x263001, x263002 => if x29 = true then (some (0, 0, 0, 0, 0, false)) else ((pos_Pos_Distance.f k x263000 x263001 x263002 x262000).bind fun bt266 => ((wide_Int_Sub.f x262001 x262002 bt266.1 bt266.2).bind fun bt268 => (if bt268.2.2 = true then ((mean_Mean_Right.f x262000 bt268.1 bt268.2.1 (IntKind.u64.wrap (x262003 - (IntKind.u64.wrap (x263002)))) (wrap64 (x262004 - 1))).bind fun t273 => (if t273 = true then (some (x262000, bt268.1, bt268.2.1, IntKind.u64.wrap (x262003 - (IntKind.u64.wrap (x263002))), wrap64 (x262004 - 1), true)) else (some (0, 0, 0, 0, 0, false)))) else (some (0, 0, 0, 0, 0, false)))))
def mean_Mean_Take.f (k : Nat) (a0_0 : Int) (a0_1 : Int) (a0_2 : Int) (a0_3 : Int) (a0_4 : Int) (a1_0 : Int) (a1_1 : Int) (a1_2 : Int) : Option (Int × Int × Int × Int × Int × Bool) := (mean_Mean_Right.f a0_0 a0_1 a0_2 a0_3 a0_4).bind fun t264 => (if t264 = true then ((pos_Pos_Right.f a1_0 a1_1 a1_2).bind fun t265 => (if t265 = true then (if a0_4 = 0 then (mean_Mean_Take.j0 k true a0_0 a0_1 a0_2 a0_3 a0_4 a1_0 a1_1 a1_2) else (mean_Mean_Take.j0 k (decide (a0_3 < (IntKind.u64.wrap (a1_2)))) a0_0 a0_1 a0_2 a0_3 a0_4 a1_0 a1_1 a1_2)) else (mean_Mean_Take.j0 k true a0_0 a0_1 a0_2 a0_3 a0_4 a1_0 a1_1 a1_2))) else (mean_Mean_Take.j0 k true a0_0 a0_1 a0_2 a0_3 a0_4 a1_0 a1_1 a1_2))
theorem mean_Mean_Take.mono_l : ∀ k, (∀ y0 y1 y2 y3 y4 y5 y6 y7 y8, LeO (mean_Mean_Take.j0 k y0 y1 y2 y3 y4 y5 y6 y7 y8) (mean_Mean_Take.j0 (k + 1) y0 y1 y2 y3 y4 y5 y6 y7 y8))
 | 0 => fun _ _ _ _ _ _ _ _ _ r h => by simp [mean_Mean_Take.j0] at h
 | k + 1 => by
  have ih0 := mean_Mean_Take.mono_l k
  ·intro y0 y1 y2 y3 y4 y5 y6 y7 y8
   unfold mean_Mean_Take.j0
   repeat' first
   | (with_reducible exact ih0 _ _ _ _ _ _ _ _ _)
   | (with_reducible exact pos_Pos_Distance.mono _ _ _ _ _)
   | (with_reducible exact LeO.refl _)
   | (with_reducible exact LeO.none _)
   | (with_reducible refine LeO.ite ?_ ?_)
   | (with_reducible refine LeO.bind ?_ (fun _ => ?_))
   | exact ih0 _ _ _ _ _ _ _ _ _
   | exact pos_Pos_Distance.mono _ _ _ _ _
   | exact LeO.none _
   | refine LeO.ite ?_ ?_
   | refine LeO.bind ?_ (fun _ => ?_)
theorem mean_Mean_Take.mono : ∀ a0 a1 a2 a3 a4 a5 a6 a7 k, LeO (mean_Mean_Take.f k a0 a1 a2 a3 a4 a5 a6 a7) (mean_Mean_Take.f (k + 1) a0 a1 a2 a3 a4 a5 a6 a7) := by
 intro a0 a1 a2 a3 a4 a5 a6 a7 k
 have ih0 := mean_Mean_Take.mono_l k
 unfold mean_Mean_Take.f
 repeat' first
   | (with_reducible exact ih0 _ _ _ _ _ _ _ _ _)
   | (with_reducible exact pos_Pos_Distance.mono _ _ _ _ _)
   | (with_reducible exact LeO.refl _)
   | (with_reducible exact LeO.none _)
   | (with_reducible refine LeO.ite ?_ ?_)
   | (with_reducible refine LeO.bind ?_ (fun _ => ?_))
   | exact ih0 _ _ _ _ _ _ _ _ _
   | exact pos_Pos_Distance.mono _ _ _ _ _
   | exact LeO.none _
   | refine LeO.ite ?_ ?_
   | refine LeO.bind ?_ (fun _ => ?_)
def mean_Mean_Take.T3 : Bool × List (List Nat × List Nat) := (true, [([], []), ([0], [0]), ([], []), ([], []), ([3], [3]), ([2, 4], [2, 4]), ([1, 5, 5], [1, 5]), ([6], [6]), ([7], [7]), ([7], [7]), ([], []), ([10, 8, 6, 0, 1, 2, 3, 4, 5, 6, 7, 8, 10], [8, 10]), ([9, 11, 0, 1, 2, 3, 4, 5, 6, 7, 8, 9, 10, 11], [9])])
def mean_Mean_Take.B3 : List Nat := [0, 1, 0, 0, 8, 28, 63, 127, 255, 255, 0, 1535, 4095]
theorem mean_Mean_Take.tab3 : rtab .any (opsOf Tryz.f24 3) = mean_Mean_Take.T3 := by kernel_rfl
theorem mean_Mean_Take.bits3 : waitsOk mean_Mean_Take.T3.2 mean_Mean_Take.B3 = true := by kernel_rfl
set_option maxHeartbeats 8000000 in
set_option maxRecDepth 100000 in
theorem mean_Mean_Take.calls (k : Nat) (a0_0 : Int) (a0_1 : Int) (a0_2 : Int) (a0_3 : Int) (a0_4 : Int) (a1_0 : Int) (a1_1 : Int) (a1_2 : Int) (r1 : Int) (r2 : Int) (r3 : Int) (r4 : Int) (r5 : Int) (r6 : Bool) (w : World) (h : mean_Mean_Take.f k a0_0 a0_1 a0_2 a0_3 a0_4 a1_0 a1_1 a1_2 = some (r1, r2, r3, r4, r5, r6)) :
  Calls Tryz.prog 24 #[.agg #[.int .u64 a0_0, .int .i64 a0_1, .int .u64 a0_2, .int .u64 a0_3, .int .i64 a0_4], .agg #[.int .u64 a1_0, .int .u32 a1_1, .int .u32 a1_2]] w fun e w' => e = .returned (.tuple #[.agg #[.int .u64 r1, .int .i64 r2, .int .u64 r3, .int .u64 r4, .int .i64 r5], .bool r6]) ∧ Below w.heap.size w w' := by
 have hu33 := Tryz.underlying33
 have hu28 := Tryz.underlying28
 have hu31 := Tryz.underlying31
 have HB := Aside0.mk (Below.refl w.heap.size w)
 have H : ((mean_Mean_Right.f a0_0 a0_1 a0_2 a0_3 a0_4).bind fun t264 => (if t264 = true then ((pos_Pos_Right.f a1_0 a1_1 a1_2).bind fun t265 => (if t265 = true then (if a0_4 = 0 then (mean_Mean_Take.j0 k true a0_0 a0_1 a0_2 a0_3 a0_4 a1_0 a1_1 a1_2) else (mean_Mean_Take.j0 k (decide (a0_3 < (IntKind.u64.wrap (a1_2)))) a0_0 a0_1 a0_2 a0_3 a0_4 a1_0 a1_1 a1_2)) else (mean_Mean_Take.j0 k true a0_0 a0_1 a0_2 a0_3 a0_4 a1_0 a1_1 a1_2))) else (mean_Mean_Take.j0 k true a0_0 a0_1 a0_2 a0_3 a0_4 a1_0 a1_1 a1_2))) = some (r1, r2, r3, r4, r5, r6) := h
 clear h
 have HC3 := Aside0.mk H
 clear H
 go_enter Tryz.func24, Tryz.ntmps24
 go_upto_region 1 with (first | ((with_reducible refine gate_dst (N := 2) rfl ?_); refine box_event ?hg (N := 2) ?hd (cs := #[.int .u64 a0_0, .int .i64 a0_1, .int .u64 a0_2, .int .u64 a0_3, .int .i64 a0_4]) (t := 33) ?hr ?_; (case hd => rfl); (case hg => rfl); (case hr => first | (go_simp; done) | (go_simp; rfl)); intro gb261 hg w4 hbox hb; have BK261 := Aside0.mk (hbox); have GW261 := bels HB hg; have GE261 := bels HB hg; replace HB := belb HB hb; clear hb hbox hg) | ((with_reducible refine gate_dst (N := 3) rfl ?_); refine box_event ?hg (N := 3) ?hd (cs := #[.int .u64 a1_0, .int .u32 a1_1, .int .u32 a1_2]) (t := 28) ?hr ?_; (case hd => rfl); (case hg => rfl); (case hr => first | (go_simp; done) | (go_simp; rfl)); intro gb262 hg w5 hbox hb; have BK262 := Aside0.mk (hbox); have GW262 := bels HB hg; have GE262 := bels HB hg; have NB261_262 := blkl BK261 hg; have NB262_261 := blkg BK261 hg; replace BK261 := blkb BK261 hb; replace HB := belb HB hb; clear hb hbox hg) | ((with_reducible refine gate_dst (N := 4) rfl ?_); refine box_event ?hg (N := 4) ?hd (cs := #[.int .u64 0, .int .i64 0, .int .u64 0, .int .u64 0, .int .i64 0]) (t := 33) ?hr ?_; (case hd => rfl); (case hg => rfl); (case hr => first | (go_simp; done) | (go_simp; rfl)); intro gb263 hg w6 hbox hb; have BK263 := Aside0.mk (hbox); have GW263 := bels HB hg; have GE263 := bels HB hg; have NB261_263 := blkl BK261 hg; have NB263_261 := blkg BK261 hg; have NB262_263 := blkl BK262 hg; have NB263_262 := blkg BK262 hg; replace BK261 := blkb BK261 hb; replace BK262 := blkb BK262 hb; replace HB := belb HB hb; clear hb hbox hg))
 (try simp only [Act.put, List.setIfInBounds_toArray, List.set_cons_zero, List.set_cons_succ])
 go_cut [29] (fun v29 wc => ∃ (kq : Nat) (x29_2 : Bool), v29 = .bool x29_2 ∧ Aside0 (mean_Mean_Take.j0 kq x29_2 a0_0 a0_1 a0_2 a0_3 a0_4 a1_0 a1_1 a1_2 = some (r1, r2, r3, r4, r5, r6)) ∧ Aside0 (kq ≤ k) ∧ Aside0 (wc.heap[gb261]? = some (.cells #[.int .u64 a0_0, .int .i64 a0_1, .int .u64 a0_2, .int .u64 a0_3, .int .i64 a0_4] 33 (0, 0))) ∧ Aside0 (wc.heap[gb262]? = some (.cells #[.int .u64 a1_0, .int .u32 a1_1, .int .u32 a1_2] 28 (0, 0))) ∧ Aside0 (wc.heap[gb263]? = some (.cells #[.int .u64 0, .int .i64 0, .int .u64 0, .int .u64 0, .int .i64 0] 33 (0, 0))) ∧ Aside0 (Below w.heap.size w wc))
 case first =>
  have H := HC3.out
  clear HC3
  replace H := Option.bind_eq_some_iff.mp H
  obtain ⟨t264, A70, H⟩ := H
  replace H : (if t264 = true then ((pos_Pos_Right.f a1_0 a1_1 a1_2).bind fun t265 => (if t265 = true then (if a0_4 = 0 then (mean_Mean_Take.j0 k true a0_0 a0_1 a0_2 a0_3 a0_4 a1_0 a1_1 a1_2) else (mean_Mean_Take.j0 k (decide (a0_3 < (IntKind.u64.wrap (a1_2)))) a0_0 a0_1 a0_2 a0_3 a0_4 a1_0 a1_1 a1_2)) else (mean_Mean_Take.j0 k true a0_0 a0_1 a0_2 a0_3 a0_4 a1_0 a1_1 a1_2))) else (mean_Mean_Take.j0 k true a0_0 a0_1 a0_2 a0_3 a0_4 a1_0 a1_1 a1_2)) = some (r1, r2, r3, r4, r5, r6) := H
  have A7 := Aside0.mk A70
  clear A70
  by_cases c8 : t264 = true
  ·subst c8
   have H1 : ((pos_Pos_Right.f a1_0 a1_1 a1_2).bind fun t265 => (if t265 = true then (if a0_4 = 0 then (mean_Mean_Take.j0 k true a0_0 a0_1 a0_2 a0_3 a0_4 a1_0 a1_1 a1_2) else (mean_Mean_Take.j0 k (decide (a0_3 < (IntKind.u64.wrap (a1_2)))) a0_0 a0_1 a0_2 a0_3 a0_4 a1_0 a1_1 a1_2)) else (mean_Mean_Take.j0 k true a0_0 a0_1 a0_2 a0_3 a0_4 a1_0 a1_1 a1_2))) = some (r1, r2, r3, r4, r5, r6) := by rw [if_pos rfl] at H; exact H
   clear H
   have H := H1
   clear H1
   replace H := Option.bind_eq_some_iff.mp H
   obtain ⟨t265, A90, H⟩ := H
   replace H : (if t265 = true then (if a0_4 = 0 then (mean_Mean_Take.j0 k true a0_0 a0_1 a0_2 a0_3 a0_4 a1_0 a1_1 a1_2) else (mean_Mean_Take.j0 k (decide (a0_3 < (IntKind.u64.wrap (a1_2)))) a0_0 a0_1 a0_2 a0_3 a0_4 a1_0 a1_1 a1_2)) else (mean_Mean_Take.j0 k true a0_0 a0_1 a0_2 a0_3 a0_4 a1_0 a1_1 a1_2)) = some (r1, r2, r3, r4, r5, r6) := H
   have A9 := Aside0.mk A90
   clear A90
   by_cases c10 : t265 = true
   ·subst c10
    have H1 : (if a0_4 = 0 then (mean_Mean_Take.j0 k true a0_0 a0_1 a0_2 a0_3 a0_4 a1_0 a1_1 a1_2) else (mean_Mean_Take.j0 k (decide (a0_3 < (IntKind.u64.wrap (a1_2)))) a0_0 a0_1 a0_2 a0_3 a0_4 a1_0 a1_1 a1_2)) = some (r1, r2, r3, r4, r5, r6) := by rw [if_pos rfl] at H; exact H
    clear H
    have H := H1
    clear H1
    by_cases c11 : a0_4 = 0
    ·rw [if_pos c11] at H
     have c11b0 : (a0_4 == 0) = true := beq_iff_eq.mpr c11
     have c11b1 : (a0_4 != 0) = false := bne_eq_false_iff_eq.mpr c11
     clear c11
     (first | rw [c11b0] | (simp only [i64_w, i32_w]; rw [c11b0]) | skip)
     have H' := Aside0.mk H
     clear H
     have hnb12 := NB261_262.out
     have hnc12 := NB262_261.out
     have hnb13 := NB261_263.out
     have hnc13 := NB263_261.out
     have hcz14_0 : w6.cell? ⟨gb261, 0, none⟩ = some (.int .u64 a0_0) := bc BK261 0
     have hcz14_1 : w6.cell? ⟨gb261, 1, none⟩ = some (.int .i64 a0_1) := bc BK261 1
     have hcz14_2 : w6.cell? ⟨gb261, 2, none⟩ = some (.int .u64 a0_2) := bc BK261 2
     have hcz14_3 : w6.cell? ⟨gb261, 3, none⟩ = some (.int .u64 a0_3) := bc BK261 3
     have hcz14_4 : w6.cell? ⟨gb261, 4, none⟩ = some (.int .i64 a0_4) := bc BK261 4
     have hfz14_0 := blk_frozen BK261.out 0
     have hfz14_1 := blk_frozen BK261.out 1
     have hfz14_2 := blk_frozen BK261.out 2
     have hfz14_3 := blk_frozen BK261.out 3
     have hfz14_4 := blk_frozen BK261.out 4
     go_wp2_with (first | ((with_reducible refine gate_callee (f := 52) rfl ?_); refine goesL_ (some 10) rfl rfl Tryz.func52 (by kernel_rfl) rfl #[.agg #[.int .u64 a0_0, .int .i64 a0_1, .int .u64 a0_2, .int .u64 a0_3, .int .i64 a0_4]] rfl argt ?_; (with_reducible refine (mean_Mean_Right.calls a0_0 a0_1 a0_2 a0_3 a0_4 true _ A7.out).mono ?_); rintro e w15 ⟨rfl, hb⟩; refine ⟨_, rfl, ?_⟩; replace BK261 := blkb BK261 hb; replace BK262 := blkb BK262 hb; replace BK263 := blkb BK263 hb; replace HB := belb HB hb; (try clear hb); (try clear hb2); (try clear hk); (try clear hi); have hnb16 := NB262_263.out; have hnc16 := NB263_262.out; have hcz17_0 : w15.cell? ⟨gb262, 0, none⟩ = some (.int .u64 a1_0) := bc BK262 0; have hcz17_1 : w15.cell? ⟨gb262, 1, none⟩ = some (.int .u32 a1_1) := bc BK262 1; have hcz17_2 : w15.cell? ⟨gb262, 2, none⟩ = some (.int .u32 a1_2) := bc BK262 2; have hfz17_0 := blk_frozen BK262.out 0; have hfz17_1 := blk_frozen BK262.out 1; have hfz17_2 := blk_frozen BK262.out 2) | (go_at_call 17; (with_reducible refine (pos_Pos_Right.calls a1_0 a1_1 a1_2 true _ A9.out).mono ?_); rintro e w18 ⟨rfl, hb⟩; replace BK261 := blkb BK261 hb; replace BK262 := blkb BK262 hb; replace BK263 := blkb BK263 hb; replace HB := belb HB hb; (try clear hb); (try clear hb2); (try clear hk); (try clear hi); have hcz19_0 : w18.cell? ⟨gb261, 0, none⟩ = some (.int .u64 a0_0) := bc BK261 0; have hcz19_1 : w18.cell? ⟨gb261, 1, none⟩ = some (.int .i64 a0_1) := bc BK261 1; have hcz19_2 : w18.cell? ⟨gb261, 2, none⟩ = some (.int .u64 a0_2) := bc BK261 2; have hcz19_3 : w18.cell? ⟨gb261, 3, none⟩ = some (.int .u64 a0_3) := bc BK261 3; have hcz19_4 : w18.cell? ⟨gb261, 4, none⟩ = some (.int .i64 a0_4) := bc BK261 4; have hfz19_0 := blk_frozen BK261.out 0; have hfz19_1 := blk_frozen BK261.out 1; have hfz19_2 := blk_frozen BK261.out 2; have hfz19_3 := blk_frozen BK261.out 3; have hfz19_4 := blk_frozen BK261.out 4))
     go_meet
     case rel => exact ⟨_, (true), (by first | rfl | (simp; done) | (simp [*]; done)), H', ⟨by first | omega | exact Nat.le_refl _⟩, ⟨blkt BK261⟩, ⟨blkt BK262⟩, ⟨blkt BK263⟩, ⟨belt HB⟩⟩
    rw [if_neg c11] at H
    have c11b0 : (a0_4 == 0) = false := beq_eq_false_iff_ne.mpr c11
    have c11b1 : (a0_4 != 0) = true := bne_iff_ne.mpr c11
    (first | rw [c11b0] | (simp only [i64_w, i32_w]; rw [c11b0]) | skip)
    have H' := Aside0.mk H
    clear H
    have hnb20 := NB261_262.out
    have hnc20 := NB262_261.out
    have hnb21 := NB261_263.out
    have hnc21 := NB263_261.out
    have hcz22_0 : w6.cell? ⟨gb261, 0, none⟩ = some (.int .u64 a0_0) := bc BK261 0
    have hcz22_1 : w6.cell? ⟨gb261, 1, none⟩ = some (.int .i64 a0_1) := bc BK261 1
    have hcz22_2 : w6.cell? ⟨gb261, 2, none⟩ = some (.int .u64 a0_2) := bc BK261 2
    have hcz22_3 : w6.cell? ⟨gb261, 3, none⟩ = some (.int .u64 a0_3) := bc BK261 3
    have hcz22_4 : w6.cell? ⟨gb261, 4, none⟩ = some (.int .i64 a0_4) := bc BK261 4
    have hfz22_0 := blk_frozen BK261.out 0
    have hfz22_1 := blk_frozen BK261.out 1
    have hfz22_2 := blk_frozen BK261.out 2
    have hfz22_3 := blk_frozen BK261.out 3
    have hfz22_4 := blk_frozen BK261.out 4
    go_wp2_with (first | ((with_reducible refine gate_callee (f := 52) rfl ?_); refine goesL_ (some 10) rfl rfl Tryz.func52 (by kernel_rfl) rfl #[.agg #[.int .u64 a0_0, .int .i64 a0_1, .int .u64 a0_2, .int .u64 a0_3, .int .i64 a0_4]] rfl argt ?_; (with_reducible refine (mean_Mean_Right.calls a0_0 a0_1 a0_2 a0_3 a0_4 true _ A7.out).mono ?_); rintro e w23 ⟨rfl, hb⟩; refine ⟨_, rfl, ?_⟩; replace BK261 := blkb BK261 hb; replace BK262 := blkb BK262 hb; replace BK263 := blkb BK263 hb; replace HB := belb HB hb; (try clear hb); (try clear hb2); (try clear hk); (try clear hi); have hnb24 := NB262_263.out; have hnc24 := NB263_262.out; have hcz25_0 : w23.cell? ⟨gb262, 0, none⟩ = some (.int .u64 a1_0) := bc BK262 0; have hcz25_1 : w23.cell? ⟨gb262, 1, none⟩ = some (.int .u32 a1_1) := bc BK262 1; have hcz25_2 : w23.cell? ⟨gb262, 2, none⟩ = some (.int .u32 a1_2) := bc BK262 2; have hfz25_0 := blk_frozen BK262.out 0; have hfz25_1 := blk_frozen BK262.out 1; have hfz25_2 := blk_frozen BK262.out 2) | (go_at_call 17; (with_reducible refine (pos_Pos_Right.calls a1_0 a1_1 a1_2 true _ A9.out).mono ?_); rintro e w26 ⟨rfl, hb⟩; replace BK261 := blkb BK261 hb; replace BK262 := blkb BK262 hb; replace BK263 := blkb BK263 hb; replace HB := belb HB hb; (try clear hb); (try clear hb2); (try clear hk); (try clear hi); have hcz27_0 : w26.cell? ⟨gb261, 0, none⟩ = some (.int .u64 a0_0) := bc BK261 0; have hcz27_1 : w26.cell? ⟨gb261, 1, none⟩ = some (.int .i64 a0_1) := bc BK261 1; have hcz27_2 : w26.cell? ⟨gb261, 2, none⟩ = some (.int .u64 a0_2) := bc BK261 2; have hcz27_3 : w26.cell? ⟨gb261, 3, none⟩ = some (.int .u64 a0_3) := bc BK261 3; have hcz27_4 : w26.cell? ⟨gb261, 4, none⟩ = some (.int .i64 a0_4) := bc BK261 4; have hfz27_0 := blk_frozen BK261.out 0; have hfz27_1 := blk_frozen BK261.out 1; have hfz27_2 := blk_frozen BK261.out 2; have hfz27_3 := blk_frozen BK261.out 3; have hfz27_4 := blk_frozen BK261.out 4; have hcz28_0 : w26.cell? ⟨gb262, 0, none⟩ = some (.int .u64 a1_0) := bc BK262 0; have hcz28_1 : w26.cell? ⟨gb262, 1, none⟩ = some (.int .u32 a1_1) := bc BK262 1; have hcz28_2 : w26.cell? ⟨gb262, 2, none⟩ = some (.int .u32 a1_2) := bc BK262 2; have hfz28_0 := blk_frozen BK262.out 0; have hfz28_1 := blk_frozen BK262.out 1; have hfz28_2 := blk_frozen BK262.out 2))
    go_meet
    case rel => exact ⟨_, (decide (a0_3 < (IntKind.u64.wrap (a1_2)))), (by first | rfl | (simp; done) | (simp [*]; done)), H', ⟨by first | omega | exact Nat.le_refl _⟩, ⟨blkt BK261⟩, ⟨blkt BK262⟩, ⟨blkt BK263⟩, ⟨belt HB⟩⟩
   replace c10 := Bool.eq_false_iff.mpr c10
   subst c10
   have H1 : (mean_Mean_Take.j0 k true a0_0 a0_1 a0_2 a0_3 a0_4 a1_0 a1_1 a1_2) = some (r1, r2, r3, r4, r5, r6) := by rw [if_neg (show ¬ (false = true) by decide)] at H; exact H
   clear H
   have H := H1
   clear H1
   have H' := Aside0.mk H
   clear H
   have hnb29 := NB261_262.out
   have hnc29 := NB262_261.out
   have hnb30 := NB261_263.out
   have hnc30 := NB263_261.out
   have hcz31_0 : w6.cell? ⟨gb261, 0, none⟩ = some (.int .u64 a0_0) := bc BK261 0
   have hcz31_1 : w6.cell? ⟨gb261, 1, none⟩ = some (.int .i64 a0_1) := bc BK261 1
   have hcz31_2 : w6.cell? ⟨gb261, 2, none⟩ = some (.int .u64 a0_2) := bc BK261 2
   have hcz31_3 : w6.cell? ⟨gb261, 3, none⟩ = some (.int .u64 a0_3) := bc BK261 3
   have hcz31_4 : w6.cell? ⟨gb261, 4, none⟩ = some (.int .i64 a0_4) := bc BK261 4
   have hfz31_0 := blk_frozen BK261.out 0
   have hfz31_1 := blk_frozen BK261.out 1
   have hfz31_2 := blk_frozen BK261.out 2
   have hfz31_3 := blk_frozen BK261.out 3
   have hfz31_4 := blk_frozen BK261.out 4
   go_wp2_with (first | ((with_reducible refine gate_callee (f := 52) rfl ?_); refine goesL_ (some 10) rfl rfl Tryz.func52 (by kernel_rfl) rfl #[.agg #[.int .u64 a0_0, .int .i64 a0_1, .int .u64 a0_2, .int .u64 a0_3, .int .i64 a0_4]] rfl argt ?_; (with_reducible refine (mean_Mean_Right.calls a0_0 a0_1 a0_2 a0_3 a0_4 true _ A7.out).mono ?_); rintro e w32 ⟨rfl, hb⟩; refine ⟨_, rfl, ?_⟩; replace BK261 := blkb BK261 hb; replace BK262 := blkb BK262 hb; replace BK263 := blkb BK263 hb; replace HB := belb HB hb; (try clear hb); (try clear hb2); (try clear hk); (try clear hi); have hnb33 := NB262_263.out; have hnc33 := NB263_262.out; have hcz34_0 : w32.cell? ⟨gb262, 0, none⟩ = some (.int .u64 a1_0) := bc BK262 0; have hcz34_1 : w32.cell? ⟨gb262, 1, none⟩ = some (.int .u32 a1_1) := bc BK262 1; have hcz34_2 : w32.cell? ⟨gb262, 2, none⟩ = some (.int .u32 a1_2) := bc BK262 2; have hfz34_0 := blk_frozen BK262.out 0; have hfz34_1 := blk_frozen BK262.out 1; have hfz34_2 := blk_frozen BK262.out 2) | (go_at_call 17; (with_reducible refine (pos_Pos_Right.calls a1_0 a1_1 a1_2 false _ A9.out).mono ?_); rintro e w35 ⟨rfl, hb⟩; replace BK261 := blkb BK261 hb; replace BK262 := blkb BK262 hb; replace BK263 := blkb BK263 hb; replace HB := belb HB hb; (try clear hb); (try clear hb2); (try clear hk); (try clear hi)))
   go_meet
   case rel => exact ⟨_, (true), (by first | rfl | (simp; done) | (simp [*]; done)), H', ⟨by first | omega | exact Nat.le_refl _⟩, ⟨blkt BK261⟩, ⟨blkt BK262⟩, ⟨blkt BK263⟩, ⟨belt HB⟩⟩
  replace c8 := Bool.eq_false_iff.mpr c8
  subst c8
  have H1 : (mean_Mean_Take.j0 k true a0_0 a0_1 a0_2 a0_3 a0_4 a1_0 a1_1 a1_2) = some (r1, r2, r3, r4, r5, r6) := by rw [if_neg (show ¬ (false = true) by decide)] at H; exact H
  clear H
  have H := H1
  clear H1
  have H' := Aside0.mk H
  clear H
  have hnb36 := NB261_262.out
  have hnc36 := NB262_261.out
  have hnb37 := NB261_263.out
  have hnc37 := NB263_261.out
  have hcz38_0 : w6.cell? ⟨gb261, 0, none⟩ = some (.int .u64 a0_0) := bc BK261 0
  have hcz38_1 : w6.cell? ⟨gb261, 1, none⟩ = some (.int .i64 a0_1) := bc BK261 1
  have hcz38_2 : w6.cell? ⟨gb261, 2, none⟩ = some (.int .u64 a0_2) := bc BK261 2
  have hcz38_3 : w6.cell? ⟨gb261, 3, none⟩ = some (.int .u64 a0_3) := bc BK261 3
  have hcz38_4 : w6.cell? ⟨gb261, 4, none⟩ = some (.int .i64 a0_4) := bc BK261 4
  have hfz38_0 := blk_frozen BK261.out 0
  have hfz38_1 := blk_frozen BK261.out 1
  have hfz38_2 := blk_frozen BK261.out 2
  have hfz38_3 := blk_frozen BK261.out 3
  have hfz38_4 := blk_frozen BK261.out 4
  go_wp2_with (first | ((with_reducible refine gate_callee (f := 52) rfl ?_); refine goesL_ (some 10) rfl rfl Tryz.func52 (by kernel_rfl) rfl #[.agg #[.int .u64 a0_0, .int .i64 a0_1, .int .u64 a0_2, .int .u64 a0_3, .int .i64 a0_4]] rfl argt ?_; (with_reducible refine (mean_Mean_Right.calls a0_0 a0_1 a0_2 a0_3 a0_4 false _ A7.out).mono ?_); rintro e w39 ⟨rfl, hb⟩; refine ⟨_, rfl, ?_⟩; replace BK261 := blkb BK261 hb; replace BK262 := blkb BK262 hb; replace BK263 := blkb BK263 hb; replace HB := belb HB hb; (try clear hb); (try clear hb2); (try clear hk); (try clear hi)))
  go_meet
  case rel => exact ⟨_, (true), (by first | rfl | (simp; done) | (simp [*]; done)), H', ⟨by first | omega | exact Nat.le_refl _⟩, ⟨blkt BK261⟩, ⟨blkt BK262⟩, ⟨blkt BK263⟩, ⟨belt HB⟩⟩
 case rest =>
  clear HC3
  try clear c1
  try clear c2
  try clear p2
  try clear c3
  try clear c5
  try clear c8
  try clear c10
  try clear c11
  try clear c11b0
  try clear c11b1
  try clear c12
  try clear c13
  try clear c16
  try clear c20
  try clear c21
  try clear c24
  try clear c29
  try clear c30
  try clear c33
  try clear c36
  try clear c37
  try clear hcz14_0
  try clear hcz14_1
  try clear hcz14_2
  try clear hcz14_3
  try clear hcz14_4
  try clear hcz17_0
  try clear hcz17_1
  try clear hcz17_2
  try clear hcz19_0
  try clear hcz19_1
  try clear hcz19_2
  try clear hcz19_3
  try clear hcz19_4
  try clear hcz22_0
  try clear hcz22_1
  try clear hcz22_2
  try clear hcz22_3
  try clear hcz22_4
  try clear hcz25_0
  try clear hcz25_1
  try clear hcz25_2
  try clear hcz27_0
  try clear hcz27_1
  try clear hcz27_2
  try clear hcz27_3
  try clear hcz27_4
  try clear hcz28_0
  try clear hcz28_1
  try clear hcz28_2
  try clear hcz31_0
  try clear hcz31_1
  try clear hcz31_2
  try clear hcz31_3
  try clear hcz31_4
  try clear hcz34_0
  try clear hcz34_1
  try clear hcz34_2
  try clear hcz38_0
  try clear hcz38_1
  try clear hcz38_2
  try clear hcz38_3
  try clear hcz38_4
  try clear hfz14_0
  try clear hfz14_1
  try clear hfz14_2
  try clear hfz14_3
  try clear hfz14_4
  try clear hfz17_0
  try clear hfz17_1
  try clear hfz17_2
  try clear hfz19_0
  try clear hfz19_1
  try clear hfz19_2
  try clear hfz19_3
  try clear hfz19_4
  try clear hfz22_0
  try clear hfz22_1
  try clear hfz22_2
  try clear hfz22_3
  try clear hfz22_4
  try clear hfz25_0
  try clear hfz25_1
  try clear hfz25_2
  try clear hfz27_0
  try clear hfz27_1
  try clear hfz27_2
  try clear hfz27_3
  try clear hfz27_4
  try clear hfz28_0
  try clear hfz28_1
  try clear hfz28_2
  try clear hfz31_0
  try clear hfz31_1
  try clear hfz31_2
  try clear hfz31_3
  try clear hfz31_4
  try clear hfz34_0
  try clear hfz34_1
  try clear hfz34_2
  try clear hfz38_0
  try clear hfz38_1
  try clear hfz38_2
  try clear hfz38_3
  try clear hfz38_4
  obtain ⟨kq, x29_2, rfl, HA, HJ2, BK261, BK262, BK263, HB⟩ := hcut
  cases kq with
  | zero => exact absurd HA.out (by simp [mean_Mean_Take.j0])
  | succ kj2 =>
   have H := HA.out
   clear HA
   simp only [mean_Mean_Take.j0] at H
   by_cases c40 : x29_2 = true
   ·subst c40
    have H1 : (some (0, 0, 0, 0, 0, false)) = some (r1, r2, r3, r4, r5, r6) := by rw [if_pos rfl] at H; exact H
    clear H
    have H := H1
    clear H1
    simp only [Option.some.injEq, Prod.mk.injEq] at H
    obtain ⟨rfl, rfl, rfl, rfl, rfl, rfl⟩ := H
    have hnb41 := NB263_261.out
    have hnc41 := NB261_263.out
    have hnb42 := NB263_262.out
    have hnc42 := NB262_263.out
    have hcz43_0 : wc.cell? ⟨gb263, 0, none⟩ = some (.int .u64 0) := bc BK263 0
    have hcz43_1 : wc.cell? ⟨gb263, 1, none⟩ = some (.int .i64 0) := bc BK263 1
    have hcz43_2 : wc.cell? ⟨gb263, 2, none⟩ = some (.int .u64 0) := bc BK263 2
    have hcz43_3 : wc.cell? ⟨gb263, 3, none⟩ = some (.int .u64 0) := bc BK263 3
    have hcz43_4 : wc.cell? ⟨gb263, 4, none⟩ = some (.int .i64 0) := bc BK263 4
    have hfz43_0 := blk_frozen BK263.out 0
    have hfz43_1 := blk_frozen BK263.out 1
    have hfz43_2 := blk_frozen BK263.out 2
    have hfz43_3 := blk_frozen BK263.out 3
    have hfz43_4 := blk_frozen BK263.out 4
    go_wp2
    refine bodyPost_ret (results_ct rfl _ _ gb263 33 #[.int .u64 0, .int .i64 0, .int .u64 0, .int .u64 0, .int .i64 0] (0, 0) _ rfl (by (with_reducible repeat (first | refine blk_drewN ?_ _ | refine blk_drew ?_ | refine blk_alloc ?_ _)); refine blk_put (cs := #[.int .u64 0, .int .i64 0, .int .u64 0, .int .u64 0, .int .i64 0]) ?_ 4 _ rfl; (with_reducible repeat (first | refine blk_drewN ?_ _ | refine blk_drew ?_ | refine blk_alloc ?_ _)); refine blk_put (cs := #[.int .u64 0, .int .i64 0, .int .u64 0, .int .u64 0, .int .i64 0]) ?_ 3 _ rfl; (with_reducible repeat (first | refine blk_drewN ?_ _ | refine blk_drew ?_ | refine blk_alloc ?_ _)); refine blk_put (cs := #[.int .u64 0, .int .i64 0, .int .u64 0, .int .u64 0, .int .i64 0]) ?_ 2 _ rfl; (with_reducible repeat (first | refine blk_drewN ?_ _ | refine blk_drew ?_ | refine blk_alloc ?_ _)); refine blk_put (cs := #[.int .u64 0, .int .i64 0, .int .u64 0, .int .u64 0, .int .i64 0]) ?_ 1 _ rfl; (with_reducible repeat (first | refine blk_drewN ?_ _ | refine blk_drew ?_ | refine blk_alloc ?_ _)); refine blk_put (cs := #[.int .u64 0, .int .i64 0, .int .u64 0, .int .u64 0, .int .i64 0]) ?_ 0 _ rfl; exact blkt BK263) Tryz.underlying33 rfl (by kernel_rfl)) rfl ?_
    exact ⟨by first | rfl | (simp [errW_none, errW_some] <;> rfl) | (simp [*, errW_none, errW_some] <;> rfl), belt HB⟩
   replace c40 := Bool.eq_false_iff.mpr c40
   subst c40
   have H1 : ((pos_Pos_Distance.f kj2 a1_0 a1_1 a1_2 a0_0).bind fun bt266 => ((wide_Int_Sub.f a0_1 a0_2 bt266.1 bt266.2).bind fun bt268 => (if bt268.2.2 = true then ((mean_Mean_Right.f a0_0 bt268.1 bt268.2.1 (IntKind.u64.wrap (a0_3 - (IntKind.u64.wrap (a1_2)))) (wrap64 (a0_4 - 1))).bind fun t273 => (if t273 = true then (some (a0_0, bt268.1, bt268.2.1, IntKind.u64.wrap (a0_3 - (IntKind.u64.wrap (a1_2))), wrap64 (a0_4 - 1), true)) else (some (0, 0, 0, 0, 0, false)))) else (some (0, 0, 0, 0, 0, false))))) = some (r1, r2, r3, r4, r5, r6) := by rw [if_neg (show ¬ (false = true) by decide)] at H; exact H
   clear H
   have H := H1
   clear H1
   replace H := Option.bind_eq_some_iff.mp H
   obtain ⟨⟨t266, t267⟩, A440, H⟩ := H
   replace H : ((wide_Int_Sub.f a0_1 a0_2 t266 t267).bind fun bt268 => (if bt268.2.2 = true then ((mean_Mean_Right.f a0_0 bt268.1 bt268.2.1 (IntKind.u64.wrap (a0_3 - (IntKind.u64.wrap (a1_2)))) (wrap64 (a0_4 - 1))).bind fun t273 => (if t273 = true then (some (a0_0, bt268.1, bt268.2.1, IntKind.u64.wrap (a0_3 - (IntKind.u64.wrap (a1_2))), wrap64 (a0_4 - 1), true)) else (some (0, 0, 0, 0, 0, false)))) else (some (0, 0, 0, 0, 0, false)))) = some (r1, r2, r3, r4, r5, r6) := H
   have A44 := Aside0.mk A440
   clear A440
   replace H := Option.bind_eq_some_iff.mp H
   obtain ⟨⟨t268, t269, t270⟩, A450, H⟩ := H
   replace H : (if t270 = true then ((mean_Mean_Right.f a0_0 t268 t269 (IntKind.u64.wrap (a0_3 - (IntKind.u64.wrap (a1_2)))) (wrap64 (a0_4 - 1))).bind fun t273 => (if t273 = true then (some (a0_0, t268, t269, IntKind.u64.wrap (a0_3 - (IntKind.u64.wrap (a1_2))), wrap64 (a0_4 - 1), true)) else (some (0, 0, 0, 0, 0, false)))) else (some (0, 0, 0, 0, 0, false))) = some (r1, r2, r3, r4, r5, r6) := H
   have A45 := Aside0.mk A450
   clear A450
   by_cases c46 : t270 = true
   ·subst c46
    have H1 : ((mean_Mean_Right.f a0_0 t268 t269 (IntKind.u64.wrap (a0_3 - (IntKind.u64.wrap (a1_2)))) (wrap64 (a0_4 - 1))).bind fun t273 => (if t273 = true then (some (a0_0, t268, t269, IntKind.u64.wrap (a0_3 - (IntKind.u64.wrap (a1_2))), wrap64 (a0_4 - 1), true)) else (some (0, 0, 0, 0, 0, false)))) = some (r1, r2, r3, r4, r5, r6) := by rw [if_pos rfl] at H; exact H
    clear H
    have H := H1
    clear H1
    replace H := Option.bind_eq_some_iff.mp H
    obtain ⟨t273, A470, H⟩ := H
    replace H : (if t273 = true then (some (a0_0, t268, t269, IntKind.u64.wrap (a0_3 - (IntKind.u64.wrap (a1_2))), wrap64 (a0_4 - 1), true)) else (some (0, 0, 0, 0, 0, false))) = some (r1, r2, r3, r4, r5, r6) := H
    have A47 := Aside0.mk A470
    clear A470
    by_cases c48 : t273 = true
    ·subst c48
     have H1 : (some (a0_0, t268, t269, IntKind.u64.wrap (a0_3 - (IntKind.u64.wrap (a1_2))), wrap64 (a0_4 - 1), true)) = some (r1, r2, r3, r4, r5, r6) := by rw [if_pos rfl] at H; exact H
     clear H
     have H := H1
     clear H1
     simp only [Option.some.injEq, Prod.mk.injEq] at H
     obtain ⟨rfl, rfl, rfl, rfl, rfl, rfl⟩ := H
     try go_wp2
     replace BK261 := Aside0.mk (blk_drew BK261.out)
     replace BK262 := Aside0.mk (blk_drew BK262.out)
     replace BK263 := Aside0.mk (blk_drew BK263.out)
     replace HB := Aside0.mk (below_drew1 HB.out)
     refine start_ (n := 13) (S := fun w' => w'.cell? ⟨gb261, 0, none⟩ = some (.int .u64 a0_0) ∧ w'.cell? ⟨gb261, 1, none⟩ = some (.int .i64 a0_1) ∧ w'.cell? ⟨gb261, 2, none⟩ = some (.int .u64 a0_2) ∧ w'.cell? ⟨gb261, 3, none⟩ = some (.int .u64 a0_3) ∧ w'.cell? ⟨gb261, 4, none⟩ = some (.int .i64 a0_4) ∧ w'.cell? ⟨gb262, 0, none⟩ = some (.int .u64 a1_0) ∧ w'.cell? ⟨gb262, 1, none⟩ = some (.int .u32 a1_1) ∧ w'.cell? ⟨gb262, 2, none⟩ = some (.int .u32 a1_2)) (ds := []) #[false, false, false, false, false, false, false, false, false, false, false, false, false] (by kernel_rfl) rfl rfl ⟨bc BK261 0, bc BK261 1, bc BK261 2, bc BK261 3, bc BK261 4, bc BK262 0, bc BK262 1, bc BK262 2⟩ (fun hHeld => ?_); refine with_tabW mean_Mean_Take.tab3 mean_Mean_Take.bits3 (fun HT_ HW_ => ?_)
     generalize wc.drew = w49 at BK261 BK262 BK263 HB hHeld ⊢
     refine pure_ (i := 0) (N := some 32) (v := ?_) (a' := ?_) #[true, false, false, false, false, false, false, false, false, false, false, false, false] rfl rfl (any_of HT_.out (by kernel_rfl)) (fun _ _ _ h => h) (Or.inl ⟨by rfl, ?_⟩) ?_ ?_
     rotate_left
     ·intro w'
      go_simp
      with_reducible rfl
     rotate_left
     ·simp only [Act.put, List.setIfInBounds_toArray, List.set_cons_zero, List.set_cons_succ, i64_w, i32_w]
      rfl
     refine pure_ (i := 3) (N := some 35) (v := ?_) (a' := ?_) #[true, false, false, true, false, false, false, false, false, false, false, false, false] rfl rfl (any_of HT_.out (by kernel_rfl)) (fun _ _ _ h => h) (Or.inl ⟨by rfl, ?_⟩) ?_ ?_
     rotate_left
     ·intro w'
      go_simp
      with_reducible rfl
     rotate_left
     ·simp only [Act.put, List.setIfInBounds_toArray, List.set_cons_zero, List.set_cons_succ, i64_w, i32_w]
      rfl
     refine take_ (i := 1) (N := some 33) (v := ?_) (a' := ?_) #[true, true, false, true, false, false, false, false, false, false, false, false, false] rfl rfl (take_ofW HT_.out HW_.out (by kernel_rfl)) (fun _ _ _ h => h) (Or.inl ⟨by rfl, ?_⟩) hHeld ?_ ?_
     rotate_left
     ·rintro w' ⟨s0, s1, s2, s3, s4, s5, s6, s7⟩
      go_simp
      with_reducible rfl
     rotate_left
     ·simp only [Act.put, List.setIfInBounds_toArray, List.set_cons_zero, List.set_cons_succ, i64_w, i32_w]
      rfl
     refine take_ (i := 2) (N := some 34) (v := ?_) (a' := ?_) #[true, true, true, true, false, false, false, false, false, false, false, false, false] rfl rfl (take_ofW HT_.out HW_.out (by kernel_rfl)) (fun _ _ _ h => h) (Or.inl ⟨by rfl, ?_⟩) hHeld ?_ ?_
     rotate_left
     ·rintro w' ⟨s0, s1, s2, s3, s4, s5, s6, s7⟩
      go_simp
      with_reducible rfl
     rotate_left
     ·simp only [Act.put, List.setIfInBounds_toArray, List.set_cons_zero, List.set_cons_succ, i64_w, i32_w]
      rfl
     refine take_ (i := 4) (N := some 36) (v := ?_) (a' := ?_) #[true, true, true, true, true, false, false, false, false, false, false, false, false] rfl rfl (take_ofW HT_.out HW_.out (by kernel_rfl)) (fun _ _ _ h => h) (Or.inl ⟨by rfl, ?_⟩) hHeld ?_ ?_
     rotate_left
     ·rintro w' ⟨s0, s1, s2, s3, s4, s5, s6, s7⟩
      go_simp
      with_reducible rfl
     rotate_left
     ·simp only [Act.put, List.setIfInBounds_toArray, List.set_cons_zero, List.set_cons_succ, i64_w, i32_w]
      rfl
     refine join_ (σ := Nat) 2 #[true, true, true, true, true, true, true, true, true, true, true, false, false] (fun s_ => [(37, .agg #[.int .i64 t266, .int .u64 t267]), (38, .tuple #[.agg #[.int .i64 t268, .int .u64 t269], .bool true]), (6, .pointer (some ⟨s_, 0, none⟩)), (31, .tuple #[.agg #[.int .i64 t268, .int .u64 t269], .bool true]), (39, .agg #[.int .i64 t268, .int .u64 t269]), (40, .bool true)]) (fun s_ w' => (w'.cell? ⟨gb261, 0, none⟩ = some (.int .u64 a0_0) ∧ w'.cell? ⟨gb261, 1, none⟩ = some (.int .i64 a0_1) ∧ w'.cell? ⟨gb261, 2, none⟩ = some (.int .u64 a0_2) ∧ w'.cell? ⟨gb261, 3, none⟩ = some (.int .u64 a0_3) ∧ w'.cell? ⟨gb261, 4, none⟩ = some (.int .i64 a0_4) ∧ w'.cell? ⟨gb262, 0, none⟩ = some (.int .u64 a1_0) ∧ w'.cell? ⟨gb262, 1, none⟩ = some (.int .u32 a1_1) ∧ w'.cell? ⟨gb262, 2, none⟩ = some (.int .u32 a1_2)) ∧ (w'.heap[gb261]? = some (.cells #[.int .u64 a0_0, .int .i64 a0_1, .int .u64 a0_2, .int .u64 a0_3, .int .i64 a0_4] 33 (0, 0))) ∧ (w'.heap[gb262]? = some (.cells #[.int .u64 a1_0, .int .u32 a1_1, .int .u32 a1_2] 28 (0, 0))) ∧ (w'.heap[gb263]? = some (.cells #[.int .u64 0, .int .i64 0, .int .u64 0, .int .u64 0, .int .i64 0] 33 (0, 0))) ∧ (w'.heap[s_]? = some (.cells #[.int .i64 0, .int .u64 0] 31 (0, 0))) ∧ (w.heap.size ≤ s_) ∧ (w.heap.size ≤ s_) ∧ (gb261 ≠ s_) ∧ (s_ ≠ gb261) ∧ (gb262 ≠ s_) ∧ (s_ ≠ gb262) ∧ (gb263 ≠ s_) ∧ (s_ ≠ gb263) ∧ (Below w.heap.size w w')) ?_ ?_
     rotate_left
     ·intro hCont
      refine two_ (i := 5) (j := 10) (Ni := some 37) (Nj := some 6) #[true, true, true, true, true, true, false, false, false, false, false, false, false] #[true, true, true, true, true, false, false, false, false, false, true, false, false] rfl rfl rfl rfl (two_of HT_.out (by kernel_rfl)) (by decide) (by decide) (fun K hK => ?_) (fun K hK => ?_)
      ·skip
       refine goes_ Tryz.func59 (by kernel_rfl) rfl #[.agg #[.int .u64 a1_0, .int .u32 a1_1, .int .u32 a1_2], .int .u64 a0_0] (by rfl) rfl rfl argt ?_
       with_reducible refine (pos_Pos_Distance.calls kj2 a1_0 a1_1 a1_2 a0_0 t266 t267 _ A44.out).mono ?_
       rintro e w50 ⟨rfl, hb⟩
       refine ⟨_, rfl, ?_⟩
       replace BK261 := blkb BK261 hb
       replace BK262 := blkb BK262 hb
       replace BK263 := blkb BK263 hb
       replace HB := belb HB hb
       (try clear hb)
       (try clear hb2)
       (try clear hk)
       (try clear hi)
       refine hK.out _ _ ⟨bc BK261 0, bc BK261 1, bc BK261 2, bc BK261 3, bc BK261 4, bc BK262 0, bc BK262 1, bc BK262 2⟩ (fun hHeld => ?_)
       clear hK K
       refine norm_ (a' := ?_) ?_ ?_
       rotate_left
       ·show Act.put _ (some 37) _ = _
        simp only [Act.put, List.setIfInBounds_toArray, List.set_cons_zero, List.set_cons_succ, i64_w, i32_w]
        rfl
       refine two_ (i := 6) (j := 10) (Ni := some 38) (Nj := some 6) #[true, true, true, true, true, true, true, false, false, false, false, false, false] #[true, true, true, true, true, true, false, false, false, false, true, false, false] rfl rfl rfl rfl (two_of HT_.out (by kernel_rfl)) (by decide) (by decide) (fun K hK => ?_) (fun K hK => ?_)
       ·skip
        refine goes_ Tryz.func26 (by kernel_rfl) rfl #[.agg #[.int .i64 a0_1, .int .u64 a0_2], .agg #[.int .i64 t266, .int .u64 t267]] (by rfl) rfl rfl argt ?_
        with_reducible refine (wide_Int_Sub.calls a0_1 a0_2 t266 t267 t268 t269 true _ A45.out).mono ?_
        rintro e w51 ⟨rfl, hb⟩
        refine ⟨_, rfl, ?_⟩
        replace BK261 := blkb BK261 hb
        replace BK262 := blkb BK262 hb
        replace BK263 := blkb BK263 hb
        replace HB := belb HB hb
        (try clear hb)
        (try clear hb2)
        (try clear hk)
        (try clear hi)
        refine hK.out _ _ ⟨bc BK261 0, bc BK261 1, bc BK261 2, bc BK261 3, bc BK261 4, bc BK262 0, bc BK262 1, bc BK262 2⟩ (fun hHeld => ?_)
        clear hK K
        refine norm_ (a' := ?_) ?_ ?_
        rotate_left
        ·show Act.put _ (some 38) _ = _
         simp only [Act.put, List.setIfInBounds_toArray, List.set_cons_zero, List.set_cons_succ, i64_w, i32_w]
         rfl
        refine pure_ (i := 7) (N := some 31) (v := ?_) (a' := ?_) #[true, true, true, true, true, true, true, true, false, false, false, false, false] rfl rfl (any_of HT_.out (by kernel_rfl)) (fun _ _ _ h => h) (Or.inl ⟨by rfl, ?_⟩) ?_ ?_
        rotate_left
        ·intro w'
         go_simp
         with_reducible rfl
        rotate_left
        ·simp only [Act.put, List.setIfInBounds_toArray, List.set_cons_zero, List.set_cons_succ, i64_w, i32_w]
         rfl
        refine pure_ (i := 8) (N := some 39) (v := ?_) (a' := ?_) #[true, true, true, true, true, true, true, true, true, false, false, false, false] rfl rfl (any_of HT_.out (by kernel_rfl)) (fun _ _ _ h => h) (Or.inl ⟨by rfl, ?_⟩) ?_ ?_
        rotate_left
        ·intro w'
         go_simp
         with_reducible rfl
        rotate_left
        ·simp only [Act.put, List.setIfInBounds_toArray, List.set_cons_zero, List.set_cons_succ, i64_w, i32_w]
         rfl
        refine pure_ (i := 9) (N := some 40) (v := ?_) (a' := ?_) #[true, true, true, true, true, true, true, true, true, true, false, false, false] rfl rfl (any_of HT_.out (by kernel_rfl)) (fun _ _ _ h => h) (Or.inl ⟨by rfl, ?_⟩) ?_ ?_
        rotate_left
        ·intro w'
         go_simp
         with_reducible rfl
        rotate_left
        ·simp only [Act.put, List.setIfInBounds_toArray, List.set_cons_zero, List.set_cons_succ, i64_w, i32_w]
         rfl
        refine one_ (i := 10) (N := some 6) #[true, true, true, true, true, true, true, true, true, true, true, false, false] rfl rfl (one_of HT_.out (by kernel_rfl)) (by decide) (fun K hK => ?_)
        refine box_step ?hg (N := 6) ?hd (cs := #[.int .i64 0, .int .u64 0]) (t := 31) ?hr ?_; (case hd => rfl); (case hg => rfl); (case hr => first | (go_simp; done) | (go_simp; rfl))
        intro gb271 hg w52 hbox hb
        have BK271 := Aside0.mk (hbox)
        have GW271 := bels HB hg
        have GE271 := bels HB hg
        have NB261_271 := blkl BK261 hg
        have NB271_261 := blkg BK261 hg
        have NB262_271 := blkl BK262 hg
        have NB271_262 := blkg BK262 hg
        have NB263_271 := blkl BK263 hg
        have NB271_263 := blkg BK263 hg
        replace BK261 := blkb BK261 hb
        replace BK262 := blkb BK262 hb
        replace BK263 := blkb BK263 hb
        replace HB := belb HB hb
        clear hb hbox hg
        refine hK.out _ _ ⟨bc BK261 0, bc BK261 1, bc BK261 2, bc BK261 3, bc BK261 4, bc BK262 0, bc BK262 1, bc BK262 2⟩ (fun hHeld => ?_)
        clear hK K
        refine norm_ (a' := ?_) ?_ ?_
        rotate_left
        ·show Act.put _ (some 6) _ = _
         simp only [Act.put, List.setIfInBounds_toArray, List.set_cons_zero, List.set_cons_succ, i64_w, i32_w]
         rfl
        exact norm_ (by simp only [putAll, Act.put, List.setIfInBounds_toArray, List.set_cons_zero, List.set_cons_succ]) (hCont (gb271) _ ⟨hHeld, (blkt BK261), (blkt BK262), (blkt BK263), (blkt BK271), GW271.out, GE271.out, NB261_271.out, NB271_261.out, NB262_271.out, NB271_262.out, NB263_271.out, NB271_263.out, (belt HB)⟩)
       skip
       refine box_step ?hg (N := 6) ?hd (cs := #[.int .i64 0, .int .u64 0]) (t := 31) ?hr ?_; (case hd => rfl); (case hg => rfl); (case hr => first | (go_simp; done) | (go_simp; rfl))
       intro gb271 hg w51 hbox hb
       have BK271 := Aside0.mk (hbox)
       have GW271 := bels HB hg
       have GE271 := bels HB hg
       have NB261_271 := blkl BK261 hg
       have NB271_261 := blkg BK261 hg
       have NB262_271 := blkl BK262 hg
       have NB271_262 := blkg BK262 hg
       have NB263_271 := blkl BK263 hg
       have NB271_263 := blkg BK263 hg
       replace BK261 := blkb BK261 hb
       replace BK262 := blkb BK262 hb
       replace BK263 := blkb BK263 hb
       replace HB := belb HB hb
       clear hb hbox hg
       refine hK.out _ _ ⟨bc BK261 0, bc BK261 1, bc BK261 2, bc BK261 3, bc BK261 4, bc BK262 0, bc BK262 1, bc BK262 2⟩ (fun hHeld => ?_)
       clear hK K
       refine norm_ (a' := ?_) ?_ ?_
       rotate_left
       ·show Act.put _ (some 6) _ = _
        simp only [Act.put, List.setIfInBounds_toArray, List.set_cons_zero, List.set_cons_succ, i64_w, i32_w]
        rfl
       refine one_ (i := 6) (N := some 38) #[true, true, true, true, true, true, true, false, false, false, true, false, false] rfl rfl (one_of HT_.out (by kernel_rfl)) (by decide) (fun K hK => ?_)
       refine goes_ Tryz.func26 (by kernel_rfl) rfl #[.agg #[.int .i64 a0_1, .int .u64 a0_2], .agg #[.int .i64 t266, .int .u64 t267]] (by rfl) rfl rfl argt ?_
       with_reducible refine (wide_Int_Sub.calls a0_1 a0_2 t266 t267 t268 t269 true _ A45.out).mono ?_
       rintro e w52 ⟨rfl, hb⟩
       refine ⟨_, rfl, ?_⟩
       replace BK261 := blkb BK261 hb
       replace BK262 := blkb BK262 hb
       replace BK263 := blkb BK263 hb
       replace BK271 := blkb BK271 hb
       replace HB := belb HB hb
       (try clear hb)
       (try clear hb2)
       (try clear hk)
       (try clear hi)
       refine hK.out _ _ ⟨bc BK261 0, bc BK261 1, bc BK261 2, bc BK261 3, bc BK261 4, bc BK262 0, bc BK262 1, bc BK262 2⟩ (fun hHeld => ?_)
       clear hK K
       refine norm_ (a' := ?_) ?_ ?_
       rotate_left
       ·show Act.put _ (some 38) _ = _
        simp only [Act.put, List.setIfInBounds_toArray, List.set_cons_zero, List.set_cons_succ, i64_w, i32_w]
        rfl
       refine pure_ (i := 7) (N := some 31) (v := ?_) (a' := ?_) #[true, true, true, true, true, true, true, true, false, false, true, false, false] rfl rfl (any_of HT_.out (by kernel_rfl)) (fun _ _ _ h => h) (Or.inl ⟨by rfl, ?_⟩) ?_ ?_
       rotate_left
       ·intro w'
        go_simp
        with_reducible rfl
       rotate_left
       ·simp only [Act.put, List.setIfInBounds_toArray, List.set_cons_zero, List.set_cons_succ, i64_w, i32_w]
        rfl
       refine pure_ (i := 8) (N := some 39) (v := ?_) (a' := ?_) #[true, true, true, true, true, true, true, true, true, false, true, false, false] rfl rfl (any_of HT_.out (by kernel_rfl)) (fun _ _ _ h => h) (Or.inl ⟨by rfl, ?_⟩) ?_ ?_
       rotate_left
       ·intro w'
        go_simp
        with_reducible rfl
       rotate_left
       ·simp only [Act.put, List.setIfInBounds_toArray, List.set_cons_zero, List.set_cons_succ, i64_w, i32_w]
        rfl
       refine pure_ (i := 9) (N := some 40) (v := ?_) (a' := ?_) #[true, true, true, true, true, true, true, true, true, true, true, false, false] rfl rfl (any_of HT_.out (by kernel_rfl)) (fun _ _ _ h => h) (Or.inl ⟨by rfl, ?_⟩) ?_ ?_
       rotate_left
       ·intro w'
        go_simp
        with_reducible rfl
       rotate_left
       ·simp only [Act.put, List.setIfInBounds_toArray, List.set_cons_zero, List.set_cons_succ, i64_w, i32_w]
        rfl
       exact norm_ (by simp only [putAll, Act.put, List.setIfInBounds_toArray, List.set_cons_zero, List.set_cons_succ]) (hCont (gb271) _ ⟨hHeld, (blkt BK261), (blkt BK262), (blkt BK263), (blkt BK271), GW271.out, GE271.out, NB261_271.out, NB271_261.out, NB262_271.out, NB271_262.out, NB263_271.out, NB271_263.out, (belt HB)⟩)
      skip
      refine box_step ?hg (N := 6) ?hd (cs := #[.int .i64 0, .int .u64 0]) (t := 31) ?hr ?_; (case hd => rfl); (case hg => rfl); (case hr => first | (go_simp; done) | (go_simp; rfl))
      intro gb271 hg w50 hbox hb
      have BK271 := Aside0.mk (hbox)
      have GW271 := bels HB hg
      have GE271 := bels HB hg
      have NB261_271 := blkl BK261 hg
      have NB271_261 := blkg BK261 hg
      have NB262_271 := blkl BK262 hg
      have NB271_262 := blkg BK262 hg
      have NB263_271 := blkl BK263 hg
      have NB271_263 := blkg BK263 hg
      replace BK261 := blkb BK261 hb
      replace BK262 := blkb BK262 hb
      replace BK263 := blkb BK263 hb
      replace HB := belb HB hb
      clear hb hbox hg
      refine hK.out _ _ ⟨bc BK261 0, bc BK261 1, bc BK261 2, bc BK261 3, bc BK261 4, bc BK262 0, bc BK262 1, bc BK262 2⟩ (fun hHeld => ?_)
      clear hK K
      refine norm_ (a' := ?_) ?_ ?_
      rotate_left
      ·show Act.put _ (some 6) _ = _
       simp only [Act.put, List.setIfInBounds_toArray, List.set_cons_zero, List.set_cons_succ, i64_w, i32_w]
       rfl
      refine one_ (i := 5) (N := some 37) #[true, true, true, true, true, true, false, false, false, false, true, false, false] rfl rfl (one_of HT_.out (by kernel_rfl)) (by decide) (fun K hK => ?_)
      refine goes_ Tryz.func59 (by kernel_rfl) rfl #[.agg #[.int .u64 a1_0, .int .u32 a1_1, .int .u32 a1_2], .int .u64 a0_0] (by rfl) rfl rfl argt ?_
      with_reducible refine (pos_Pos_Distance.calls kj2 a1_0 a1_1 a1_2 a0_0 t266 t267 _ A44.out).mono ?_
      rintro e w51 ⟨rfl, hb⟩
      refine ⟨_, rfl, ?_⟩
      replace BK261 := blkb BK261 hb
      replace BK262 := blkb BK262 hb
      replace BK263 := blkb BK263 hb
      replace BK271 := blkb BK271 hb
      replace HB := belb HB hb
      (try clear hb)
      (try clear hb2)
      (try clear hk)
      (try clear hi)
      refine hK.out _ _ ⟨bc BK261 0, bc BK261 1, bc BK261 2, bc BK261 3, bc BK261 4, bc BK262 0, bc BK262 1, bc BK262 2⟩ (fun hHeld => ?_)
      clear hK K
      refine norm_ (a' := ?_) ?_ ?_
      rotate_left
      ·show Act.put _ (some 37) _ = _
       simp only [Act.put, List.setIfInBounds_toArray, List.set_cons_zero, List.set_cons_succ, i64_w, i32_w]
       rfl
      refine one_ (i := 6) (N := some 38) #[true, true, true, true, true, true, true, false, false, false, true, false, false] rfl rfl (one_of HT_.out (by kernel_rfl)) (by decide) (fun K hK => ?_)
      refine goes_ Tryz.func26 (by kernel_rfl) rfl #[.agg #[.int .i64 a0_1, .int .u64 a0_2], .agg #[.int .i64 t266, .int .u64 t267]] (by rfl) rfl rfl argt ?_
      with_reducible refine (wide_Int_Sub.calls a0_1 a0_2 t266 t267 t268 t269 true _ A45.out).mono ?_
      rintro e w52 ⟨rfl, hb⟩
      refine ⟨_, rfl, ?_⟩
      replace BK261 := blkb BK261 hb
      replace BK262 := blkb BK262 hb
      replace BK263 := blkb BK263 hb
      replace BK271 := blkb BK271 hb
      replace HB := belb HB hb
      (try clear hb)
      (try clear hb2)
      (try clear hk)
      (try clear hi)
      refine hK.out _ _ ⟨bc BK261 0, bc BK261 1, bc BK261 2, bc BK261 3, bc BK261 4, bc BK262 0, bc BK262 1, bc BK262 2⟩ (fun hHeld => ?_)
      clear hK K
      refine norm_ (a' := ?_) ?_ ?_
      rotate_left
      ·show Act.put _ (some 38) _ = _
       simp only [Act.put, List.setIfInBounds_toArray, List.set_cons_zero, List.set_cons_succ, i64_w, i32_w]
       rfl
      refine pure_ (i := 7) (N := some 31) (v := ?_) (a' := ?_) #[true, true, true, true, true, true, true, true, false, false, true, false, false] rfl rfl (any_of HT_.out (by kernel_rfl)) (fun _ _ _ h => h) (Or.inl ⟨by rfl, ?_⟩) ?_ ?_
      rotate_left
      ·intro w'
       go_simp
       with_reducible rfl
      rotate_left
      ·simp only [Act.put, List.setIfInBounds_toArray, List.set_cons_zero, List.set_cons_succ, i64_w, i32_w]
       rfl
      refine pure_ (i := 8) (N := some 39) (v := ?_) (a' := ?_) #[true, true, true, true, true, true, true, true, true, false, true, false, false] rfl rfl (any_of HT_.out (by kernel_rfl)) (fun _ _ _ h => h) (Or.inl ⟨by rfl, ?_⟩) ?_ ?_
      rotate_left
      ·intro w'
       go_simp
       with_reducible rfl
      rotate_left
      ·simp only [Act.put, List.setIfInBounds_toArray, List.set_cons_zero, List.set_cons_succ, i64_w, i32_w]
       rfl
      refine pure_ (i := 9) (N := some 40) (v := ?_) (a' := ?_) #[true, true, true, true, true, true, true, true, true, true, true, false, false] rfl rfl (any_of HT_.out (by kernel_rfl)) (fun _ _ _ h => h) (Or.inl ⟨by rfl, ?_⟩) ?_ ?_
      rotate_left
      ·intro w'
       go_simp
       with_reducible rfl
      rotate_left
      ·simp only [Act.put, List.setIfInBounds_toArray, List.set_cons_zero, List.set_cons_succ, i64_w, i32_w]
       rfl
      exact norm_ (by simp only [putAll, Act.put, List.setIfInBounds_toArray, List.set_cons_zero, List.set_cons_succ]) (hCont (gb271) _ ⟨hHeld, (blkt BK261), (blkt BK262), (blkt BK263), (blkt BK271), GW271.out, GE271.out, NB261_271.out, NB271_261.out, NB262_271.out, NB271_262.out, NB263_271.out, NB271_263.out, (belt HB)⟩)
     rintro gb271 w53 ⟨hS_, h0_, h1_, h2_, h3_, h4_, h5_, h6_, h7_, h8_, h9_, h10_, h11_, h12_⟩
     replace BK261 : Aside0 (w53.heap[gb261]? = some (.cells #[.int .u64 a0_0, .int .i64 a0_1, .int .u64 a0_2, .int .u64 a0_3, .int .i64 a0_4] 33 (0, 0))) := ⟨h0_⟩
     replace BK262 : Aside0 (w53.heap[gb262]? = some (.cells #[.int .u64 a1_0, .int .u32 a1_1, .int .u32 a1_2] 28 (0, 0))) := ⟨h1_⟩
     replace BK263 : Aside0 (w53.heap[gb263]? = some (.cells #[.int .u64 0, .int .i64 0, .int .u64 0, .int .u64 0, .int .i64 0] 33 (0, 0))) := ⟨h2_⟩
     have BK271 : Aside0 (w53.heap[gb271]? = some (.cells #[.int .i64 0, .int .u64 0] 31 (0, 0))) := ⟨h3_⟩
     have GW271 : Aside0 (w.heap.size ≤ gb271) := ⟨h4_⟩
     have GE271 : Aside0 (w.heap.size ≤ gb271) := ⟨h5_⟩
     have NB261_271 : Aside0 (gb261 ≠ gb271) := ⟨h6_⟩
     have NB271_261 : Aside0 (gb271 ≠ gb261) := ⟨h7_⟩
     have NB262_271 : Aside0 (gb262 ≠ gb271) := ⟨h8_⟩
     have NB271_262 : Aside0 (gb271 ≠ gb262) := ⟨h9_⟩
     have NB263_271 : Aside0 (gb263 ≠ gb271) := ⟨h10_⟩
     have NB271_263 : Aside0 (gb271 ≠ gb263) := ⟨h11_⟩
     replace HB : Aside0 (Below w.heap.size w w53) := ⟨h12_⟩
     clear h0_ h1_ h2_ h3_ h4_ h5_ h6_ h7_ h8_ h9_ h10_ h11_ h12_
     have hHeld : w53.cell? ⟨gb261, 0, none⟩ = some (.int .u64 a0_0) ∧ w53.cell? ⟨gb261, 1, none⟩ = some (.int .i64 a0_1) ∧ w53.cell? ⟨gb261, 2, none⟩ = some (.int .u64 a0_2) ∧ w53.cell? ⟨gb261, 3, none⟩ = some (.int .u64 a0_3) ∧ w53.cell? ⟨gb261, 4, none⟩ = some (.int .i64 a0_4) ∧ w53.cell? ⟨gb262, 0, none⟩ = some (.int .u64 a1_0) ∧ w53.cell? ⟨gb262, 1, none⟩ = some (.int .u32 a1_1) ∧ w53.cell? ⟨gb262, 2, none⟩ = some (.int .u32 a1_2) := hS_
     refine norm_ (a' := ?_) ?_ ?_
     rotate_left
     ·simp only [putAll, Act.put, List.setIfInBounds_toArray, List.set_cons_zero, List.set_cons_succ]
      rfl
     refine one_ (i := 11) (N := none) #[true, true, true, true, true, true, true, true, true, true, true, true, false] rfl rfl (one_of HT_.out (by kernel_rfl)) (by decide) (fun K hK => ?_)
     have hs54 : w53.cell? ⟨gb271, 0, none⟩ = some (.int .i64 0) := bc BK271 0
     have hfs54 := blk_frozen BK271.out 0
     have hns54_0 := NB261_271.out
     have hns54_1 := NB262_271.out
     have hns54_2 := NB263_271.out
     have hms54_0 := NB271_261.out
     have hms54_1 := NB271_262.out
     have hms54_2 := NB271_263.out
     have hs55 : w53.cell? ⟨gb271, 1, none⟩ = some (.int .u64 0) := bc BK271 1
     have hfs55 := blk_frozen BK271.out 1
     have hns55_0 := NB261_271.out
     have hns55_1 := NB262_271.out
     have hns55_2 := NB263_271.out
     have hms55_0 := NB271_261.out
     have hms55_1 := NB271_262.out
     have hms55_2 := NB271_263.out
     refine skip_ (w1 := ?_) (by rfl) rfl ?_ ?_
     rotate_left
     ·go_simp
      rfl
     refine hK.out _ _ ⟨((cell_far (p := ⟨gb271, _, none⟩) NB261_271.out _).trans (((cell_far (p := ⟨gb271, _, none⟩) NB261_271.out _).trans (hHeld.1)))), ((cell_far (p := ⟨gb271, _, none⟩) NB261_271.out _).trans (((cell_far (p := ⟨gb271, _, none⟩) NB261_271.out _).trans (hHeld.2.1)))), ((cell_far (p := ⟨gb271, _, none⟩) NB261_271.out _).trans (((cell_far (p := ⟨gb271, _, none⟩) NB261_271.out _).trans (hHeld.2.2.1)))), ((cell_far (p := ⟨gb271, _, none⟩) NB261_271.out _).trans (((cell_far (p := ⟨gb271, _, none⟩) NB261_271.out _).trans (hHeld.2.2.2.1)))), ((cell_far (p := ⟨gb271, _, none⟩) NB261_271.out _).trans (((cell_far (p := ⟨gb271, _, none⟩) NB261_271.out _).trans (hHeld.2.2.2.2.1)))), ((cell_far (p := ⟨gb271, _, none⟩) NB262_271.out _).trans (((cell_far (p := ⟨gb271, _, none⟩) NB262_271.out _).trans (hHeld.2.2.2.2.2.1)))), ((cell_far (p := ⟨gb271, _, none⟩) NB262_271.out _).trans (((cell_far (p := ⟨gb271, _, none⟩) NB262_271.out _).trans (hHeld.2.2.2.2.2.2.1)))), ((cell_far (p := ⟨gb271, _, none⟩) NB262_271.out _).trans (((cell_far (p := ⟨gb271, _, none⟩) NB262_271.out _).trans (hHeld.2.2.2.2.2.2.2))))⟩ (fun hHeld => ?_)
     clear hK K
     refine pure_ (i := 12) (N := some 7) (v := ?_) (a' := ?_) #[true, true, true, true, true, true, true, true, true, true, true, true, true] rfl rfl (any_of HT_.out (by kernel_rfl)) (fun _ _ _ h => h) (Or.inl ⟨by rfl, ?_⟩) ?_ ?_
     rotate_left
     ·intro w'
      go_simp
      with_reducible rfl
     rotate_left
     ·simp only [Act.put, List.setIfInBounds_toArray, List.set_cons_zero, List.set_cons_succ, i64_w, i32_w]
      rfl
     refine done_ (done_of HT_.out (by kernel_rfl)) ?_
     have hnb56 := NB261_262.out
     have hnc56 := NB262_261.out
     have hnb57 := NB261_263.out
     have hnc57 := NB263_261.out
     have hnb58 := NB261_271.out
     have hnc58 := NB271_261.out
     have hcz59_0 : w53.cell? ⟨gb261, 0, none⟩ = some (.int .u64 a0_0) := bc BK261 0
     have hcz59_1 : w53.cell? ⟨gb261, 1, none⟩ = some (.int .i64 a0_1) := bc BK261 1
     have hcz59_2 : w53.cell? ⟨gb261, 2, none⟩ = some (.int .u64 a0_2) := bc BK261 2
     have hcz59_3 : w53.cell? ⟨gb261, 3, none⟩ = some (.int .u64 a0_3) := bc BK261 3
     have hcz59_4 : w53.cell? ⟨gb261, 4, none⟩ = some (.int .i64 a0_4) := bc BK261 4
     have hfz59_0 := blk_frozen BK261.out 0
     have hfz59_1 := blk_frozen BK261.out 1
     have hfz59_2 := blk_frozen BK261.out 2
     have hfz59_3 := blk_frozen BK261.out 3
     have hfz59_4 := blk_frozen BK261.out 4
     have hnb60 := NB271_262.out
     have hnc60 := NB262_271.out
     have hnb61 := NB271_263.out
     have hnc61 := NB263_271.out
     have hcz62_0 : w53.cell? ⟨gb271, 0, none⟩ = some (.int .i64 0) := bc BK271 0
     have hcz62_1 : w53.cell? ⟨gb271, 1, none⟩ = some (.int .u64 0) := bc BK271 1
     have hfz62_0 := blk_frozen BK271.out 0
     have hfz62_1 := blk_frozen BK271.out 1
     have hnb63 := NB262_263.out
     have hnc63 := NB263_262.out
     have hcz64_0 : w53.cell? ⟨gb262, 0, none⟩ = some (.int .u64 a1_0) := bc BK262 0
     have hcz64_1 : w53.cell? ⟨gb262, 1, none⟩ = some (.int .u32 a1_1) := bc BK262 1
     have hcz64_2 : w53.cell? ⟨gb262, 2, none⟩ = some (.int .u32 a1_2) := bc BK262 2
     have hfz64_0 := blk_frozen BK262.out 0
     have hfz64_1 := blk_frozen BK262.out 1
     have hfz64_2 := blk_frozen BK262.out 2
     try go_wp2_with (first | ((with_reducible refine gate_dst (N := 8) rfl ?_); refine box_event ?hg (N := 8) ?hd (cs := #[.int .u64 0, .int .i64 0, .int .u64 0, .int .u64 0, .int .i64 0]) (t := 33) ?hr ?_; (case hd => rfl); (case hg => rfl); (case hr => first | (go_simp; done) | (go_simp; rfl)); intro gb272 hg w65 hbox hb; have BK272 := Aside0.mk (hbox); have GW272 := bels HB hg; have GE272 := bels HB hg; have NB261_272 := Aside0.mk ((by rw [hg]; exact Nat.ne_of_lt (blk_lt (g := gb261) (o := .cells #[.int .u64 a0_0, .int .i64 a0_1, .int .u64 a0_2, .int .u64 a0_3, .int .i64 a0_4] 33 (0, 0)) (by (with_reducible repeat (first | refine blk_drewN ?_ _ | refine blk_drew ?_ | refine blk_alloc ?_ _)); refine blk_far ?_ NB261_271.out _; (with_reducible repeat (first | refine blk_drewN ?_ _ | refine blk_drew ?_ | refine blk_alloc ?_ _)); refine blk_far ?_ NB261_271.out _; exact blkt BK261)) : gb261 ≠ gb272)); have NB272_261 := Aside0.mk ((by rw [hg]; exact Nat.ne_of_gt (blk_lt (g := gb261) (o := .cells #[.int .u64 a0_0, .int .i64 a0_1, .int .u64 a0_2, .int .u64 a0_3, .int .i64 a0_4] 33 (0, 0)) (by (with_reducible repeat (first | refine blk_drewN ?_ _ | refine blk_drew ?_ | refine blk_alloc ?_ _)); refine blk_far ?_ NB261_271.out _; (with_reducible repeat (first | refine blk_drewN ?_ _ | refine blk_drew ?_ | refine blk_alloc ?_ _)); refine blk_far ?_ NB261_271.out _; exact blkt BK261)) : gb272 ≠ gb261)); have NB262_272 := Aside0.mk ((by rw [hg]; exact Nat.ne_of_lt (blk_lt (g := gb262) (o := .cells #[.int .u64 a1_0, .int .u32 a1_1, .int .u32 a1_2] 28 (0, 0)) (by (with_reducible repeat (first | refine blk_drewN ?_ _ | refine blk_drew ?_ | refine blk_alloc ?_ _)); refine blk_far ?_ NB262_271.out _; (with_reducible repeat (first | refine blk_drewN ?_ _ | refine blk_drew ?_ | refine blk_alloc ?_ _)); refine blk_far ?_ NB262_271.out _; exact blkt BK262)) : gb262 ≠ gb272)); have NB272_262 := Aside0.mk ((by rw [hg]; exact Nat.ne_of_gt (blk_lt (g := gb262) (o := .cells #[.int .u64 a1_0, .int .u32 a1_1, .int .u32 a1_2] 28 (0, 0)) (by (with_reducible repeat (first | refine blk_drewN ?_ _ | refine blk_drew ?_ | refine blk_alloc ?_ _)); refine blk_far ?_ NB262_271.out _; (with_reducible repeat (first | refine blk_drewN ?_ _ | refine blk_drew ?_ | refine blk_alloc ?_ _)); refine blk_far ?_ NB262_271.out _; exact blkt BK262)) : gb272 ≠ gb262)); have NB263_272 := Aside0.mk ((by rw [hg]; exact Nat.ne_of_lt (blk_lt (g := gb263) (o := .cells #[.int .u64 0, .int .i64 0, .int .u64 0, .int .u64 0, .int .i64 0] 33 (0, 0)) (by (with_reducible repeat (first | refine blk_drewN ?_ _ | refine blk_drew ?_ | refine blk_alloc ?_ _)); refine blk_far ?_ NB263_271.out _; (with_reducible repeat (first | refine blk_drewN ?_ _ | refine blk_drew ?_ | refine blk_alloc ?_ _)); refine blk_far ?_ NB263_271.out _; exact blkt BK263)) : gb263 ≠ gb272)); have NB272_263 := Aside0.mk ((by rw [hg]; exact Nat.ne_of_gt (blk_lt (g := gb263) (o := .cells #[.int .u64 0, .int .i64 0, .int .u64 0, .int .u64 0, .int .i64 0] 33 (0, 0)) (by (with_reducible repeat (first | refine blk_drewN ?_ _ | refine blk_drew ?_ | refine blk_alloc ?_ _)); refine blk_far ?_ NB263_271.out _; (with_reducible repeat (first | refine blk_drewN ?_ _ | refine blk_drew ?_ | refine blk_alloc ?_ _)); refine blk_far ?_ NB263_271.out _; exact blkt BK263)) : gb272 ≠ gb263)); have NB271_272 := Aside0.mk ((by rw [hg]; exact Nat.ne_of_lt (blk_lt (g := gb271) (o := .cells #[.int .i64 t268, .int .u64 t269] 31 (0, 0)) (by (with_reducible repeat (first | refine blk_drewN ?_ _ | refine blk_drew ?_ | refine blk_alloc ?_ _)); refine blk_put (cs := #[.int .i64 t268, .int .u64 0]) ?_ 1 _ rfl; (with_reducible repeat (first | refine blk_drewN ?_ _ | refine blk_drew ?_ | refine blk_alloc ?_ _)); refine blk_put (cs := #[.int .i64 0, .int .u64 0]) ?_ 0 _ rfl; exact blkt BK271)) : gb271 ≠ gb272)); have NB272_271 := Aside0.mk ((by rw [hg]; exact Nat.ne_of_gt (blk_lt (g := gb271) (o := .cells #[.int .i64 t268, .int .u64 t269] 31 (0, 0)) (by (with_reducible repeat (first | refine blk_drewN ?_ _ | refine blk_drew ?_ | refine blk_alloc ?_ _)); refine blk_put (cs := #[.int .i64 t268, .int .u64 0]) ?_ 1 _ rfl; (with_reducible repeat (first | refine blk_drewN ?_ _ | refine blk_drew ?_ | refine blk_alloc ?_ _)); refine blk_put (cs := #[.int .i64 0, .int .u64 0]) ?_ 0 _ rfl; exact blkt BK271)) : gb272 ≠ gb271)); replace BK261 := Aside0.mk (blk_below (g := gb261) (o := .cells #[.int .u64 a0_0, .int .i64 a0_1, .int .u64 a0_2, .int .u64 a0_3, .int .i64 a0_4] 33 (0, 0)) (by (with_reducible repeat (first | refine blk_drewN ?_ _ | refine blk_drew ?_ | refine blk_alloc ?_ _)); refine blk_far ?_ NB261_271.out _; (with_reducible repeat (first | refine blk_drewN ?_ _ | refine blk_drew ?_ | refine blk_alloc ?_ _)); refine blk_far ?_ NB261_271.out _; exact blkt BK261) hb); replace BK262 := Aside0.mk (blk_below (g := gb262) (o := .cells #[.int .u64 a1_0, .int .u32 a1_1, .int .u32 a1_2] 28 (0, 0)) (by (with_reducible repeat (first | refine blk_drewN ?_ _ | refine blk_drew ?_ | refine blk_alloc ?_ _)); refine blk_far ?_ NB262_271.out _; (with_reducible repeat (first | refine blk_drewN ?_ _ | refine blk_drew ?_ | refine blk_alloc ?_ _)); refine blk_far ?_ NB262_271.out _; exact blkt BK262) hb); replace BK263 := Aside0.mk (blk_below (g := gb263) (o := .cells #[.int .u64 0, .int .i64 0, .int .u64 0, .int .u64 0, .int .i64 0] 33 (0, 0)) (by (with_reducible repeat (first | refine blk_drewN ?_ _ | refine blk_drew ?_ | refine blk_alloc ?_ _)); refine blk_far ?_ NB263_271.out _; (with_reducible repeat (first | refine blk_drewN ?_ _ | refine blk_drew ?_ | refine blk_alloc ?_ _)); refine blk_far ?_ NB263_271.out _; exact blkt BK263) hb); replace BK271 := Aside0.mk (blk_below (g := gb271) (o := .cells #[.int .i64 t268, .int .u64 t269] 31 (0, 0)) (by (with_reducible repeat (first | refine blk_drewN ?_ _ | refine blk_drew ?_ | refine blk_alloc ?_ _)); refine blk_put (cs := #[.int .i64 t268, .int .u64 0]) ?_ 1 _ rfl; (with_reducible repeat (first | refine blk_drewN ?_ _ | refine blk_drew ?_ | refine blk_alloc ?_ _)); refine blk_put (cs := #[.int .i64 0, .int .u64 0]) ?_ 0 _ rfl; exact blkt BK271) hb); replace HB := belb HB hb; clear hb hbox hg; have hnb66 := NB272_261.out; have hnc66 := NB261_272.out; have hnb67 := NB272_262.out; have hnc67 := NB262_272.out; have hnb68 := NB272_263.out; have hnc68 := NB263_272.out; have hnb69 := NB272_271.out; have hnc69 := NB271_272.out; have hcz70_0 : w65.cell? ⟨gb272, 0, none⟩ = some (.int .u64 0) := bc BK272 0; have hcz70_1 : w65.cell? ⟨gb272, 1, none⟩ = some (.int .i64 0) := bc BK272 1; have hcz70_2 : w65.cell? ⟨gb272, 2, none⟩ = some (.int .u64 0) := bc BK272 2; have hcz70_3 : w65.cell? ⟨gb272, 3, none⟩ = some (.int .u64 0) := bc BK272 3; have hcz70_4 : w65.cell? ⟨gb272, 4, none⟩ = some (.int .i64 0) := bc BK272 4; have hfz70_0 := blk_frozen BK272.out 0; have hfz70_1 := blk_frozen BK272.out 1; have hfz70_2 := blk_frozen BK272.out 2; have hfz70_3 := blk_frozen BK272.out 3; have hfz70_4 := blk_frozen BK272.out 4) | (go_at_call 52; (with_reducible refine (mean_Mean_Right.calls a0_0 t268 t269 (IntKind.u64.wrap (a0_3 - (IntKind.u64.wrap (a1_2)))) (wrap64 (a0_4 - 1)) true _ A47.out).mono ?_); rintro e w71 ⟨rfl, hb⟩; replace BK261 := Aside0.mk (blk_below (g := gb261) (o := .cells #[.int .u64 a0_0, .int .i64 a0_1, .int .u64 a0_2, .int .u64 a0_3, .int .i64 a0_4] 33 (0, 0)) (by (with_reducible repeat (first | refine blk_drewN ?_ _ | refine blk_drew ?_ | refine blk_alloc ?_ _)); refine blk_far ?_ NB261_272.out _; (with_reducible repeat (first | refine blk_drewN ?_ _ | refine blk_drew ?_ | refine blk_alloc ?_ _)); refine blk_far ?_ NB261_272.out _; (with_reducible repeat (first | refine blk_drewN ?_ _ | refine blk_drew ?_ | refine blk_alloc ?_ _)); refine blk_far ?_ NB261_272.out _; (with_reducible repeat (first | refine blk_drewN ?_ _ | refine blk_drew ?_ | refine blk_alloc ?_ _)); refine blk_far ?_ NB261_272.out _; (with_reducible repeat (first | refine blk_drewN ?_ _ | refine blk_drew ?_ | refine blk_alloc ?_ _)); refine blk_far ?_ NB261_272.out _; exact blkt BK261) hb); replace BK262 := Aside0.mk (blk_below (g := gb262) (o := .cells #[.int .u64 a1_0, .int .u32 a1_1, .int .u32 a1_2] 28 (0, 0)) (by (with_reducible repeat (first | refine blk_drewN ?_ _ | refine blk_drew ?_ | refine blk_alloc ?_ _)); refine blk_far ?_ NB262_272.out _; (with_reducible repeat (first | refine blk_drewN ?_ _ | refine blk_drew ?_ | refine blk_alloc ?_ _)); refine blk_far ?_ NB262_272.out _; (with_reducible repeat (first | refine blk_drewN ?_ _ | refine blk_drew ?_ | refine blk_alloc ?_ _)); refine blk_far ?_ NB262_272.out _; (with_reducible repeat (first | refine blk_drewN ?_ _ | refine blk_drew ?_ | refine blk_alloc ?_ _)); refine blk_far ?_ NB262_272.out _; (with_reducible repeat (first | refine blk_drewN ?_ _ | refine blk_drew ?_ | refine blk_alloc ?_ _)); refine blk_far ?_ NB262_272.out _; exact blkt BK262) hb); replace BK263 := Aside0.mk (blk_below (g := gb263) (o := .cells #[.int .u64 0, .int .i64 0, .int .u64 0, .int .u64 0, .int .i64 0] 33 (0, 0)) (by (with_reducible repeat (first | refine blk_drewN ?_ _ | refine blk_drew ?_ | refine blk_alloc ?_ _)); refine blk_far ?_ NB263_272.out _; (with_reducible repeat (first | refine blk_drewN ?_ _ | refine blk_drew ?_ | refine blk_alloc ?_ _)); refine blk_far ?_ NB263_272.out _; (with_reducible repeat (first | refine blk_drewN ?_ _ | refine blk_drew ?_ | refine blk_alloc ?_ _)); refine blk_far ?_ NB263_272.out _; (with_reducible repeat (first | refine blk_drewN ?_ _ | refine blk_drew ?_ | refine blk_alloc ?_ _)); refine blk_far ?_ NB263_272.out _; (with_reducible repeat (first | refine blk_drewN ?_ _ | refine blk_drew ?_ | refine blk_alloc ?_ _)); refine blk_far ?_ NB263_272.out _; exact blkt BK263) hb); replace BK271 := Aside0.mk (blk_below (g := gb271) (o := .cells #[.int .i64 t268, .int .u64 t269] 31 (0, 0)) (by (with_reducible repeat (first | refine blk_drewN ?_ _ | refine blk_drew ?_ | refine blk_alloc ?_ _)); refine blk_far ?_ NB271_272.out _; (with_reducible repeat (first | refine blk_drewN ?_ _ | refine blk_drew ?_ | refine blk_alloc ?_ _)); refine blk_far ?_ NB271_272.out _; (with_reducible repeat (first | refine blk_drewN ?_ _ | refine blk_drew ?_ | refine blk_alloc ?_ _)); refine blk_far ?_ NB271_272.out _; (with_reducible repeat (first | refine blk_drewN ?_ _ | refine blk_drew ?_ | refine blk_alloc ?_ _)); refine blk_far ?_ NB271_272.out _; (with_reducible repeat (first | refine blk_drewN ?_ _ | refine blk_drew ?_ | refine blk_alloc ?_ _)); refine blk_far ?_ NB271_272.out _; exact blkt BK271) hb); replace BK272 := Aside0.mk (blk_below (g := gb272) (o := .cells #[.int .u64 a0_0, .int .i64 t268, .int .u64 t269, .int .u64 (IntKind.u64.wrap (a0_3 - (IntKind.u64.wrap (a1_2)))), .int .i64 (wrap64 (a0_4 - 1))] 33 (0, 0)) (by (with_reducible repeat (first | refine blk_drewN ?_ _ | refine blk_drew ?_ | refine blk_alloc ?_ _)); refine blk_put (cs := #[.int .u64 a0_0, .int .i64 t268, .int .u64 t269, .int .u64 (IntKind.u64.wrap (a0_3 - (IntKind.u64.wrap (a1_2)))), .int .i64 0]) ?_ 4 _ rfl; (with_reducible repeat (first | refine blk_drewN ?_ _ | refine blk_drew ?_ | refine blk_alloc ?_ _)); refine blk_put (cs := #[.int .u64 a0_0, .int .i64 t268, .int .u64 t269, .int .u64 0, .int .i64 0]) ?_ 3 _ rfl; (with_reducible repeat (first | refine blk_drewN ?_ _ | refine blk_drew ?_ | refine blk_alloc ?_ _)); refine blk_put (cs := #[.int .u64 a0_0, .int .i64 t268, .int .u64 0, .int .u64 0, .int .i64 0]) ?_ 2 _ rfl; (with_reducible repeat (first | refine blk_drewN ?_ _ | refine blk_drew ?_ | refine blk_alloc ?_ _)); refine blk_put (cs := #[.int .u64 a0_0, .int .i64 0, .int .u64 0, .int .u64 0, .int .i64 0]) ?_ 1 _ rfl; (with_reducible repeat (first | refine blk_drewN ?_ _ | refine blk_drew ?_ | refine blk_alloc ?_ _)); refine blk_put (cs := #[.int .u64 0, .int .i64 0, .int .u64 0, .int .u64 0, .int .i64 0]) ?_ 0 _ rfl; exact blkt BK272) hb); replace HB := belb HB hb; (try clear hb); (try clear hb2); (try clear hk); (try clear hi); have hcz72_0 : w71.cell? ⟨gb272, 0, none⟩ = some (.int .u64 a0_0) := bc BK272 0; have hcz72_1 : w71.cell? ⟨gb272, 1, none⟩ = some (.int .i64 t268) := bc BK272 1; have hcz72_2 : w71.cell? ⟨gb272, 2, none⟩ = some (.int .u64 t269) := bc BK272 2; have hcz72_3 : w71.cell? ⟨gb272, 3, none⟩ = some (.int .u64 (IntKind.u64.wrap (a0_3 - (IntKind.u64.wrap (a1_2))))) := bc BK272 3; have hcz72_4 : w71.cell? ⟨gb272, 4, none⟩ = some (.int .i64 (wrap64 (a0_4 - 1))) := bc BK272 4; have hfz72_0 := blk_frozen BK272.out 0; have hfz72_1 := blk_frozen BK272.out 1; have hfz72_2 := blk_frozen BK272.out 2; have hfz72_3 := blk_frozen BK272.out 3; have hfz72_4 := blk_frozen BK272.out 4; have hcz73_0 : w71.cell? ⟨gb263, 0, none⟩ = some (.int .u64 0) := bc BK263 0; have hcz73_1 : w71.cell? ⟨gb263, 1, none⟩ = some (.int .i64 0) := bc BK263 1; have hcz73_2 : w71.cell? ⟨gb263, 2, none⟩ = some (.int .u64 0) := bc BK263 2; have hcz73_3 : w71.cell? ⟨gb263, 3, none⟩ = some (.int .u64 0) := bc BK263 3; have hcz73_4 : w71.cell? ⟨gb263, 4, none⟩ = some (.int .i64 0) := bc BK263 4; have hfz73_0 := blk_frozen BK263.out 0; have hfz73_1 := blk_frozen BK263.out 1; have hfz73_2 := blk_frozen BK263.out 2; have hfz73_3 := blk_frozen BK263.out 3; have hfz73_4 := blk_frozen BK263.out 4))
     refine bodyPost_ret (results_ct rfl _ _ gb263 33 #[.int .u64 a0_0, .int .i64 t268, .int .u64 t269, .int .u64 (IntKind.u64.wrap (a0_3 - (IntKind.u64.wrap (a1_2)))), .int .i64 (wrap64 (a0_4 - 1))] (0, 0) _ rfl (by (with_reducible repeat (first | refine blk_drewN ?_ _ | refine blk_drew ?_ | refine blk_alloc ?_ _)); refine blk_put (cs := #[.int .u64 a0_0, .int .i64 t268, .int .u64 t269, .int .u64 (IntKind.u64.wrap (a0_3 - (IntKind.u64.wrap (a1_2)))), .int .i64 0]) ?_ 4 _ rfl; (with_reducible repeat (first | refine blk_drewN ?_ _ | refine blk_drew ?_ | refine blk_alloc ?_ _)); refine blk_put (cs := #[.int .u64 a0_0, .int .i64 t268, .int .u64 t269, .int .u64 0, .int .i64 0]) ?_ 3 _ rfl; (with_reducible repeat (first | refine blk_drewN ?_ _ | refine blk_drew ?_ | refine blk_alloc ?_ _)); refine blk_put (cs := #[.int .u64 a0_0, .int .i64 t268, .int .u64 0, .int .u64 0, .int .i64 0]) ?_ 2 _ rfl; (with_reducible repeat (first | refine blk_drewN ?_ _ | refine blk_drew ?_ | refine blk_alloc ?_ _)); refine blk_put (cs := #[.int .u64 a0_0, .int .i64 0, .int .u64 0, .int .u64 0, .int .i64 0]) ?_ 1 _ rfl; (with_reducible repeat (first | refine blk_drewN ?_ _ | refine blk_drew ?_ | refine blk_alloc ?_ _)); refine blk_put (cs := #[.int .u64 0, .int .i64 0, .int .u64 0, .int .u64 0, .int .i64 0]) ?_ 0 _ rfl; exact blkt BK263) Tryz.underlying33 rfl (by kernel_rfl)) rfl ?_
     exact ⟨by first | rfl | (simp [errW_none, errW_some] <;> rfl) | (simp [*, errW_none, errW_some] <;> rfl), belt HB⟩
    replace c48 := Bool.eq_false_iff.mpr c48
    subst c48
    have H1 : (some (0, 0, 0, 0, 0, false)) = some (r1, r2, r3, r4, r5, r6) := by rw [if_neg (show ¬ (false = true) by decide)] at H; exact H
    clear H
    have H := H1
    clear H1
    simp only [Option.some.injEq, Prod.mk.injEq] at H
    obtain ⟨rfl, rfl, rfl, rfl, rfl, rfl⟩ := H
    try go_wp2
    replace BK261 := Aside0.mk (blk_drew BK261.out)
    replace BK262 := Aside0.mk (blk_drew BK262.out)
    replace BK263 := Aside0.mk (blk_drew BK263.out)
    replace HB := Aside0.mk (below_drew1 HB.out)
    refine start_ (n := 13) (S := fun w' => w'.cell? ⟨gb261, 0, none⟩ = some (.int .u64 a0_0) ∧ w'.cell? ⟨gb261, 1, none⟩ = some (.int .i64 a0_1) ∧ w'.cell? ⟨gb261, 2, none⟩ = some (.int .u64 a0_2) ∧ w'.cell? ⟨gb261, 3, none⟩ = some (.int .u64 a0_3) ∧ w'.cell? ⟨gb261, 4, none⟩ = some (.int .i64 a0_4) ∧ w'.cell? ⟨gb262, 0, none⟩ = some (.int .u64 a1_0) ∧ w'.cell? ⟨gb262, 1, none⟩ = some (.int .u32 a1_1) ∧ w'.cell? ⟨gb262, 2, none⟩ = some (.int .u32 a1_2)) (ds := []) #[false, false, false, false, false, false, false, false, false, false, false, false, false] (by kernel_rfl) rfl rfl ⟨bc BK261 0, bc BK261 1, bc BK261 2, bc BK261 3, bc BK261 4, bc BK262 0, bc BK262 1, bc BK262 2⟩ (fun hHeld => ?_); refine with_tabW mean_Mean_Take.tab3 mean_Mean_Take.bits3 (fun HT_ HW_ => ?_)
    generalize wc.drew = w74 at BK261 BK262 BK263 HB hHeld ⊢
    refine pure_ (i := 0) (N := some 32) (v := ?_) (a' := ?_) #[true, false, false, false, false, false, false, false, false, false, false, false, false] rfl rfl (any_of HT_.out (by kernel_rfl)) (fun _ _ _ h => h) (Or.inl ⟨by rfl, ?_⟩) ?_ ?_
    rotate_left
    ·intro w'
     go_simp
     with_reducible rfl
    rotate_left
    ·simp only [Act.put, List.setIfInBounds_toArray, List.set_cons_zero, List.set_cons_succ, i64_w, i32_w]
     rfl
    refine pure_ (i := 3) (N := some 35) (v := ?_) (a' := ?_) #[true, false, false, true, false, false, false, false, false, false, false, false, false] rfl rfl (any_of HT_.out (by kernel_rfl)) (fun _ _ _ h => h) (Or.inl ⟨by rfl, ?_⟩) ?_ ?_
    rotate_left
    ·intro w'
     go_simp
     with_reducible rfl
    rotate_left
    ·simp only [Act.put, List.setIfInBounds_toArray, List.set_cons_zero, List.set_cons_succ, i64_w, i32_w]
     rfl
    refine take_ (i := 1) (N := some 33) (v := ?_) (a' := ?_) #[true, true, false, true, false, false, false, false, false, false, false, false, false] rfl rfl (take_ofW HT_.out HW_.out (by kernel_rfl)) (fun _ _ _ h => h) (Or.inl ⟨by rfl, ?_⟩) hHeld ?_ ?_
    rotate_left
    ·rintro w' ⟨s0, s1, s2, s3, s4, s5, s6, s7⟩
     go_simp
     with_reducible rfl
    rotate_left
    ·simp only [Act.put, List.setIfInBounds_toArray, List.set_cons_zero, List.set_cons_succ, i64_w, i32_w]
     rfl
    refine take_ (i := 2) (N := some 34) (v := ?_) (a' := ?_) #[true, true, true, true, false, false, false, false, false, false, false, false, false] rfl rfl (take_ofW HT_.out HW_.out (by kernel_rfl)) (fun _ _ _ h => h) (Or.inl ⟨by rfl, ?_⟩) hHeld ?_ ?_
    rotate_left
    ·rintro w' ⟨s0, s1, s2, s3, s4, s5, s6, s7⟩
     go_simp
     with_reducible rfl
    rotate_left
    ·simp only [Act.put, List.setIfInBounds_toArray, List.set_cons_zero, List.set_cons_succ, i64_w, i32_w]
     rfl
    refine take_ (i := 4) (N := some 36) (v := ?_) (a' := ?_) #[true, true, true, true, true, false, false, false, false, false, false, false, false] rfl rfl (take_ofW HT_.out HW_.out (by kernel_rfl)) (fun _ _ _ h => h) (Or.inl ⟨by rfl, ?_⟩) hHeld ?_ ?_
    rotate_left
    ·rintro w' ⟨s0, s1, s2, s3, s4, s5, s6, s7⟩
     go_simp
     with_reducible rfl
    rotate_left
    ·simp only [Act.put, List.setIfInBounds_toArray, List.set_cons_zero, List.set_cons_succ, i64_w, i32_w]
     rfl
    refine join_ (σ := Nat) 2 #[true, true, true, true, true, true, true, true, true, true, true, false, false] (fun s_ => [(37, .agg #[.int .i64 t266, .int .u64 t267]), (38, .tuple #[.agg #[.int .i64 t268, .int .u64 t269], .bool true]), (6, .pointer (some ⟨s_, 0, none⟩)), (31, .tuple #[.agg #[.int .i64 t268, .int .u64 t269], .bool true]), (39, .agg #[.int .i64 t268, .int .u64 t269]), (40, .bool true)]) (fun s_ w' => (w'.cell? ⟨gb261, 0, none⟩ = some (.int .u64 a0_0) ∧ w'.cell? ⟨gb261, 1, none⟩ = some (.int .i64 a0_1) ∧ w'.cell? ⟨gb261, 2, none⟩ = some (.int .u64 a0_2) ∧ w'.cell? ⟨gb261, 3, none⟩ = some (.int .u64 a0_3) ∧ w'.cell? ⟨gb261, 4, none⟩ = some (.int .i64 a0_4) ∧ w'.cell? ⟨gb262, 0, none⟩ = some (.int .u64 a1_0) ∧ w'.cell? ⟨gb262, 1, none⟩ = some (.int .u32 a1_1) ∧ w'.cell? ⟨gb262, 2, none⟩ = some (.int .u32 a1_2)) ∧ (w'.heap[gb261]? = some (.cells #[.int .u64 a0_0, .int .i64 a0_1, .int .u64 a0_2, .int .u64 a0_3, .int .i64 a0_4] 33 (0, 0))) ∧ (w'.heap[gb262]? = some (.cells #[.int .u64 a1_0, .int .u32 a1_1, .int .u32 a1_2] 28 (0, 0))) ∧ (w'.heap[gb263]? = some (.cells #[.int .u64 0, .int .i64 0, .int .u64 0, .int .u64 0, .int .i64 0] 33 (0, 0))) ∧ (w'.heap[s_]? = some (.cells #[.int .i64 0, .int .u64 0] 31 (0, 0))) ∧ (w.heap.size ≤ s_) ∧ (w.heap.size ≤ s_) ∧ (gb261 ≠ s_) ∧ (s_ ≠ gb261) ∧ (gb262 ≠ s_) ∧ (s_ ≠ gb262) ∧ (gb263 ≠ s_) ∧ (s_ ≠ gb263) ∧ (Below w.heap.size w w')) ?_ ?_
    rotate_left
    ·intro hCont
     refine two_ (i := 5) (j := 10) (Ni := some 37) (Nj := some 6) #[true, true, true, true, true, true, false, false, false, false, false, false, false] #[true, true, true, true, true, false, false, false, false, false, true, false, false] rfl rfl rfl rfl (two_of HT_.out (by kernel_rfl)) (by decide) (by decide) (fun K hK => ?_) (fun K hK => ?_)
     ·skip
      refine goes_ Tryz.func59 (by kernel_rfl) rfl #[.agg #[.int .u64 a1_0, .int .u32 a1_1, .int .u32 a1_2], .int .u64 a0_0] (by rfl) rfl rfl argt ?_
      with_reducible refine (pos_Pos_Distance.calls kj2 a1_0 a1_1 a1_2 a0_0 t266 t267 _ A44.out).mono ?_
      rintro e w75 ⟨rfl, hb⟩
      refine ⟨_, rfl, ?_⟩
      replace BK261 := blkb BK261 hb
      replace BK262 := blkb BK262 hb
      replace BK263 := blkb BK263 hb
      replace HB := belb HB hb
      (try clear hb)
      (try clear hb2)
      (try clear hk)
      (try clear hi)
      refine hK.out _ _ ⟨bc BK261 0, bc BK261 1, bc BK261 2, bc BK261 3, bc BK261 4, bc BK262 0, bc BK262 1, bc BK262 2⟩ (fun hHeld => ?_)
      clear hK K
      refine norm_ (a' := ?_) ?_ ?_
      rotate_left
      ·show Act.put _ (some 37) _ = _
       simp only [Act.put, List.setIfInBounds_toArray, List.set_cons_zero, List.set_cons_succ, i64_w, i32_w]
       rfl
      refine two_ (i := 6) (j := 10) (Ni := some 38) (Nj := some 6) #[true, true, true, true, true, true, true, false, false, false, false, false, false] #[true, true, true, true, true, true, false, false, false, false, true, false, false] rfl rfl rfl rfl (two_of HT_.out (by kernel_rfl)) (by decide) (by decide) (fun K hK => ?_) (fun K hK => ?_)
      ·skip
       refine goes_ Tryz.func26 (by kernel_rfl) rfl #[.agg #[.int .i64 a0_1, .int .u64 a0_2], .agg #[.int .i64 t266, .int .u64 t267]] (by rfl) rfl rfl argt ?_
       with_reducible refine (wide_Int_Sub.calls a0_1 a0_2 t266 t267 t268 t269 true _ A45.out).mono ?_
       rintro e w76 ⟨rfl, hb⟩
       refine ⟨_, rfl, ?_⟩
       replace BK261 := blkb BK261 hb
       replace BK262 := blkb BK262 hb
       replace BK263 := blkb BK263 hb
       replace HB := belb HB hb
       (try clear hb)
       (try clear hb2)
       (try clear hk)
       (try clear hi)
       refine hK.out _ _ ⟨bc BK261 0, bc BK261 1, bc BK261 2, bc BK261 3, bc BK261 4, bc BK262 0, bc BK262 1, bc BK262 2⟩ (fun hHeld => ?_)
       clear hK K
       refine norm_ (a' := ?_) ?_ ?_
       rotate_left
       ·show Act.put _ (some 38) _ = _
        simp only [Act.put, List.setIfInBounds_toArray, List.set_cons_zero, List.set_cons_succ, i64_w, i32_w]
        rfl
       refine pure_ (i := 7) (N := some 31) (v := ?_) (a' := ?_) #[true, true, true, true, true, true, true, true, false, false, false, false, false] rfl rfl (any_of HT_.out (by kernel_rfl)) (fun _ _ _ h => h) (Or.inl ⟨by rfl, ?_⟩) ?_ ?_
       rotate_left
       ·intro w'
        go_simp
        with_reducible rfl
       rotate_left
       ·simp only [Act.put, List.setIfInBounds_toArray, List.set_cons_zero, List.set_cons_succ, i64_w, i32_w]
        rfl
       refine pure_ (i := 8) (N := some 39) (v := ?_) (a' := ?_) #[true, true, true, true, true, true, true, true, true, false, false, false, false] rfl rfl (any_of HT_.out (by kernel_rfl)) (fun _ _ _ h => h) (Or.inl ⟨by rfl, ?_⟩) ?_ ?_
       rotate_left
       ·intro w'
        go_simp
        with_reducible rfl
       rotate_left
       ·simp only [Act.put, List.setIfInBounds_toArray, List.set_cons_zero, List.set_cons_succ, i64_w, i32_w]
        rfl
       refine pure_ (i := 9) (N := some 40) (v := ?_) (a' := ?_) #[true, true, true, true, true, true, true, true, true, true, false, false, false] rfl rfl (any_of HT_.out (by kernel_rfl)) (fun _ _ _ h => h) (Or.inl ⟨by rfl, ?_⟩) ?_ ?_
       rotate_left
       ·intro w'
        go_simp
        with_reducible rfl
       rotate_left
       ·simp only [Act.put, List.setIfInBounds_toArray, List.set_cons_zero, List.set_cons_succ, i64_w, i32_w]
        rfl
       refine one_ (i := 10) (N := some 6) #[true, true, true, true, true, true, true, true, true, true, true, false, false] rfl rfl (one_of HT_.out (by kernel_rfl)) (by decide) (fun K hK => ?_)
       refine box_step ?hg (N := 6) ?hd (cs := #[.int .i64 0, .int .u64 0]) (t := 31) ?hr ?_; (case hd => rfl); (case hg => rfl); (case hr => first | (go_simp; done) | (go_simp; rfl))
       intro gb271 hg w77 hbox hb
       have BK271 := Aside0.mk (hbox)
       have GW271 := bels HB hg
       have GE271 := bels HB hg
       have NB261_271 := blkl BK261 hg
       have NB271_261 := blkg BK261 hg
       have NB262_271 := blkl BK262 hg
       have NB271_262 := blkg BK262 hg
       have NB263_271 := blkl BK263 hg
       have NB271_263 := blkg BK263 hg
       replace BK261 := blkb BK261 hb
       replace BK262 := blkb BK262 hb
       replace BK263 := blkb BK263 hb
       replace HB := belb HB hb
       clear hb hbox hg
       refine hK.out _ _ ⟨bc BK261 0, bc BK261 1, bc BK261 2, bc BK261 3, bc BK261 4, bc BK262 0, bc BK262 1, bc BK262 2⟩ (fun hHeld => ?_)
       clear hK K
       refine norm_ (a' := ?_) ?_ ?_
       rotate_left
       ·show Act.put _ (some 6) _ = _
        simp only [Act.put, List.setIfInBounds_toArray, List.set_cons_zero, List.set_cons_succ, i64_w, i32_w]
        rfl
       exact norm_ (by simp only [putAll, Act.put, List.setIfInBounds_toArray, List.set_cons_zero, List.set_cons_succ]) (hCont (gb271) _ ⟨hHeld, (blkt BK261), (blkt BK262), (blkt BK263), (blkt BK271), GW271.out, GE271.out, NB261_271.out, NB271_261.out, NB262_271.out, NB271_262.out, NB263_271.out, NB271_263.out, (belt HB)⟩)
      skip
      refine box_step ?hg (N := 6) ?hd (cs := #[.int .i64 0, .int .u64 0]) (t := 31) ?hr ?_; (case hd => rfl); (case hg => rfl); (case hr => first | (go_simp; done) | (go_simp; rfl))
      intro gb271 hg w76 hbox hb
      have BK271 := Aside0.mk (hbox)
      have GW271 := bels HB hg
      have GE271 := bels HB hg
      have NB261_271 := blkl BK261 hg
      have NB271_261 := blkg BK261 hg
      have NB262_271 := blkl BK262 hg
      have NB271_262 := blkg BK262 hg
      have NB263_271 := blkl BK263 hg
      have NB271_263 := blkg BK263 hg
      replace BK261 := blkb BK261 hb
      replace BK262 := blkb BK262 hb
      replace BK263 := blkb BK263 hb
      replace HB := belb HB hb
      clear hb hbox hg
      refine hK.out _ _ ⟨bc BK261 0, bc BK261 1, bc BK261 2, bc BK261 3, bc BK261 4, bc BK262 0, bc BK262 1, bc BK262 2⟩ (fun hHeld => ?_)
      clear hK K
      refine norm_ (a' := ?_) ?_ ?_
      rotate_left
      ·show Act.put _ (some 6) _ = _
       simp only [Act.put, List.setIfInBounds_toArray, List.set_cons_zero, List.set_cons_succ, i64_w, i32_w]
       rfl
      refine one_ (i := 6) (N := some 38) #[true, true, true, true, true, true, true, false, false, false, true, false, false] rfl rfl (one_of HT_.out (by kernel_rfl)) (by decide) (fun K hK => ?_)
      refine goes_ Tryz.func26 (by kernel_rfl) rfl #[.agg #[.int .i64 a0_1, .int .u64 a0_2], .agg #[.int .i64 t266, .int .u64 t267]] (by rfl) rfl rfl argt ?_
      with_reducible refine (wide_Int_Sub.calls a0_1 a0_2 t266 t267 t268 t269 true _ A45.out).mono ?_
      rintro e w77 ⟨rfl, hb⟩
      refine ⟨_, rfl, ?_⟩
      replace BK261 := blkb BK261 hb
      replace BK262 := blkb BK262 hb
      replace BK263 := blkb BK263 hb
      replace BK271 := blkb BK271 hb
      replace HB := belb HB hb
      (try clear hb)
      (try clear hb2)
      (try clear hk)
      (try clear hi)
      refine hK.out _ _ ⟨bc BK261 0, bc BK261 1, bc BK261 2, bc BK261 3, bc BK261 4, bc BK262 0, bc BK262 1, bc BK262 2⟩ (fun hHeld => ?_)
      clear hK K
      refine norm_ (a' := ?_) ?_ ?_
      rotate_left
      ·show Act.put _ (some 38) _ = _
       simp only [Act.put, List.setIfInBounds_toArray, List.set_cons_zero, List.set_cons_succ, i64_w, i32_w]
       rfl
      refine pure_ (i := 7) (N := some 31) (v := ?_) (a' := ?_) #[true, true, true, true, true, true, true, true, false, false, true, false, false] rfl rfl (any_of HT_.out (by kernel_rfl)) (fun _ _ _ h => h) (Or.inl ⟨by rfl, ?_⟩) ?_ ?_
      rotate_left
      ·intro w'
       go_simp
       with_reducible rfl
      rotate_left
      ·simp only [Act.put, List.setIfInBounds_toArray, List.set_cons_zero, List.set_cons_succ, i64_w, i32_w]
       rfl
      refine pure_ (i := 8) (N := some 39) (v := ?_) (a' := ?_) #[true, true, true, true, true, true, true, true, true, false, true, false, false] rfl rfl (any_of HT_.out (by kernel_rfl)) (fun _ _ _ h => h) (Or.inl ⟨by rfl, ?_⟩) ?_ ?_
      rotate_left
      ·intro w'
       go_simp
       with_reducible rfl
      rotate_left
      ·simp only [Act.put, List.setIfInBounds_toArray, List.set_cons_zero, List.set_cons_succ, i64_w, i32_w]
       rfl
      refine pure_ (i := 9) (N := some 40) (v := ?_) (a' := ?_) #[true, true, true, true, true, true, true, true, true, true, true, false, false] rfl rfl (any_of HT_.out (by kernel_rfl)) (fun _ _ _ h => h) (Or.inl ⟨by rfl, ?_⟩) ?_ ?_
      rotate_left
      ·intro w'
       go_simp
       with_reducible rfl
      rotate_left
      ·simp only [Act.put, List.setIfInBounds_toArray, List.set_cons_zero, List.set_cons_succ, i64_w, i32_w]
       rfl
      exact norm_ (by simp only [putAll, Act.put, List.setIfInBounds_toArray, List.set_cons_zero, List.set_cons_succ]) (hCont (gb271) _ ⟨hHeld, (blkt BK261), (blkt BK262), (blkt BK263), (blkt BK271), GW271.out, GE271.out, NB261_271.out, NB271_261.out, NB262_271.out, NB271_262.out, NB263_271.out, NB271_263.out, (belt HB)⟩)
     skip
     refine box_step ?hg (N := 6) ?hd (cs := #[.int .i64 0, .int .u64 0]) (t := 31) ?hr ?_; (case hd => rfl); (case hg => rfl); (case hr => first | (go_simp; done) | (go_simp; rfl))
     intro gb271 hg w75 hbox hb
     have BK271 := Aside0.mk (hbox)
     have GW271 := bels HB hg
     have GE271 := bels HB hg
     have NB261_271 := blkl BK261 hg
     have NB271_261 := blkg BK261 hg
     have NB262_271 := blkl BK262 hg
     have NB271_262 := blkg BK262 hg
     have NB263_271 := blkl BK263 hg
     have NB271_263 := blkg BK263 hg
     replace BK261 := blkb BK261 hb
     replace BK262 := blkb BK262 hb
     replace BK263 := blkb BK263 hb
     replace HB := belb HB hb
     clear hb hbox hg
     refine hK.out _ _ ⟨bc BK261 0, bc BK261 1, bc BK261 2, bc BK261 3, bc BK261 4, bc BK262 0, bc BK262 1, bc BK262 2⟩ (fun hHeld => ?_)
     clear hK K
     refine norm_ (a' := ?_) ?_ ?_
     rotate_left
     ·show Act.put _ (some 6) _ = _
      simp only [Act.put, List.setIfInBounds_toArray, List.set_cons_zero, List.set_cons_succ, i64_w, i32_w]
      rfl
     refine one_ (i := 5) (N := some 37) #[true, true, true, true, true, true, false, false, false, false, true, false, false] rfl rfl (one_of HT_.out (by kernel_rfl)) (by decide) (fun K hK => ?_)
     refine goes_ Tryz.func59 (by kernel_rfl) rfl #[.agg #[.int .u64 a1_0, .int .u32 a1_1, .int .u32 a1_2], .int .u64 a0_0] (by rfl) rfl rfl argt ?_
     with_reducible refine (pos_Pos_Distance.calls kj2 a1_0 a1_1 a1_2 a0_0 t266 t267 _ A44.out).mono ?_
     rintro e w76 ⟨rfl, hb⟩
     refine ⟨_, rfl, ?_⟩
     replace BK261 := blkb BK261 hb
     replace BK262 := blkb BK262 hb
     replace BK263 := blkb BK263 hb
     replace BK271 := blkb BK271 hb
     replace HB := belb HB hb
     (try clear hb)
     (try clear hb2)
     (try clear hk)
     (try clear hi)
     refine hK.out _ _ ⟨bc BK261 0, bc BK261 1, bc BK261 2, bc BK261 3, bc BK261 4, bc BK262 0, bc BK262 1, bc BK262 2⟩ (fun hHeld => ?_)
     clear hK K
     refine norm_ (a' := ?_) ?_ ?_
     rotate_left
     ·show Act.put _ (some 37) _ = _
      simp only [Act.put, List.setIfInBounds_toArray, List.set_cons_zero, List.set_cons_succ, i64_w, i32_w]
      rfl
     refine one_ (i := 6) (N := some 38) #[true, true, true, true, true, true, true, false, false, false, true, false, false] rfl rfl (one_of HT_.out (by kernel_rfl)) (by decide) (fun K hK => ?_)
     refine goes_ Tryz.func26 (by kernel_rfl) rfl #[.agg #[.int .i64 a0_1, .int .u64 a0_2], .agg #[.int .i64 t266, .int .u64 t267]] (by rfl) rfl rfl argt ?_
     with_reducible refine (wide_Int_Sub.calls a0_1 a0_2 t266 t267 t268 t269 true _ A45.out).mono ?_
     rintro e w77 ⟨rfl, hb⟩
     refine ⟨_, rfl, ?_⟩
     replace BK261 := blkb BK261 hb
     replace BK262 := blkb BK262 hb
     replace BK263 := blkb BK263 hb
     replace BK271 := blkb BK271 hb
     replace HB := belb HB hb
     (try clear hb)
     (try clear hb2)
     (try clear hk)
     (try clear hi)
     refine hK.out _ _ ⟨bc BK261 0, bc BK261 1, bc BK261 2, bc BK261 3, bc BK261 4, bc BK262 0, bc BK262 1, bc BK262 2⟩ (fun hHeld => ?_)
     clear hK K
     refine norm_ (a' := ?_) ?_ ?_
     rotate_left
     ·show Act.put _ (some 38) _ = _
      simp only [Act.put, List.setIfInBounds_toArray, List.set_cons_zero, List.set_cons_succ, i64_w, i32_w]
      rfl
     refine pure_ (i := 7) (N := some 31) (v := ?_) (a' := ?_) #[true, true, true, true, true, true, true, true, false, false, true, false, false] rfl rfl (any_of HT_.out (by kernel_rfl)) (fun _ _ _ h => h) (Or.inl ⟨by rfl, ?_⟩) ?_ ?_
     rotate_left
     ·intro w'
      go_simp
      with_reducible rfl
     rotate_left
     ·simp only [Act.put, List.setIfInBounds_toArray, List.set_cons_zero, List.set_cons_succ, i64_w, i32_w]
      rfl
     refine pure_ (i := 8) (N := some 39) (v := ?_) (a' := ?_) #[true, true, true, true, true, true, true, true, true, false, true, false, false] rfl rfl (any_of HT_.out (by kernel_rfl)) (fun _ _ _ h => h) (Or.inl ⟨by rfl, ?_⟩) ?_ ?_
     rotate_left
     ·intro w'
      go_simp
      with_reducible rfl
     rotate_left
     ·simp only [Act.put, List.setIfInBounds_toArray, List.set_cons_zero, List.set_cons_succ, i64_w, i32_w]
      rfl
     refine pure_ (i := 9) (N := some 40) (v := ?_) (a' := ?_) #[true, true, true, true, true, true, true, true, true, true, true, false, false] rfl rfl (any_of HT_.out (by kernel_rfl)) (fun _ _ _ h => h) (Or.inl ⟨by rfl, ?_⟩) ?_ ?_
     rotate_left
     ·intro w'
      go_simp
      with_reducible rfl
     rotate_left
     ·simp only [Act.put, List.setIfInBounds_toArray, List.set_cons_zero, List.set_cons_succ, i64_w, i32_w]
      rfl
     exact norm_ (by simp only [putAll, Act.put, List.setIfInBounds_toArray, List.set_cons_zero, List.set_cons_succ]) (hCont (gb271) _ ⟨hHeld, (blkt BK261), (blkt BK262), (blkt BK263), (blkt BK271), GW271.out, GE271.out, NB261_271.out, NB271_261.out, NB262_271.out, NB271_262.out, NB263_271.out, NB271_263.out, (belt HB)⟩)
    rintro gb271 w78 ⟨hS_, h0_, h1_, h2_, h3_, h4_, h5_, h6_, h7_, h8_, h9_, h10_, h11_, h12_⟩
    replace BK261 : Aside0 (w78.heap[gb261]? = some (.cells #[.int .u64 a0_0, .int .i64 a0_1, .int .u64 a0_2, .int .u64 a0_3, .int .i64 a0_4] 33 (0, 0))) := ⟨h0_⟩
    replace BK262 : Aside0 (w78.heap[gb262]? = some (.cells #[.int .u64 a1_0, .int .u32 a1_1, .int .u32 a1_2] 28 (0, 0))) := ⟨h1_⟩
    replace BK263 : Aside0 (w78.heap[gb263]? = some (.cells #[.int .u64 0, .int .i64 0, .int .u64 0, .int .u64 0, .int .i64 0] 33 (0, 0))) := ⟨h2_⟩
    have BK271 : Aside0 (w78.heap[gb271]? = some (.cells #[.int .i64 0, .int .u64 0] 31 (0, 0))) := ⟨h3_⟩
    have GW271 : Aside0 (w.heap.size ≤ gb271) := ⟨h4_⟩
    have GE271 : Aside0 (w.heap.size ≤ gb271) := ⟨h5_⟩
    have NB261_271 : Aside0 (gb261 ≠ gb271) := ⟨h6_⟩
    have NB271_261 : Aside0 (gb271 ≠ gb261) := ⟨h7_⟩
    have NB262_271 : Aside0 (gb262 ≠ gb271) := ⟨h8_⟩
    have NB271_262 : Aside0 (gb271 ≠ gb262) := ⟨h9_⟩
    have NB263_271 : Aside0 (gb263 ≠ gb271) := ⟨h10_⟩
    have NB271_263 : Aside0 (gb271 ≠ gb263) := ⟨h11_⟩
    replace HB : Aside0 (Below w.heap.size w w78) := ⟨h12_⟩
    clear h0_ h1_ h2_ h3_ h4_ h5_ h6_ h7_ h8_ h9_ h10_ h11_ h12_
    have hHeld : w78.cell? ⟨gb261, 0, none⟩ = some (.int .u64 a0_0) ∧ w78.cell? ⟨gb261, 1, none⟩ = some (.int .i64 a0_1) ∧ w78.cell? ⟨gb261, 2, none⟩ = some (.int .u64 a0_2) ∧ w78.cell? ⟨gb261, 3, none⟩ = some (.int .u64 a0_3) ∧ w78.cell? ⟨gb261, 4, none⟩ = some (.int .i64 a0_4) ∧ w78.cell? ⟨gb262, 0, none⟩ = some (.int .u64 a1_0) ∧ w78.cell? ⟨gb262, 1, none⟩ = some (.int .u32 a1_1) ∧ w78.cell? ⟨gb262, 2, none⟩ = some (.int .u32 a1_2) := hS_
    refine norm_ (a' := ?_) ?_ ?_
    rotate_left
    ·simp only [putAll, Act.put, List.setIfInBounds_toArray, List.set_cons_zero, List.set_cons_succ]
     rfl
    refine one_ (i := 11) (N := none) #[true, true, true, true, true, true, true, true, true, true, true, true, false] rfl rfl (one_of HT_.out (by kernel_rfl)) (by decide) (fun K hK => ?_)
    have hs79 : w78.cell? ⟨gb271, 0, none⟩ = some (.int .i64 0) := bc BK271 0
    have hfs79 := blk_frozen BK271.out 0
    have hns79_0 := NB261_271.out
    have hns79_1 := NB262_271.out
    have hns79_2 := NB263_271.out
    have hms79_0 := NB271_261.out
    have hms79_1 := NB271_262.out
    have hms79_2 := NB271_263.out
    have hs80 : w78.cell? ⟨gb271, 1, none⟩ = some (.int .u64 0) := bc BK271 1
    have hfs80 := blk_frozen BK271.out 1
    have hns80_0 := NB261_271.out
    have hns80_1 := NB262_271.out
    have hns80_2 := NB263_271.out
    have hms80_0 := NB271_261.out
    have hms80_1 := NB271_262.out
    have hms80_2 := NB271_263.out
    refine skip_ (w1 := ?_) (by rfl) rfl ?_ ?_
    rotate_left
    ·go_simp
     rfl
    refine hK.out _ _ ⟨((cell_far (p := ⟨gb271, _, none⟩) NB261_271.out _).trans (((cell_far (p := ⟨gb271, _, none⟩) NB261_271.out _).trans (hHeld.1)))), ((cell_far (p := ⟨gb271, _, none⟩) NB261_271.out _).trans (((cell_far (p := ⟨gb271, _, none⟩) NB261_271.out _).trans (hHeld.2.1)))), ((cell_far (p := ⟨gb271, _, none⟩) NB261_271.out _).trans (((cell_far (p := ⟨gb271, _, none⟩) NB261_271.out _).trans (hHeld.2.2.1)))), ((cell_far (p := ⟨gb271, _, none⟩) NB261_271.out _).trans (((cell_far (p := ⟨gb271, _, none⟩) NB261_271.out _).trans (hHeld.2.2.2.1)))), ((cell_far (p := ⟨gb271, _, none⟩) NB261_271.out _).trans (((cell_far (p := ⟨gb271, _, none⟩) NB261_271.out _).trans (hHeld.2.2.2.2.1)))), ((cell_far (p := ⟨gb271, _, none⟩) NB262_271.out _).trans (((cell_far (p := ⟨gb271, _, none⟩) NB262_271.out _).trans (hHeld.2.2.2.2.2.1)))), ((cell_far (p := ⟨gb271, _, none⟩) NB262_271.out _).trans (((cell_far (p := ⟨gb271, _, none⟩) NB262_271.out _).trans (hHeld.2.2.2.2.2.2.1)))), ((cell_far (p := ⟨gb271, _, none⟩) NB262_271.out _).trans (((cell_far (p := ⟨gb271, _, none⟩) NB262_271.out _).trans (hHeld.2.2.2.2.2.2.2))))⟩ (fun hHeld => ?_)
    clear hK K
    refine pure_ (i := 12) (N := some 7) (v := ?_) (a' := ?_) #[true, true, true, true, true, true, true, true, true, true, true, true, true] rfl rfl (any_of HT_.out (by kernel_rfl)) (fun _ _ _ h => h) (Or.inl ⟨by rfl, ?_⟩) ?_ ?_
    rotate_left
    ·intro w'
     go_simp
     with_reducible rfl
    rotate_left
    ·simp only [Act.put, List.setIfInBounds_toArray, List.set_cons_zero, List.set_cons_succ, i64_w, i32_w]
     rfl
    refine done_ (done_of HT_.out (by kernel_rfl)) ?_
    have hnb81 := NB261_262.out
    have hnc81 := NB262_261.out
    have hnb82 := NB261_263.out
    have hnc82 := NB263_261.out
    have hnb83 := NB261_271.out
    have hnc83 := NB271_261.out
    have hcz84_0 : w78.cell? ⟨gb261, 0, none⟩ = some (.int .u64 a0_0) := bc BK261 0
    have hcz84_1 : w78.cell? ⟨gb261, 1, none⟩ = some (.int .i64 a0_1) := bc BK261 1
    have hcz84_2 : w78.cell? ⟨gb261, 2, none⟩ = some (.int .u64 a0_2) := bc BK261 2
    have hcz84_3 : w78.cell? ⟨gb261, 3, none⟩ = some (.int .u64 a0_3) := bc BK261 3
    have hcz84_4 : w78.cell? ⟨gb261, 4, none⟩ = some (.int .i64 a0_4) := bc BK261 4
    have hfz84_0 := blk_frozen BK261.out 0
    have hfz84_1 := blk_frozen BK261.out 1
    have hfz84_2 := blk_frozen BK261.out 2
    have hfz84_3 := blk_frozen BK261.out 3
    have hfz84_4 := blk_frozen BK261.out 4
    have hnb85 := NB271_262.out
    have hnc85 := NB262_271.out
    have hnb86 := NB271_263.out
    have hnc86 := NB263_271.out
    have hcz87_0 : w78.cell? ⟨gb271, 0, none⟩ = some (.int .i64 0) := bc BK271 0
    have hcz87_1 : w78.cell? ⟨gb271, 1, none⟩ = some (.int .u64 0) := bc BK271 1
    have hfz87_0 := blk_frozen BK271.out 0
    have hfz87_1 := blk_frozen BK271.out 1
    have hnb88 := NB262_263.out
    have hnc88 := NB263_262.out
    have hcz89_0 : w78.cell? ⟨gb262, 0, none⟩ = some (.int .u64 a1_0) := bc BK262 0
    have hcz89_1 : w78.cell? ⟨gb262, 1, none⟩ = some (.int .u32 a1_1) := bc BK262 1
    have hcz89_2 : w78.cell? ⟨gb262, 2, none⟩ = some (.int .u32 a1_2) := bc BK262 2
    have hfz89_0 := blk_frozen BK262.out 0
    have hfz89_1 := blk_frozen BK262.out 1
    have hfz89_2 := blk_frozen BK262.out 2
    try go_wp2_with (first | ((with_reducible refine gate_dst (N := 8) rfl ?_); refine box_event ?hg (N := 8) ?hd (cs := #[.int .u64 0, .int .i64 0, .int .u64 0, .int .u64 0, .int .i64 0]) (t := 33) ?hr ?_; (case hd => rfl); (case hg => rfl); (case hr => first | (go_simp; done) | (go_simp; rfl)); intro gb272 hg w90 hbox hb; have BK272 := Aside0.mk (hbox); have GW272 := bels HB hg; have GE272 := bels HB hg; have NB261_272 := Aside0.mk ((by rw [hg]; exact Nat.ne_of_lt (blk_lt (g := gb261) (o := .cells #[.int .u64 a0_0, .int .i64 a0_1, .int .u64 a0_2, .int .u64 a0_3, .int .i64 a0_4] 33 (0, 0)) (by (with_reducible repeat (first | refine blk_drewN ?_ _ | refine blk_drew ?_ | refine blk_alloc ?_ _)); refine blk_far ?_ NB261_271.out _; (with_reducible repeat (first | refine blk_drewN ?_ _ | refine blk_drew ?_ | refine blk_alloc ?_ _)); refine blk_far ?_ NB261_271.out _; exact blkt BK261)) : gb261 ≠ gb272)); have NB272_261 := Aside0.mk ((by rw [hg]; exact Nat.ne_of_gt (blk_lt (g := gb261) (o := .cells #[.int .u64 a0_0, .int .i64 a0_1, .int .u64 a0_2, .int .u64 a0_3, .int .i64 a0_4] 33 (0, 0)) (by (with_reducible repeat (first | refine blk_drewN ?_ _ | refine blk_drew ?_ | refine blk_alloc ?_ _)); refine blk_far ?_ NB261_271.out _; (with_reducible repeat (first | refine blk_drewN ?_ _ | refine blk_drew ?_ | refine blk_alloc ?_ _)); refine blk_far ?_ NB261_271.out _; exact blkt BK261)) : gb272 ≠ gb261)); have NB262_272 := Aside0.mk ((by rw [hg]; exact Nat.ne_of_lt (blk_lt (g := gb262) (o := .cells #[.int .u64 a1_0, .int .u32 a1_1, .int .u32 a1_2] 28 (0, 0)) (by (with_reducible repeat (first | refine blk_drewN ?_ _ | refine blk_drew ?_ | refine blk_alloc ?_ _)); refine blk_far ?_ NB262_271.out _; (with_reducible repeat (first | refine blk_drewN ?_ _ | refine blk_drew ?_ | refine blk_alloc ?_ _)); refine blk_far ?_ NB262_271.out _; exact blkt BK262)) : gb262 ≠ gb272)); have NB272_262 := Aside0.mk ((by rw [hg]; exact Nat.ne_of_gt (blk_lt (g := gb262) (o := .cells #[.int .u64 a1_0, .int .u32 a1_1, .int .u32 a1_2] 28 (0, 0)) (by (with_reducible repeat (first | refine blk_drewN ?_ _ | refine blk_drew ?_ | refine blk_alloc ?_ _)); refine blk_far ?_ NB262_271.out _; (with_reducible repeat (first | refine blk_drewN ?_ _ | refine blk_drew ?_ | refine blk_alloc ?_ _)); refine blk_far ?_ NB262_271.out _; exact blkt BK262)) : gb272 ≠ gb262)); have NB263_272 := Aside0.mk ((by rw [hg]; exact Nat.ne_of_lt (blk_lt (g := gb263) (o := .cells #[.int .u64 0, .int .i64 0, .int .u64 0, .int .u64 0, .int .i64 0] 33 (0, 0)) (by (with_reducible repeat (first | refine blk_drewN ?_ _ | refine blk_drew ?_ | refine blk_alloc ?_ _)); refine blk_far ?_ NB263_271.out _; (with_reducible repeat (first | refine blk_drewN ?_ _ | refine blk_drew ?_ | refine blk_alloc ?_ _)); refine blk_far ?_ NB263_271.out _; exact blkt BK263)) : gb263 ≠ gb272)); have NB272_263 := Aside0.mk ((by rw [hg]; exact Nat.ne_of_gt (blk_lt (g := gb263) (o := .cells #[.int .u64 0, .int .i64 0, .int .u64 0, .int .u64 0, .int .i64 0] 33 (0, 0)) (by (with_reducible repeat (first | refine blk_drewN ?_ _ | refine blk_drew ?_ | refine blk_alloc ?_ _)); refine blk_far ?_ NB263_271.out _; (with_reducible repeat (first | refine blk_drewN ?_ _ | refine blk_drew ?_ | refine blk_alloc ?_ _)); refine blk_far ?_ NB263_271.out _; exact blkt BK263)) : gb272 ≠ gb263)); have NB271_272 := Aside0.mk ((by rw [hg]; exact Nat.ne_of_lt (blk_lt (g := gb271) (o := .cells #[.int .i64 t268, .int .u64 t269] 31 (0, 0)) (by (with_reducible repeat (first | refine blk_drewN ?_ _ | refine blk_drew ?_ | refine blk_alloc ?_ _)); refine blk_put (cs := #[.int .i64 t268, .int .u64 0]) ?_ 1 _ rfl; (with_reducible repeat (first | refine blk_drewN ?_ _ | refine blk_drew ?_ | refine blk_alloc ?_ _)); refine blk_put (cs := #[.int .i64 0, .int .u64 0]) ?_ 0 _ rfl; exact blkt BK271)) : gb271 ≠ gb272)); have NB272_271 := Aside0.mk ((by rw [hg]; exact Nat.ne_of_gt (blk_lt (g := gb271) (o := .cells #[.int .i64 t268, .int .u64 t269] 31 (0, 0)) (by (with_reducible repeat (first | refine blk_drewN ?_ _ | refine blk_drew ?_ | refine blk_alloc ?_ _)); refine blk_put (cs := #[.int .i64 t268, .int .u64 0]) ?_ 1 _ rfl; (with_reducible repeat (first | refine blk_drewN ?_ _ | refine blk_drew ?_ | refine blk_alloc ?_ _)); refine blk_put (cs := #[.int .i64 0, .int .u64 0]) ?_ 0 _ rfl; exact blkt BK271)) : gb272 ≠ gb271)); replace BK261 := Aside0.mk (blk_below (g := gb261) (o := .cells #[.int .u64 a0_0, .int .i64 a0_1, .int .u64 a0_2, .int .u64 a0_3, .int .i64 a0_4] 33 (0, 0)) (by (with_reducible repeat (first | refine blk_drewN ?_ _ | refine blk_drew ?_ | refine blk_alloc ?_ _)); refine blk_far ?_ NB261_271.out _; (with_reducible repeat (first | refine blk_drewN ?_ _ | refine blk_drew ?_ | refine blk_alloc ?_ _)); refine blk_far ?_ NB261_271.out _; exact blkt BK261) hb); replace BK262 := Aside0.mk (blk_below (g := gb262) (o := .cells #[.int .u64 a1_0, .int .u32 a1_1, .int .u32 a1_2] 28 (0, 0)) (by (with_reducible repeat (first | refine blk_drewN ?_ _ | refine blk_drew ?_ | refine blk_alloc ?_ _)); refine blk_far ?_ NB262_271.out _; (with_reducible repeat (first | refine blk_drewN ?_ _ | refine blk_drew ?_ | refine blk_alloc ?_ _)); refine blk_far ?_ NB262_271.out _; exact blkt BK262) hb); replace BK263 := Aside0.mk (blk_below (g := gb263) (o := .cells #[.int .u64 0, .int .i64 0, .int .u64 0, .int .u64 0, .int .i64 0] 33 (0, 0)) (by (with_reducible repeat (first | refine blk_drewN ?_ _ | refine blk_drew ?_ | refine blk_alloc ?_ _)); refine blk_far ?_ NB263_271.out _; (with_reducible repeat (first | refine blk_drewN ?_ _ | refine blk_drew ?_ | refine blk_alloc ?_ _)); refine blk_far ?_ NB263_271.out _; exact blkt BK263) hb); replace BK271 := Aside0.mk (blk_below (g := gb271) (o := .cells #[.int .i64 t268, .int .u64 t269] 31 (0, 0)) (by (with_reducible repeat (first | refine blk_drewN ?_ _ | refine blk_drew ?_ | refine blk_alloc ?_ _)); refine blk_put (cs := #[.int .i64 t268, .int .u64 0]) ?_ 1 _ rfl; (with_reducible repeat (first | refine blk_drewN ?_ _ | refine blk_drew ?_ | refine blk_alloc ?_ _)); refine blk_put (cs := #[.int .i64 0, .int .u64 0]) ?_ 0 _ rfl; exact blkt BK271) hb); replace HB := belb HB hb; clear hb hbox hg; have hnb91 := NB272_261.out; have hnc91 := NB261_272.out; have hnb92 := NB272_262.out; have hnc92 := NB262_272.out; have hnb93 := NB272_263.out; have hnc93 := NB263_272.out; have hnb94 := NB272_271.out; have hnc94 := NB271_272.out; have hcz95_0 : w90.cell? ⟨gb272, 0, none⟩ = some (.int .u64 0) := bc BK272 0; have hcz95_1 : w90.cell? ⟨gb272, 1, none⟩ = some (.int .i64 0) := bc BK272 1; have hcz95_2 : w90.cell? ⟨gb272, 2, none⟩ = some (.int .u64 0) := bc BK272 2; have hcz95_3 : w90.cell? ⟨gb272, 3, none⟩ = some (.int .u64 0) := bc BK272 3; have hcz95_4 : w90.cell? ⟨gb272, 4, none⟩ = some (.int .i64 0) := bc BK272 4; have hfz95_0 := blk_frozen BK272.out 0; have hfz95_1 := blk_frozen BK272.out 1; have hfz95_2 := blk_frozen BK272.out 2; have hfz95_3 := blk_frozen BK272.out 3; have hfz95_4 := blk_frozen BK272.out 4) | (go_at_call 52; (with_reducible refine (mean_Mean_Right.calls a0_0 t268 t269 (IntKind.u64.wrap (a0_3 - (IntKind.u64.wrap (a1_2)))) (wrap64 (a0_4 - 1)) false _ A47.out).mono ?_); rintro e w96 ⟨rfl, hb⟩; replace BK261 := Aside0.mk (blk_below (g := gb261) (o := .cells #[.int .u64 a0_0, .int .i64 a0_1, .int .u64 a0_2, .int .u64 a0_3, .int .i64 a0_4] 33 (0, 0)) (by (with_reducible repeat (first | refine blk_drewN ?_ _ | refine blk_drew ?_ | refine blk_alloc ?_ _)); refine blk_far ?_ NB261_272.out _; (with_reducible repeat (first | refine blk_drewN ?_ _ | refine blk_drew ?_ | refine blk_alloc ?_ _)); refine blk_far ?_ NB261_272.out _; (with_reducible repeat (first | refine blk_drewN ?_ _ | refine blk_drew ?_ | refine blk_alloc ?_ _)); refine blk_far ?_ NB261_272.out _; (with_reducible repeat (first | refine blk_drewN ?_ _ | refine blk_drew ?_ | refine blk_alloc ?_ _)); refine blk_far ?_ NB261_272.out _; (with_reducible repeat (first | refine blk_drewN ?_ _ | refine blk_drew ?_ | refine blk_alloc ?_ _)); refine blk_far ?_ NB261_272.out _; exact blkt BK261) hb); replace BK262 := Aside0.mk (blk_below (g := gb262) (o := .cells #[.int .u64 a1_0, .int .u32 a1_1, .int .u32 a1_2] 28 (0, 0)) (by (with_reducible repeat (first | refine blk_drewN ?_ _ | refine blk_drew ?_ | refine blk_alloc ?_ _)); refine blk_far ?_ NB262_272.out _; (with_reducible repeat (first | refine blk_drewN ?_ _ | refine blk_drew ?_ | refine blk_alloc ?_ _)); refine blk_far ?_ NB262_272.out _; (with_reducible repeat (first | refine blk_drewN ?_ _ | refine blk_drew ?_ | refine blk_alloc ?_ _)); refine blk_far ?_ NB262_272.out _; (with_reducible repeat (first | refine blk_drewN ?_ _ | refine blk_drew ?_ | refine blk_alloc ?_ _)); refine blk_far ?_ NB262_272.out _; (with_reducible repeat (first | refine blk_drewN ?_ _ | refine blk_drew ?_ | refine blk_alloc ?_ _)); refine blk_far ?_ NB262_272.out _; exact blkt BK262) hb); replace BK263 := Aside0.mk (blk_below (g := gb263) (o := .cells #[.int .u64 0, .int .i64 0, .int .u64 0, .int .u64 0, .int .i64 0] 33 (0, 0)) (by (with_reducible repeat (first | refine blk_drewN ?_ _ | refine blk_drew ?_ | refine blk_alloc ?_ _)); refine blk_far ?_ NB263_272.out _; (with_reducible repeat (first | refine blk_drewN ?_ _ | refine blk_drew ?_ | refine blk_alloc ?_ _)); refine blk_far ?_ NB263_272.out _; (with_reducible repeat (first | refine blk_drewN ?_ _ | refine blk_drew ?_ | refine blk_alloc ?_ _)); refine blk_far ?_ NB263_272.out _; (with_reducible repeat (first | refine blk_drewN ?_ _ | refine blk_drew ?_ | refine blk_alloc ?_ _)); refine blk_far ?_ NB263_272.out _; (with_reducible repeat (first | refine blk_drewN ?_ _ | refine blk_drew ?_ | refine blk_alloc ?_ _)); refine blk_far ?_ NB263_272.out _; exact blkt BK263) hb); replace BK271 := Aside0.mk (blk_below (g := gb271) (o := .cells #[.int .i64 t268, .int .u64 t269] 31 (0, 0)) (by (with_reducible repeat (first | refine blk_drewN ?_ _ | refine blk_drew ?_ | refine blk_alloc ?_ _)); refine blk_far ?_ NB271_272.out _; (with_reducible repeat (first | refine blk_drewN ?_ _ | refine blk_drew ?_ | refine blk_alloc ?_ _)); refine blk_far ?_ NB271_272.out _; (with_reducible repeat (first | refine blk_drewN ?_ _ | refine blk_drew ?_ | refine blk_alloc ?_ _)); refine blk_far ?_ NB271_272.out _; (with_reducible repeat (first | refine blk_drewN ?_ _ | refine blk_drew ?_ | refine blk_alloc ?_ _)); refine blk_far ?_ NB271_272.out _; (with_reducible repeat (first | refine blk_drewN ?_ _ | refine blk_drew ?_ | refine blk_alloc ?_ _)); refine blk_far ?_ NB271_272.out _; exact blkt BK271) hb); replace BK272 := Aside0.mk (blk_below (g := gb272) (o := .cells #[.int .u64 a0_0, .int .i64 t268, .int .u64 t269, .int .u64 (IntKind.u64.wrap (a0_3 - (IntKind.u64.wrap (a1_2)))), .int .i64 (wrap64 (a0_4 - 1))] 33 (0, 0)) (by (with_reducible repeat (first | refine blk_drewN ?_ _ | refine blk_drew ?_ | refine blk_alloc ?_ _)); refine blk_put (cs := #[.int .u64 a0_0, .int .i64 t268, .int .u64 t269, .int .u64 (IntKind.u64.wrap (a0_3 - (IntKind.u64.wrap (a1_2)))), .int .i64 0]) ?_ 4 _ rfl; (with_reducible repeat (first | refine blk_drewN ?_ _ | refine blk_drew ?_ | refine blk_alloc ?_ _)); refine blk_put (cs := #[.int .u64 a0_0, .int .i64 t268, .int .u64 t269, .int .u64 0, .int .i64 0]) ?_ 3 _ rfl; (with_reducible repeat (first | refine blk_drewN ?_ _ | refine blk_drew ?_ | refine blk_alloc ?_ _)); refine blk_put (cs := #[.int .u64 a0_0, .int .i64 t268, .int .u64 0, .int .u64 0, .int .i64 0]) ?_ 2 _ rfl; (with_reducible repeat (first | refine blk_drewN ?_ _ | refine blk_drew ?_ | refine blk_alloc ?_ _)); refine blk_put (cs := #[.int .u64 a0_0, .int .i64 0, .int .u64 0, .int .u64 0, .int .i64 0]) ?_ 1 _ rfl; (with_reducible repeat (first | refine blk_drewN ?_ _ | refine blk_drew ?_ | refine blk_alloc ?_ _)); refine blk_put (cs := #[.int .u64 0, .int .i64 0, .int .u64 0, .int .u64 0, .int .i64 0]) ?_ 0 _ rfl; exact blkt BK272) hb); replace HB := belb HB hb; (try clear hb); (try clear hb2); (try clear hk); (try clear hi); have hcz97_0 : w96.cell? ⟨gb263, 0, none⟩ = some (.int .u64 0) := bc BK263 0; have hcz97_1 : w96.cell? ⟨gb263, 1, none⟩ = some (.int .i64 0) := bc BK263 1; have hcz97_2 : w96.cell? ⟨gb263, 2, none⟩ = some (.int .u64 0) := bc BK263 2; have hcz97_3 : w96.cell? ⟨gb263, 3, none⟩ = some (.int .u64 0) := bc BK263 3; have hcz97_4 : w96.cell? ⟨gb263, 4, none⟩ = some (.int .i64 0) := bc BK263 4; have hfz97_0 := blk_frozen BK263.out 0; have hfz97_1 := blk_frozen BK263.out 1; have hfz97_2 := blk_frozen BK263.out 2; have hfz97_3 := blk_frozen BK263.out 3; have hfz97_4 := blk_frozen BK263.out 4))
    refine bodyPost_ret (results_ct rfl _ _ gb263 33 #[.int .u64 0, .int .i64 0, .int .u64 0, .int .u64 0, .int .i64 0] (0, 0) _ rfl (by (with_reducible repeat (first | refine blk_drewN ?_ _ | refine blk_drew ?_ | refine blk_alloc ?_ _)); refine blk_put (cs := #[.int .u64 0, .int .i64 0, .int .u64 0, .int .u64 0, .int .i64 0]) ?_ 4 _ rfl; (with_reducible repeat (first | refine blk_drewN ?_ _ | refine blk_drew ?_ | refine blk_alloc ?_ _)); refine blk_put (cs := #[.int .u64 0, .int .i64 0, .int .u64 0, .int .u64 0, .int .i64 0]) ?_ 3 _ rfl; (with_reducible repeat (first | refine blk_drewN ?_ _ | refine blk_drew ?_ | refine blk_alloc ?_ _)); refine blk_put (cs := #[.int .u64 0, .int .i64 0, .int .u64 0, .int .u64 0, .int .i64 0]) ?_ 2 _ rfl; (with_reducible repeat (first | refine blk_drewN ?_ _ | refine blk_drew ?_ | refine blk_alloc ?_ _)); refine blk_put (cs := #[.int .u64 0, .int .i64 0, .int .u64 0, .int .u64 0, .int .i64 0]) ?_ 1 _ rfl; (with_reducible repeat (first | refine blk_drewN ?_ _ | refine blk_drew ?_ | refine blk_alloc ?_ _)); refine blk_put (cs := #[.int .u64 0, .int .i64 0, .int .u64 0, .int .u64 0, .int .i64 0]) ?_ 0 _ rfl; exact blkt BK263) Tryz.underlying33 rfl (by kernel_rfl)) rfl ?_
    exact ⟨by first | rfl | (simp [errW_none, errW_some] <;> rfl) | (simp [*, errW_none, errW_some] <;> rfl), belt HB⟩
   replace c46 := Bool.eq_false_iff.mpr c46
   subst c46
   have H1 : (some (0, 0, 0, 0, 0, false)) = some (r1, r2, r3, r4, r5, r6) := by rw [if_neg (show ¬ (false = true) by decide)] at H; exact H
   clear H
   have H := H1
   clear H1
   simp only [Option.some.injEq, Prod.mk.injEq] at H
   obtain ⟨rfl, rfl, rfl, rfl, rfl, rfl⟩ := H
   try go_wp2
   replace BK261 := Aside0.mk (blk_drew BK261.out)
   replace BK262 := Aside0.mk (blk_drew BK262.out)
   replace BK263 := Aside0.mk (blk_drew BK263.out)
   replace HB := Aside0.mk (below_drew1 HB.out)
   refine start_ (n := 13) (S := fun w' => w'.cell? ⟨gb261, 0, none⟩ = some (.int .u64 a0_0) ∧ w'.cell? ⟨gb261, 1, none⟩ = some (.int .i64 a0_1) ∧ w'.cell? ⟨gb261, 2, none⟩ = some (.int .u64 a0_2) ∧ w'.cell? ⟨gb261, 3, none⟩ = some (.int .u64 a0_3) ∧ w'.cell? ⟨gb261, 4, none⟩ = some (.int .i64 a0_4) ∧ w'.cell? ⟨gb262, 0, none⟩ = some (.int .u64 a1_0) ∧ w'.cell? ⟨gb262, 1, none⟩ = some (.int .u32 a1_1) ∧ w'.cell? ⟨gb262, 2, none⟩ = some (.int .u32 a1_2)) (ds := []) #[false, false, false, false, false, false, false, false, false, false, false, false, false] (by kernel_rfl) rfl rfl ⟨bc BK261 0, bc BK261 1, bc BK261 2, bc BK261 3, bc BK261 4, bc BK262 0, bc BK262 1, bc BK262 2⟩ (fun hHeld => ?_); refine with_tabW mean_Mean_Take.tab3 mean_Mean_Take.bits3 (fun HT_ HW_ => ?_)
   generalize wc.drew = w98 at BK261 BK262 BK263 HB hHeld ⊢
   refine pure_ (i := 0) (N := some 32) (v := ?_) (a' := ?_) #[true, false, false, false, false, false, false, false, false, false, false, false, false] rfl rfl (any_of HT_.out (by kernel_rfl)) (fun _ _ _ h => h) (Or.inl ⟨by rfl, ?_⟩) ?_ ?_
   rotate_left
   ·intro w'
    go_simp
    with_reducible rfl
   rotate_left
   ·simp only [Act.put, List.setIfInBounds_toArray, List.set_cons_zero, List.set_cons_succ, i64_w, i32_w]
    rfl
   refine pure_ (i := 3) (N := some 35) (v := ?_) (a' := ?_) #[true, false, false, true, false, false, false, false, false, false, false, false, false] rfl rfl (any_of HT_.out (by kernel_rfl)) (fun _ _ _ h => h) (Or.inl ⟨by rfl, ?_⟩) ?_ ?_
   rotate_left
   ·intro w'
    go_simp
    with_reducible rfl
   rotate_left
   ·simp only [Act.put, List.setIfInBounds_toArray, List.set_cons_zero, List.set_cons_succ, i64_w, i32_w]
    rfl
   refine take_ (i := 1) (N := some 33) (v := ?_) (a' := ?_) #[true, true, false, true, false, false, false, false, false, false, false, false, false] rfl rfl (take_ofW HT_.out HW_.out (by kernel_rfl)) (fun _ _ _ h => h) (Or.inl ⟨by rfl, ?_⟩) hHeld ?_ ?_
   rotate_left
   ·rintro w' ⟨s0, s1, s2, s3, s4, s5, s6, s7⟩
    go_simp
    with_reducible rfl
   rotate_left
   ·simp only [Act.put, List.setIfInBounds_toArray, List.set_cons_zero, List.set_cons_succ, i64_w, i32_w]
    rfl
   refine take_ (i := 2) (N := some 34) (v := ?_) (a' := ?_) #[true, true, true, true, false, false, false, false, false, false, false, false, false] rfl rfl (take_ofW HT_.out HW_.out (by kernel_rfl)) (fun _ _ _ h => h) (Or.inl ⟨by rfl, ?_⟩) hHeld ?_ ?_
   rotate_left
   ·rintro w' ⟨s0, s1, s2, s3, s4, s5, s6, s7⟩
    go_simp
    with_reducible rfl
   rotate_left
   ·simp only [Act.put, List.setIfInBounds_toArray, List.set_cons_zero, List.set_cons_succ, i64_w, i32_w]
    rfl
   refine take_ (i := 4) (N := some 36) (v := ?_) (a' := ?_) #[true, true, true, true, true, false, false, false, false, false, false, false, false] rfl rfl (take_ofW HT_.out HW_.out (by kernel_rfl)) (fun _ _ _ h => h) (Or.inl ⟨by rfl, ?_⟩) hHeld ?_ ?_
   rotate_left
   ·rintro w' ⟨s0, s1, s2, s3, s4, s5, s6, s7⟩
    go_simp
    with_reducible rfl
   rotate_left
   ·simp only [Act.put, List.setIfInBounds_toArray, List.set_cons_zero, List.set_cons_succ, i64_w, i32_w]
    rfl
   refine join_ (σ := Nat) 2 #[true, true, true, true, true, true, true, true, true, true, true, false, false] (fun s_ => [(37, .agg #[.int .i64 t266, .int .u64 t267]), (38, .tuple #[.agg #[.int .i64 t268, .int .u64 t269], .bool false]), (6, .pointer (some ⟨s_, 0, none⟩)), (31, .tuple #[.agg #[.int .i64 t268, .int .u64 t269], .bool false]), (39, .agg #[.int .i64 t268, .int .u64 t269]), (40, .bool false)]) (fun s_ w' => (w'.cell? ⟨gb261, 0, none⟩ = some (.int .u64 a0_0) ∧ w'.cell? ⟨gb261, 1, none⟩ = some (.int .i64 a0_1) ∧ w'.cell? ⟨gb261, 2, none⟩ = some (.int .u64 a0_2) ∧ w'.cell? ⟨gb261, 3, none⟩ = some (.int .u64 a0_3) ∧ w'.cell? ⟨gb261, 4, none⟩ = some (.int .i64 a0_4) ∧ w'.cell? ⟨gb262, 0, none⟩ = some (.int .u64 a1_0) ∧ w'.cell? ⟨gb262, 1, none⟩ = some (.int .u32 a1_1) ∧ w'.cell? ⟨gb262, 2, none⟩ = some (.int .u32 a1_2)) ∧ (w'.heap[gb261]? = some (.cells #[.int .u64 a0_0, .int .i64 a0_1, .int .u64 a0_2, .int .u64 a0_3, .int .i64 a0_4] 33 (0, 0))) ∧ (w'.heap[gb262]? = some (.cells #[.int .u64 a1_0, .int .u32 a1_1, .int .u32 a1_2] 28 (0, 0))) ∧ (w'.heap[gb263]? = some (.cells #[.int .u64 0, .int .i64 0, .int .u64 0, .int .u64 0, .int .i64 0] 33 (0, 0))) ∧ (w'.heap[s_]? = some (.cells #[.int .i64 0, .int .u64 0] 31 (0, 0))) ∧ (w.heap.size ≤ s_) ∧ (w.heap.size ≤ s_) ∧ (gb261 ≠ s_) ∧ (s_ ≠ gb261) ∧ (gb262 ≠ s_) ∧ (s_ ≠ gb262) ∧ (gb263 ≠ s_) ∧ (s_ ≠ gb263) ∧ (Below w.heap.size w w')) ?_ ?_
   rotate_left
   ·intro hCont
    refine two_ (i := 5) (j := 10) (Ni := some 37) (Nj := some 6) #[true, true, true, true, true, true, false, false, false, false, false, false, false] #[true, true, true, true, true, false, false, false, false, false, true, false, false] rfl rfl rfl rfl (two_of HT_.out (by kernel_rfl)) (by decide) (by decide) (fun K hK => ?_) (fun K hK => ?_)
    ·skip
     refine goes_ Tryz.func59 (by kernel_rfl) rfl #[.agg #[.int .u64 a1_0, .int .u32 a1_1, .int .u32 a1_2], .int .u64 a0_0] (by rfl) rfl rfl argt ?_
     with_reducible refine (pos_Pos_Distance.calls kj2 a1_0 a1_1 a1_2 a0_0 t266 t267 _ A44.out).mono ?_
     rintro e w99 ⟨rfl, hb⟩
     refine ⟨_, rfl, ?_⟩
     replace BK261 := blkb BK261 hb
     replace BK262 := blkb BK262 hb
     replace BK263 := blkb BK263 hb
     replace HB := belb HB hb
     (try clear hb)
     (try clear hb2)
     (try clear hk)
     (try clear hi)
     refine hK.out _ _ ⟨bc BK261 0, bc BK261 1, bc BK261 2, bc BK261 3, bc BK261 4, bc BK262 0, bc BK262 1, bc BK262 2⟩ (fun hHeld => ?_)
     clear hK K
     refine norm_ (a' := ?_) ?_ ?_
     rotate_left
     ·show Act.put _ (some 37) _ = _
      simp only [Act.put, List.setIfInBounds_toArray, List.set_cons_zero, List.set_cons_succ, i64_w, i32_w]
      rfl
     refine two_ (i := 6) (j := 10) (Ni := some 38) (Nj := some 6) #[true, true, true, true, true, true, true, false, false, false, false, false, false] #[true, true, true, true, true, true, false, false, false, false, true, false, false] rfl rfl rfl rfl (two_of HT_.out (by kernel_rfl)) (by decide) (by decide) (fun K hK => ?_) (fun K hK => ?_)
     ·skip
      refine goes_ Tryz.func26 (by kernel_rfl) rfl #[.agg #[.int .i64 a0_1, .int .u64 a0_2], .agg #[.int .i64 t266, .int .u64 t267]] (by rfl) rfl rfl argt ?_
      with_reducible refine (wide_Int_Sub.calls a0_1 a0_2 t266 t267 t268 t269 false _ A45.out).mono ?_
      rintro e w100 ⟨rfl, hb⟩
      refine ⟨_, rfl, ?_⟩
      replace BK261 := blkb BK261 hb
      replace BK262 := blkb BK262 hb
      replace BK263 := blkb BK263 hb
      replace HB := belb HB hb
      (try clear hb)
      (try clear hb2)
      (try clear hk)
      (try clear hi)
      refine hK.out _ _ ⟨bc BK261 0, bc BK261 1, bc BK261 2, bc BK261 3, bc BK261 4, bc BK262 0, bc BK262 1, bc BK262 2⟩ (fun hHeld => ?_)
      clear hK K
      refine norm_ (a' := ?_) ?_ ?_
      rotate_left
      ·show Act.put _ (some 38) _ = _
       simp only [Act.put, List.setIfInBounds_toArray, List.set_cons_zero, List.set_cons_succ, i64_w, i32_w]
       rfl
      refine pure_ (i := 7) (N := some 31) (v := ?_) (a' := ?_) #[true, true, true, true, true, true, true, true, false, false, false, false, false] rfl rfl (any_of HT_.out (by kernel_rfl)) (fun _ _ _ h => h) (Or.inl ⟨by rfl, ?_⟩) ?_ ?_
      rotate_left
      ·intro w'
       go_simp
       with_reducible rfl
      rotate_left
      ·simp only [Act.put, List.setIfInBounds_toArray, List.set_cons_zero, List.set_cons_succ, i64_w, i32_w]
       rfl
      refine pure_ (i := 8) (N := some 39) (v := ?_) (a' := ?_) #[true, true, true, true, true, true, true, true, true, false, false, false, false] rfl rfl (any_of HT_.out (by kernel_rfl)) (fun _ _ _ h => h) (Or.inl ⟨by rfl, ?_⟩) ?_ ?_
      rotate_left
      ·intro w'
       go_simp
       with_reducible rfl
      rotate_left
      ·simp only [Act.put, List.setIfInBounds_toArray, List.set_cons_zero, List.set_cons_succ, i64_w, i32_w]
       rfl
      refine pure_ (i := 9) (N := some 40) (v := ?_) (a' := ?_) #[true, true, true, true, true, true, true, true, true, true, false, false, false] rfl rfl (any_of HT_.out (by kernel_rfl)) (fun _ _ _ h => h) (Or.inl ⟨by rfl, ?_⟩) ?_ ?_
      rotate_left
      ·intro w'
       go_simp
       with_reducible rfl
      rotate_left
      ·simp only [Act.put, List.setIfInBounds_toArray, List.set_cons_zero, List.set_cons_succ, i64_w, i32_w]
       rfl
      refine one_ (i := 10) (N := some 6) #[true, true, true, true, true, true, true, true, true, true, true, false, false] rfl rfl (one_of HT_.out (by kernel_rfl)) (by decide) (fun K hK => ?_)
      refine box_step ?hg (N := 6) ?hd (cs := #[.int .i64 0, .int .u64 0]) (t := 31) ?hr ?_; (case hd => rfl); (case hg => rfl); (case hr => first | (go_simp; done) | (go_simp; rfl))
      intro gb271 hg w101 hbox hb
      have BK271 := Aside0.mk (hbox)
      have GW271 := bels HB hg
      have GE271 := bels HB hg
      have NB261_271 := blkl BK261 hg
      have NB271_261 := blkg BK261 hg
      have NB262_271 := blkl BK262 hg
      have NB271_262 := blkg BK262 hg
      have NB263_271 := blkl BK263 hg
      have NB271_263 := blkg BK263 hg
      replace BK261 := blkb BK261 hb
      replace BK262 := blkb BK262 hb
      replace BK263 := blkb BK263 hb
      replace HB := belb HB hb
      clear hb hbox hg
      refine hK.out _ _ ⟨bc BK261 0, bc BK261 1, bc BK261 2, bc BK261 3, bc BK261 4, bc BK262 0, bc BK262 1, bc BK262 2⟩ (fun hHeld => ?_)
      clear hK K
      refine norm_ (a' := ?_) ?_ ?_
      rotate_left
      ·show Act.put _ (some 6) _ = _
       simp only [Act.put, List.setIfInBounds_toArray, List.set_cons_zero, List.set_cons_succ, i64_w, i32_w]
       rfl
      exact norm_ (by simp only [putAll, Act.put, List.setIfInBounds_toArray, List.set_cons_zero, List.set_cons_succ]) (hCont (gb271) _ ⟨hHeld, (blkt BK261), (blkt BK262), (blkt BK263), (blkt BK271), GW271.out, GE271.out, NB261_271.out, NB271_261.out, NB262_271.out, NB271_262.out, NB263_271.out, NB271_263.out, (belt HB)⟩)
     skip
     refine box_step ?hg (N := 6) ?hd (cs := #[.int .i64 0, .int .u64 0]) (t := 31) ?hr ?_; (case hd => rfl); (case hg => rfl); (case hr => first | (go_simp; done) | (go_simp; rfl))
     intro gb271 hg w100 hbox hb
     have BK271 := Aside0.mk (hbox)
     have GW271 := bels HB hg
     have GE271 := bels HB hg
     have NB261_271 := blkl BK261 hg
     have NB271_261 := blkg BK261 hg
     have NB262_271 := blkl BK262 hg
     have NB271_262 := blkg BK262 hg
     have NB263_271 := blkl BK263 hg
     have NB271_263 := blkg BK263 hg
     replace BK261 := blkb BK261 hb
     replace BK262 := blkb BK262 hb
     replace BK263 := blkb BK263 hb
     replace HB := belb HB hb
     clear hb hbox hg
     refine hK.out _ _ ⟨bc BK261 0, bc BK261 1, bc BK261 2, bc BK261 3, bc BK261 4, bc BK262 0, bc BK262 1, bc BK262 2⟩ (fun hHeld => ?_)
     clear hK K
     refine norm_ (a' := ?_) ?_ ?_
     rotate_left
     ·show Act.put _ (some 6) _ = _
      simp only [Act.put, List.setIfInBounds_toArray, List.set_cons_zero, List.set_cons_succ, i64_w, i32_w]
      rfl
     refine one_ (i := 6) (N := some 38) #[true, true, true, true, true, true, true, false, false, false, true, false, false] rfl rfl (one_of HT_.out (by kernel_rfl)) (by decide) (fun K hK => ?_)
     refine goes_ Tryz.func26 (by kernel_rfl) rfl #[.agg #[.int .i64 a0_1, .int .u64 a0_2], .agg #[.int .i64 t266, .int .u64 t267]] (by rfl) rfl rfl argt ?_
     with_reducible refine (wide_Int_Sub.calls a0_1 a0_2 t266 t267 t268 t269 false _ A45.out).mono ?_
     rintro e w101 ⟨rfl, hb⟩
     refine ⟨_, rfl, ?_⟩
     replace BK261 := blkb BK261 hb
     replace BK262 := blkb BK262 hb
     replace BK263 := blkb BK263 hb
     replace BK271 := blkb BK271 hb
     replace HB := belb HB hb
     (try clear hb)
     (try clear hb2)
     (try clear hk)
     (try clear hi)
     refine hK.out _ _ ⟨bc BK261 0, bc BK261 1, bc BK261 2, bc BK261 3, bc BK261 4, bc BK262 0, bc BK262 1, bc BK262 2⟩ (fun hHeld => ?_)
     clear hK K
     refine norm_ (a' := ?_) ?_ ?_
     rotate_left
     ·show Act.put _ (some 38) _ = _
      simp only [Act.put, List.setIfInBounds_toArray, List.set_cons_zero, List.set_cons_succ, i64_w, i32_w]
      rfl
     refine pure_ (i := 7) (N := some 31) (v := ?_) (a' := ?_) #[true, true, true, true, true, true, true, true, false, false, true, false, false] rfl rfl (any_of HT_.out (by kernel_rfl)) (fun _ _ _ h => h) (Or.inl ⟨by rfl, ?_⟩) ?_ ?_
     rotate_left
     ·intro w'
      go_simp
      with_reducible rfl
     rotate_left
     ·simp only [Act.put, List.setIfInBounds_toArray, List.set_cons_zero, List.set_cons_succ, i64_w, i32_w]
      rfl
     refine pure_ (i := 8) (N := some 39) (v := ?_) (a' := ?_) #[true, true, true, true, true, true, true, true, true, false, true, false, false] rfl rfl (any_of HT_.out (by kernel_rfl)) (fun _ _ _ h => h) (Or.inl ⟨by rfl, ?_⟩) ?_ ?_
     rotate_left
     ·intro w'
      go_simp
      with_reducible rfl
     rotate_left
     ·simp only [Act.put, List.setIfInBounds_toArray, List.set_cons_zero, List.set_cons_succ, i64_w, i32_w]
      rfl
     refine pure_ (i := 9) (N := some 40) (v := ?_) (a' := ?_) #[true, true, true, true, true, true, true, true, true, true, true, false, false] rfl rfl (any_of HT_.out (by kernel_rfl)) (fun _ _ _ h => h) (Or.inl ⟨by rfl, ?_⟩) ?_ ?_
     rotate_left
     ·intro w'
      go_simp
      with_reducible rfl
     rotate_left
     ·simp only [Act.put, List.setIfInBounds_toArray, List.set_cons_zero, List.set_cons_succ, i64_w, i32_w]
      rfl
     exact norm_ (by simp only [putAll, Act.put, List.setIfInBounds_toArray, List.set_cons_zero, List.set_cons_succ]) (hCont (gb271) _ ⟨hHeld, (blkt BK261), (blkt BK262), (blkt BK263), (blkt BK271), GW271.out, GE271.out, NB261_271.out, NB271_261.out, NB262_271.out, NB271_262.out, NB263_271.out, NB271_263.out, (belt HB)⟩)
    skip
    refine box_step ?hg (N := 6) ?hd (cs := #[.int .i64 0, .int .u64 0]) (t := 31) ?hr ?_; (case hd => rfl); (case hg => rfl); (case hr => first | (go_simp; done) | (go_simp; rfl))
    intro gb271 hg w99 hbox hb
    have BK271 := Aside0.mk (hbox)
    have GW271 := bels HB hg
    have GE271 := bels HB hg
    have NB261_271 := blkl BK261 hg
    have NB271_261 := blkg BK261 hg
    have NB262_271 := blkl BK262 hg
    have NB271_262 := blkg BK262 hg
    have NB263_271 := blkl BK263 hg
    have NB271_263 := blkg BK263 hg
    replace BK261 := blkb BK261 hb
    replace BK262 := blkb BK262 hb
    replace BK263 := blkb BK263 hb
    replace HB := belb HB hb
    clear hb hbox hg
    refine hK.out _ _ ⟨bc BK261 0, bc BK261 1, bc BK261 2, bc BK261 3, bc BK261 4, bc BK262 0, bc BK262 1, bc BK262 2⟩ (fun hHeld => ?_)
    clear hK K
    refine norm_ (a' := ?_) ?_ ?_
    rotate_left
    ·show Act.put _ (some 6) _ = _
     simp only [Act.put, List.setIfInBounds_toArray, List.set_cons_zero, List.set_cons_succ, i64_w, i32_w]
     rfl
    refine one_ (i := 5) (N := some 37) #[true, true, true, true, true, true, false, false, false, false, true, false, false] rfl rfl (one_of HT_.out (by kernel_rfl)) (by decide) (fun K hK => ?_)
    refine goes_ Tryz.func59 (by kernel_rfl) rfl #[.agg #[.int .u64 a1_0, .int .u32 a1_1, .int .u32 a1_2], .int .u64 a0_0] (by rfl) rfl rfl argt ?_
    with_reducible refine (pos_Pos_Distance.calls kj2 a1_0 a1_1 a1_2 a0_0 t266 t267 _ A44.out).mono ?_
    rintro e w100 ⟨rfl, hb⟩
    refine ⟨_, rfl, ?_⟩
    replace BK261 := blkb BK261 hb
    replace BK262 := blkb BK262 hb
    replace BK263 := blkb BK263 hb
    replace BK271 := blkb BK271 hb
    replace HB := belb HB hb
    (try clear hb)
    (try clear hb2)
    (try clear hk)
    (try clear hi)
    refine hK.out _ _ ⟨bc BK261 0, bc BK261 1, bc BK261 2, bc BK261 3, bc BK261 4, bc BK262 0, bc BK262 1, bc BK262 2⟩ (fun hHeld => ?_)
    clear hK K
    refine norm_ (a' := ?_) ?_ ?_
    rotate_left
    ·show Act.put _ (some 37) _ = _
     simp only [Act.put, List.setIfInBounds_toArray, List.set_cons_zero, List.set_cons_succ, i64_w, i32_w]
     rfl
    refine one_ (i := 6) (N := some 38) #[true, true, true, true, true, true, true, false, false, false, true, false, false] rfl rfl (one_of HT_.out (by kernel_rfl)) (by decide) (fun K hK => ?_)
    refine goes_ Tryz.func26 (by kernel_rfl) rfl #[.agg #[.int .i64 a0_1, .int .u64 a0_2], .agg #[.int .i64 t266, .int .u64 t267]] (by rfl) rfl rfl argt ?_
    with_reducible refine (wide_Int_Sub.calls a0_1 a0_2 t266 t267 t268 t269 false _ A45.out).mono ?_
    rintro e w101 ⟨rfl, hb⟩
    refine ⟨_, rfl, ?_⟩
    replace BK261 := blkb BK261 hb
    replace BK262 := blkb BK262 hb
    replace BK263 := blkb BK263 hb
    replace BK271 := blkb BK271 hb
    replace HB := belb HB hb
    (try clear hb)
    (try clear hb2)
    (try clear hk)
    (try clear hi)
    refine hK.out _ _ ⟨bc BK261 0, bc BK261 1, bc BK261 2, bc BK261 3, bc BK261 4, bc BK262 0, bc BK262 1, bc BK262 2⟩ (fun hHeld => ?_)
    clear hK K
    refine norm_ (a' := ?_) ?_ ?_
    rotate_left
    ·show Act.put _ (some 38) _ = _
     simp only [Act.put, List.setIfInBounds_toArray, List.set_cons_zero, List.set_cons_succ, i64_w, i32_w]
     rfl
    refine pure_ (i := 7) (N := some 31) (v := ?_) (a' := ?_) #[true, true, true, true, true, true, true, true, false, false, true, false, false] rfl rfl (any_of HT_.out (by kernel_rfl)) (fun _ _ _ h => h) (Or.inl ⟨by rfl, ?_⟩) ?_ ?_
    rotate_left
    ·intro w'
     go_simp
     with_reducible rfl
    rotate_left
    ·simp only [Act.put, List.setIfInBounds_toArray, List.set_cons_zero, List.set_cons_succ, i64_w, i32_w]
     rfl
    refine pure_ (i := 8) (N := some 39) (v := ?_) (a' := ?_) #[true, true, true, true, true, true, true, true, true, false, true, false, false] rfl rfl (any_of HT_.out (by kernel_rfl)) (fun _ _ _ h => h) (Or.inl ⟨by rfl, ?_⟩) ?_ ?_
    rotate_left
    ·intro w'
     go_simp
     with_reducible rfl
    rotate_left
    ·simp only [Act.put, List.setIfInBounds_toArray, List.set_cons_zero, List.set_cons_succ, i64_w, i32_w]
     rfl
    refine pure_ (i := 9) (N := some 40) (v := ?_) (a' := ?_) #[true, true, true, true, true, true, true, true, true, true, true, false, false] rfl rfl (any_of HT_.out (by kernel_rfl)) (fun _ _ _ h => h) (Or.inl ⟨by rfl, ?_⟩) ?_ ?_
    rotate_left
    ·intro w'
     go_simp
     with_reducible rfl
    rotate_left
    ·simp only [Act.put, List.setIfInBounds_toArray, List.set_cons_zero, List.set_cons_succ, i64_w, i32_w]
     rfl
    exact norm_ (by simp only [putAll, Act.put, List.setIfInBounds_toArray, List.set_cons_zero, List.set_cons_succ]) (hCont (gb271) _ ⟨hHeld, (blkt BK261), (blkt BK262), (blkt BK263), (blkt BK271), GW271.out, GE271.out, NB261_271.out, NB271_261.out, NB262_271.out, NB271_262.out, NB263_271.out, NB271_263.out, (belt HB)⟩)
   rintro gb271 w102 ⟨hS_, h0_, h1_, h2_, h3_, h4_, h5_, h6_, h7_, h8_, h9_, h10_, h11_, h12_⟩
   replace BK261 : Aside0 (w102.heap[gb261]? = some (.cells #[.int .u64 a0_0, .int .i64 a0_1, .int .u64 a0_2, .int .u64 a0_3, .int .i64 a0_4] 33 (0, 0))) := ⟨h0_⟩
   replace BK262 : Aside0 (w102.heap[gb262]? = some (.cells #[.int .u64 a1_0, .int .u32 a1_1, .int .u32 a1_2] 28 (0, 0))) := ⟨h1_⟩
   replace BK263 : Aside0 (w102.heap[gb263]? = some (.cells #[.int .u64 0, .int .i64 0, .int .u64 0, .int .u64 0, .int .i64 0] 33 (0, 0))) := ⟨h2_⟩
   have BK271 : Aside0 (w102.heap[gb271]? = some (.cells #[.int .i64 0, .int .u64 0] 31 (0, 0))) := ⟨h3_⟩
   have GW271 : Aside0 (w.heap.size ≤ gb271) := ⟨h4_⟩
   have GE271 : Aside0 (w.heap.size ≤ gb271) := ⟨h5_⟩
   have NB261_271 : Aside0 (gb261 ≠ gb271) := ⟨h6_⟩
   have NB271_261 : Aside0 (gb271 ≠ gb261) := ⟨h7_⟩
   have NB262_271 : Aside0 (gb262 ≠ gb271) := ⟨h8_⟩
   have NB271_262 : Aside0 (gb271 ≠ gb262) := ⟨h9_⟩
   have NB263_271 : Aside0 (gb263 ≠ gb271) := ⟨h10_⟩
   have NB271_263 : Aside0 (gb271 ≠ gb263) := ⟨h11_⟩
   replace HB : Aside0 (Below w.heap.size w w102) := ⟨h12_⟩
   clear h0_ h1_ h2_ h3_ h4_ h5_ h6_ h7_ h8_ h9_ h10_ h11_ h12_
   have hHeld : w102.cell? ⟨gb261, 0, none⟩ = some (.int .u64 a0_0) ∧ w102.cell? ⟨gb261, 1, none⟩ = some (.int .i64 a0_1) ∧ w102.cell? ⟨gb261, 2, none⟩ = some (.int .u64 a0_2) ∧ w102.cell? ⟨gb261, 3, none⟩ = some (.int .u64 a0_3) ∧ w102.cell? ⟨gb261, 4, none⟩ = some (.int .i64 a0_4) ∧ w102.cell? ⟨gb262, 0, none⟩ = some (.int .u64 a1_0) ∧ w102.cell? ⟨gb262, 1, none⟩ = some (.int .u32 a1_1) ∧ w102.cell? ⟨gb262, 2, none⟩ = some (.int .u32 a1_2) := hS_
   refine norm_ (a' := ?_) ?_ ?_
   rotate_left
   ·simp only [putAll, Act.put, List.setIfInBounds_toArray, List.set_cons_zero, List.set_cons_succ]
    rfl
   refine one_ (i := 11) (N := none) #[true, true, true, true, true, true, true, true, true, true, true, true, false] rfl rfl (one_of HT_.out (by kernel_rfl)) (by decide) (fun K hK => ?_)
   have hs103 : w102.cell? ⟨gb271, 0, none⟩ = some (.int .i64 0) := bc BK271 0
   have hfs103 := blk_frozen BK271.out 0
   have hns103_0 := NB261_271.out
   have hns103_1 := NB262_271.out
   have hns103_2 := NB263_271.out
   have hms103_0 := NB271_261.out
   have hms103_1 := NB271_262.out
   have hms103_2 := NB271_263.out
   have hs104 : w102.cell? ⟨gb271, 1, none⟩ = some (.int .u64 0) := bc BK271 1
   have hfs104 := blk_frozen BK271.out 1
   have hns104_0 := NB261_271.out
   have hns104_1 := NB262_271.out
   have hns104_2 := NB263_271.out
   have hms104_0 := NB271_261.out
   have hms104_1 := NB271_262.out
   have hms104_2 := NB271_263.out
   refine skip_ (w1 := ?_) (by rfl) rfl ?_ ?_
   rotate_left
   ·go_simp
    rfl
   refine hK.out _ _ ⟨((cell_far (p := ⟨gb271, _, none⟩) NB261_271.out _).trans (((cell_far (p := ⟨gb271, _, none⟩) NB261_271.out _).trans (hHeld.1)))), ((cell_far (p := ⟨gb271, _, none⟩) NB261_271.out _).trans (((cell_far (p := ⟨gb271, _, none⟩) NB261_271.out _).trans (hHeld.2.1)))), ((cell_far (p := ⟨gb271, _, none⟩) NB261_271.out _).trans (((cell_far (p := ⟨gb271, _, none⟩) NB261_271.out _).trans (hHeld.2.2.1)))), ((cell_far (p := ⟨gb271, _, none⟩) NB261_271.out _).trans (((cell_far (p := ⟨gb271, _, none⟩) NB261_271.out _).trans (hHeld.2.2.2.1)))), ((cell_far (p := ⟨gb271, _, none⟩) NB261_271.out _).trans (((cell_far (p := ⟨gb271, _, none⟩) NB261_271.out _).trans (hHeld.2.2.2.2.1)))), ((cell_far (p := ⟨gb271, _, none⟩) NB262_271.out _).trans (((cell_far (p := ⟨gb271, _, none⟩) NB262_271.out _).trans (hHeld.2.2.2.2.2.1)))), ((cell_far (p := ⟨gb271, _, none⟩) NB262_271.out _).trans (((cell_far (p := ⟨gb271, _, none⟩) NB262_271.out _).trans (hHeld.2.2.2.2.2.2.1)))), ((cell_far (p := ⟨gb271, _, none⟩) NB262_271.out _).trans (((cell_far (p := ⟨gb271, _, none⟩) NB262_271.out _).trans (hHeld.2.2.2.2.2.2.2))))⟩ (fun hHeld => ?_)
   clear hK K
   refine pure_ (i := 12) (N := some 7) (v := ?_) (a' := ?_) #[true, true, true, true, true, true, true, true, true, true, true, true, true] rfl rfl (any_of HT_.out (by kernel_rfl)) (fun _ _ _ h => h) (Or.inl ⟨by rfl, ?_⟩) ?_ ?_
   rotate_left
   ·intro w'
    go_simp
    with_reducible rfl
   rotate_left
   ·simp only [Act.put, List.setIfInBounds_toArray, List.set_cons_zero, List.set_cons_succ, i64_w, i32_w]
    rfl
   refine done_ (done_of HT_.out (by kernel_rfl)) ?_
   have hnb105 := NB261_262.out
   have hnc105 := NB262_261.out
   have hnb106 := NB261_263.out
   have hnc106 := NB263_261.out
   have hnb107 := NB261_271.out
   have hnc107 := NB271_261.out
   have hcz108_0 : w102.cell? ⟨gb261, 0, none⟩ = some (.int .u64 a0_0) := bc BK261 0
   have hcz108_1 : w102.cell? ⟨gb261, 1, none⟩ = some (.int .i64 a0_1) := bc BK261 1
   have hcz108_2 : w102.cell? ⟨gb261, 2, none⟩ = some (.int .u64 a0_2) := bc BK261 2
   have hcz108_3 : w102.cell? ⟨gb261, 3, none⟩ = some (.int .u64 a0_3) := bc BK261 3
   have hcz108_4 : w102.cell? ⟨gb261, 4, none⟩ = some (.int .i64 a0_4) := bc BK261 4
   have hfz108_0 := blk_frozen BK261.out 0
   have hfz108_1 := blk_frozen BK261.out 1
   have hfz108_2 := blk_frozen BK261.out 2
   have hfz108_3 := blk_frozen BK261.out 3
   have hfz108_4 := blk_frozen BK261.out 4
   have hnb109 := NB271_262.out
   have hnc109 := NB262_271.out
   have hnb110 := NB271_263.out
   have hnc110 := NB263_271.out
   have hcz111_0 : w102.cell? ⟨gb271, 0, none⟩ = some (.int .i64 0) := bc BK271 0
   have hcz111_1 : w102.cell? ⟨gb271, 1, none⟩ = some (.int .u64 0) := bc BK271 1
   have hfz111_0 := blk_frozen BK271.out 0
   have hfz111_1 := blk_frozen BK271.out 1
   have hnb112 := NB262_263.out
   have hnc112 := NB263_262.out
   have hcz113_0 : w102.cell? ⟨gb262, 0, none⟩ = some (.int .u64 a1_0) := bc BK262 0
   have hcz113_1 : w102.cell? ⟨gb262, 1, none⟩ = some (.int .u32 a1_1) := bc BK262 1
   have hcz113_2 : w102.cell? ⟨gb262, 2, none⟩ = some (.int .u32 a1_2) := bc BK262 2
   have hfz113_0 := blk_frozen BK262.out 0
   have hfz113_1 := blk_frozen BK262.out 1
   have hfz113_2 := blk_frozen BK262.out 2
   try go_wp2_with (first | ((with_reducible refine gate_dst (N := 8) rfl ?_); refine box_event ?hg (N := 8) ?hd (cs := #[.int .u64 0, .int .i64 0, .int .u64 0, .int .u64 0, .int .i64 0]) (t := 33) ?hr ?_; (case hd => rfl); (case hg => rfl); (case hr => first | (go_simp; done) | (go_simp; rfl)); intro gb272 hg w114 hbox hb; have BK272 := Aside0.mk (hbox); have GW272 := bels HB hg; have GE272 := bels HB hg; have NB261_272 := Aside0.mk ((by rw [hg]; exact Nat.ne_of_lt (blk_lt (g := gb261) (o := .cells #[.int .u64 a0_0, .int .i64 a0_1, .int .u64 a0_2, .int .u64 a0_3, .int .i64 a0_4] 33 (0, 0)) (by (with_reducible repeat (first | refine blk_drewN ?_ _ | refine blk_drew ?_ | refine blk_alloc ?_ _)); refine blk_far ?_ NB261_271.out _; (with_reducible repeat (first | refine blk_drewN ?_ _ | refine blk_drew ?_ | refine blk_alloc ?_ _)); refine blk_far ?_ NB261_271.out _; exact blkt BK261)) : gb261 ≠ gb272)); have NB272_261 := Aside0.mk ((by rw [hg]; exact Nat.ne_of_gt (blk_lt (g := gb261) (o := .cells #[.int .u64 a0_0, .int .i64 a0_1, .int .u64 a0_2, .int .u64 a0_3, .int .i64 a0_4] 33 (0, 0)) (by (with_reducible repeat (first | refine blk_drewN ?_ _ | refine blk_drew ?_ | refine blk_alloc ?_ _)); refine blk_far ?_ NB261_271.out _; (with_reducible repeat (first | refine blk_drewN ?_ _ | refine blk_drew ?_ | refine blk_alloc ?_ _)); refine blk_far ?_ NB261_271.out _; exact blkt BK261)) : gb272 ≠ gb261)); have NB262_272 := Aside0.mk ((by rw [hg]; exact Nat.ne_of_lt (blk_lt (g := gb262) (o := .cells #[.int .u64 a1_0, .int .u32 a1_1, .int .u32 a1_2] 28 (0, 0)) (by (with_reducible repeat (first | refine blk_drewN ?_ _ | refine blk_drew ?_ | refine blk_alloc ?_ _)); refine blk_far ?_ NB262_271.out _; (with_reducible repeat (first | refine blk_drewN ?_ _ | refine blk_drew ?_ | refine blk_alloc ?_ _)); refine blk_far ?_ NB262_271.out _; exact blkt BK262)) : gb262 ≠ gb272)); have NB272_262 := Aside0.mk ((by rw [hg]; exact Nat.ne_of_gt (blk_lt (g := gb262) (o := .cells #[.int .u64 a1_0, .int .u32 a1_1, .int .u32 a1_2] 28 (0, 0)) (by (with_reducible repeat (first | refine blk_drewN ?_ _ | refine blk_drew ?_ | refine blk_alloc ?_ _)); refine blk_far ?_ NB262_271.out _; (with_reducible repeat (first | refine blk_drewN ?_ _ | refine blk_drew ?_ | refine blk_alloc ?_ _)); refine blk_far ?_ NB262_271.out _; exact blkt BK262)) : gb272 ≠ gb262)); have NB263_272 := Aside0.mk ((by rw [hg]; exact Nat.ne_of_lt (blk_lt (g := gb263) (o := .cells #[.int .u64 0, .int .i64 0, .int .u64 0, .int .u64 0, .int .i64 0] 33 (0, 0)) (by (with_reducible repeat (first | refine blk_drewN ?_ _ | refine blk_drew ?_ | refine blk_alloc ?_ _)); refine blk_far ?_ NB263_271.out _; (with_reducible repeat (first | refine blk_drewN ?_ _ | refine blk_drew ?_ | refine blk_alloc ?_ _)); refine blk_far ?_ NB263_271.out _; exact blkt BK263)) : gb263 ≠ gb272)); have NB272_263 := Aside0.mk ((by rw [hg]; exact Nat.ne_of_gt (blk_lt (g := gb263) (o := .cells #[.int .u64 0, .int .i64 0, .int .u64 0, .int .u64 0, .int .i64 0] 33 (0, 0)) (by (with_reducible repeat (first | refine blk_drewN ?_ _ | refine blk_drew ?_ | refine blk_alloc ?_ _)); refine blk_far ?_ NB263_271.out _; (with_reducible repeat (first | refine blk_drewN ?_ _ | refine blk_drew ?_ | refine blk_alloc ?_ _)); refine blk_far ?_ NB263_271.out _; exact blkt BK263)) : gb272 ≠ gb263)); have NB271_272 := Aside0.mk ((by rw [hg]; exact Nat.ne_of_lt (blk_lt (g := gb271) (o := .cells #[.int .i64 t268, .int .u64 t269] 31 (0, 0)) (by (with_reducible repeat (first | refine blk_drewN ?_ _ | refine blk_drew ?_ | refine blk_alloc ?_ _)); refine blk_put (cs := #[.int .i64 t268, .int .u64 0]) ?_ 1 _ rfl; (with_reducible repeat (first | refine blk_drewN ?_ _ | refine blk_drew ?_ | refine blk_alloc ?_ _)); refine blk_put (cs := #[.int .i64 0, .int .u64 0]) ?_ 0 _ rfl; exact blkt BK271)) : gb271 ≠ gb272)); have NB272_271 := Aside0.mk ((by rw [hg]; exact Nat.ne_of_gt (blk_lt (g := gb271) (o := .cells #[.int .i64 t268, .int .u64 t269] 31 (0, 0)) (by (with_reducible repeat (first | refine blk_drewN ?_ _ | refine blk_drew ?_ | refine blk_alloc ?_ _)); refine blk_put (cs := #[.int .i64 t268, .int .u64 0]) ?_ 1 _ rfl; (with_reducible repeat (first | refine blk_drewN ?_ _ | refine blk_drew ?_ | refine blk_alloc ?_ _)); refine blk_put (cs := #[.int .i64 0, .int .u64 0]) ?_ 0 _ rfl; exact blkt BK271)) : gb272 ≠ gb271)); replace BK261 := Aside0.mk (blk_below (g := gb261) (o := .cells #[.int .u64 a0_0, .int .i64 a0_1, .int .u64 a0_2, .int .u64 a0_3, .int .i64 a0_4] 33 (0, 0)) (by (with_reducible repeat (first | refine blk_drewN ?_ _ | refine blk_drew ?_ | refine blk_alloc ?_ _)); refine blk_far ?_ NB261_271.out _; (with_reducible repeat (first | refine blk_drewN ?_ _ | refine blk_drew ?_ | refine blk_alloc ?_ _)); refine blk_far ?_ NB261_271.out _; exact blkt BK261) hb); replace BK262 := Aside0.mk (blk_below (g := gb262) (o := .cells #[.int .u64 a1_0, .int .u32 a1_1, .int .u32 a1_2] 28 (0, 0)) (by (with_reducible repeat (first | refine blk_drewN ?_ _ | refine blk_drew ?_ | refine blk_alloc ?_ _)); refine blk_far ?_ NB262_271.out _; (with_reducible repeat (first | refine blk_drewN ?_ _ | refine blk_drew ?_ | refine blk_alloc ?_ _)); refine blk_far ?_ NB262_271.out _; exact blkt BK262) hb); replace BK263 := Aside0.mk (blk_below (g := gb263) (o := .cells #[.int .u64 0, .int .i64 0, .int .u64 0, .int .u64 0, .int .i64 0] 33 (0, 0)) (by (with_reducible repeat (first | refine blk_drewN ?_ _ | refine blk_drew ?_ | refine blk_alloc ?_ _)); refine blk_far ?_ NB263_271.out _; (with_reducible repeat (first | refine blk_drewN ?_ _ | refine blk_drew ?_ | refine blk_alloc ?_ _)); refine blk_far ?_ NB263_271.out _; exact blkt BK263) hb); replace BK271 := Aside0.mk (blk_below (g := gb271) (o := .cells #[.int .i64 t268, .int .u64 t269] 31 (0, 0)) (by (with_reducible repeat (first | refine blk_drewN ?_ _ | refine blk_drew ?_ | refine blk_alloc ?_ _)); refine blk_put (cs := #[.int .i64 t268, .int .u64 0]) ?_ 1 _ rfl; (with_reducible repeat (first | refine blk_drewN ?_ _ | refine blk_drew ?_ | refine blk_alloc ?_ _)); refine blk_put (cs := #[.int .i64 0, .int .u64 0]) ?_ 0 _ rfl; exact blkt BK271) hb); replace HB := belb HB hb; clear hb hbox hg; have hnb115 := NB272_261.out; have hnc115 := NB261_272.out; have hnb116 := NB272_262.out; have hnc116 := NB262_272.out; have hnb117 := NB272_263.out; have hnc117 := NB263_272.out; have hnb118 := NB272_271.out; have hnc118 := NB271_272.out; have hcz119_0 : w114.cell? ⟨gb272, 0, none⟩ = some (.int .u64 0) := bc BK272 0; have hcz119_1 : w114.cell? ⟨gb272, 1, none⟩ = some (.int .i64 0) := bc BK272 1; have hcz119_2 : w114.cell? ⟨gb272, 2, none⟩ = some (.int .u64 0) := bc BK272 2; have hcz119_3 : w114.cell? ⟨gb272, 3, none⟩ = some (.int .u64 0) := bc BK272 3; have hcz119_4 : w114.cell? ⟨gb272, 4, none⟩ = some (.int .i64 0) := bc BK272 4; have hfz119_0 := blk_frozen BK272.out 0; have hfz119_1 := blk_frozen BK272.out 1; have hfz119_2 := blk_frozen BK272.out 2; have hfz119_3 := blk_frozen BK272.out 3; have hfz119_4 := blk_frozen BK272.out 4; have hcz120_0 : w114.cell? ⟨gb263, 0, none⟩ = some (.int .u64 0) := bc BK263 0; have hcz120_1 : w114.cell? ⟨gb263, 1, none⟩ = some (.int .i64 0) := bc BK263 1; have hcz120_2 : w114.cell? ⟨gb263, 2, none⟩ = some (.int .u64 0) := bc BK263 2; have hcz120_3 : w114.cell? ⟨gb263, 3, none⟩ = some (.int .u64 0) := bc BK263 3; have hcz120_4 : w114.cell? ⟨gb263, 4, none⟩ = some (.int .i64 0) := bc BK263 4; have hfz120_0 := blk_frozen BK263.out 0; have hfz120_1 := blk_frozen BK263.out 1; have hfz120_2 := blk_frozen BK263.out 2; have hfz120_3 := blk_frozen BK263.out 3; have hfz120_4 := blk_frozen BK263.out 4))
   refine bodyPost_ret (results_ct rfl _ _ gb263 33 #[.int .u64 0, .int .i64 0, .int .u64 0, .int .u64 0, .int .i64 0] (0, 0) _ rfl (by (with_reducible repeat (first | refine blk_drewN ?_ _ | refine blk_drew ?_ | refine blk_alloc ?_ _)); refine blk_put (cs := #[.int .u64 0, .int .i64 0, .int .u64 0, .int .u64 0, .int .i64 0]) ?_ 4 _ rfl; (with_reducible repeat (first | refine blk_drewN ?_ _ | refine blk_drew ?_ | refine blk_alloc ?_ _)); refine blk_put (cs := #[.int .u64 0, .int .i64 0, .int .u64 0, .int .u64 0, .int .i64 0]) ?_ 3 _ rfl; (with_reducible repeat (first | refine blk_drewN ?_ _ | refine blk_drew ?_ | refine blk_alloc ?_ _)); refine blk_put (cs := #[.int .u64 0, .int .i64 0, .int .u64 0, .int .u64 0, .int .i64 0]) ?_ 2 _ rfl; (with_reducible repeat (first | refine blk_drewN ?_ _ | refine blk_drew ?_ | refine blk_alloc ?_ _)); refine blk_put (cs := #[.int .u64 0, .int .i64 0, .int .u64 0, .int .u64 0, .int .i64 0]) ?_ 1 _ rfl; (with_reducible repeat (first | refine blk_drewN ?_ _ | refine blk_drew ?_ | refine blk_alloc ?_ _)); refine blk_put (cs := #[.int .u64 0, .int .i64 0, .int .u64 0, .int .u64 0, .int .i64 0]) ?_ 0 _ rfl; (with_reducible repeat (first | refine blk_drewN ?_ _ | refine blk_drew ?_ | refine blk_alloc ?_ _)); refine blk_far ?_ NB263_272.out _; (with_reducible repeat (first | refine blk_drewN ?_ _ | refine blk_drew ?_ | refine blk_alloc ?_ _)); refine blk_far ?_ NB263_272.out _; (with_reducible repeat (first | refine blk_drewN ?_ _ | refine blk_drew ?_ | refine blk_alloc ?_ _)); refine blk_far ?_ NB263_272.out _; (with_reducible repeat (first | refine blk_drewN ?_ _ | refine blk_drew ?_ | refine blk_alloc ?_ _)); refine blk_far ?_ NB263_272.out _; (with_reducible repeat (first | refine blk_drewN ?_ _ | refine blk_drew ?_ | refine blk_alloc ?_ _)); refine blk_far ?_ NB263_272.out _; exact blkt BK263) Tryz.underlying33 rfl (by kernel_rfl)) rfl ?_
   exact ⟨by first | rfl | (simp [errW_none, errW_some] <;> rfl) | (simp [*, errW_none, errW_some] <;> rfl), belt HB⟩

end Go.Proofs.YtfbkamgdkdnpoaaGreatDoor.Print
