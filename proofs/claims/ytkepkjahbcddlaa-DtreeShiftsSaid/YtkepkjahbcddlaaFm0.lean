/- What is told of the functions, shown: (turnstone/vtime.Time).Since, turnstone/pos.weight, (turnstone/pos.Pos).Right, (turnstone/item.Item).Right, turnstone/turnstonelaw07.Near, turnstone/rbtree.New[turnstone/item.Item,turnstone/item.Item], (turnstone/pos.Pos).Cmp, (turnstone/item.Item).Ahead, (*turnstone/rbtree.Tree[turnstone/item.Item, turnstone/item.Item]).Has, turnstone/dtree.itself, (turnstone/item.Item).Due, turnstone/item.Soonest, turnstone/dtree.sooner, (*turnstone/rbtree.Tree[turnstone/item.Item, turnstone/item.Item]).sum, (*turnstone/rbtree.node[turnstone/item.Item, turnstone/item.Item]).isRed, (*turnstone/rbtree.Tree[turnstone/item.Item, turnstone/item.Item]).toLeft. -/
import Derived.Test.YtkepkjahbcddlaaTab
namespace Go.Proofs.Ytkepkjahbcddlaa.Fn
open Go Go.RowKit Go.Proofs.Ytkepkjahbcddlaa.Sy
set_option linter.unusedVariables false
set_option linter.unusedSimpArgs false
set_option maxRecDepth 100000
def t23 : Tr :=
  .ok [.num (.wrap .i64 (.wrap .u64 (.bin .sub (.v 0 0) (.v 0 1))))]
theorem c23 : ConS Try.prog T C23 := con_tr (cs := []) (lcs := []) (known := []) (cons_nil _ _) (Known.nil _) (N := 400) (d := 40) (t := t23) (by kernel_rfl) <| by
  intro E hl hp
  clear hl
  clear hp
  simp only [t23, C23, Tr.good, Fact.den, DE.den, Dat.sub, LX.den, DX.ls, DV.ls, DX.den, Bx.den, Ex.den, eo_add, eo_sub, eo_mul, eo_quo, eo_rem, eo_fdv, eo_mn, eo_mx, eo_land, eo_lor, eo_lxor, eo_landn, eo_shl, eo_shr, dvs, flatS, SP.flat, ST.flat, List.map_cons, List.map_nil, List.append_nil, List.cons_append, List.nil_append, ltb_t, ltb_f, leb_t, leb_f, eqb_t, eqb_f, decide_eq_true_eq, decide_eq_false_iff_not, Bool.not_eq_true', Bool.not_eq_false', Bool.and_eq_true, Bool.and_eq_false_imp, beq_iff_eq, beq_eq_false_iff_ne, bne_iff_ne, U64, U32, I64, Big, W, wv, Told, s64, WT, PR, MR, MB, Int.zero_mul, Int.zero_add, Int.add_zero, Int.mul_zero, IntKind.wrap_u64, IntKind.wrap_i64, IntKind.wrap_u32, ne_eq, forall_const, true_implies, show T.rel 23 = R23 from rfl, R23]
  generalize (E.r 0).i 0 = t
  generalize (E.r 0).i 1 = u
  try simp only [mxI, mnI]
  try simp only [ltb, leb, eqb, Int.lt_irrefl, decide_false, Int.le_refl, decide_true]
  repeat' (first | intro _ | refine And.intro ?_ ?_ | refine Iff.intro ?_ ?_)
  all_goals first | omega | (simp_all; done) | (simp_all; omega)
end Go.Proofs.Ytkepkjahbcddlaa.Fn
namespace Go.Proofs.Ytkepkjahbcddlaa.Fn
open Go Go.RowKit Go.Proofs.Ytkepkjahbcddlaa.Sy
set_option linter.unusedVariables false
set_option linter.unusedSimpArgs false
set_option maxRecDepth 100000
def t50 : Tr :=
  .br (.f (.is (.le (.n 1) (.v 0 0)) true) <|
   .ok [.tru (.le (.v 0 0) (.n 1048576))])
  (.f (.is (.le (.n 1) (.v 0 0)) false) <|
   .ok [.tru (.lt (.n 0) (.n 0))])
theorem c50 : ConS Try.prog T C50 := con_tr (cs := []) (lcs := []) (known := []) (cons_nil _ _) (Known.nil _) (N := 400) (d := 40) (t := t50) (by kernel_rfl) <| by
  intro E hl hp
  clear hl
  clear hp
  simp only [t50, C50, Tr.good, Fact.den, DE.den, Dat.sub, LX.den, DX.ls, DV.ls, DX.den, Bx.den, Ex.den, eo_add, eo_sub, eo_mul, eo_quo, eo_rem, eo_fdv, eo_mn, eo_mx, eo_land, eo_lor, eo_lxor, eo_landn, eo_shl, eo_shr, dvs, flatS, SP.flat, ST.flat, List.map_cons, List.map_nil, List.append_nil, List.cons_append, List.nil_append, ltb_t, ltb_f, leb_t, leb_f, eqb_t, eqb_f, decide_eq_true_eq, decide_eq_false_iff_not, Bool.not_eq_true', Bool.not_eq_false', Bool.and_eq_true, Bool.and_eq_false_imp, beq_iff_eq, beq_eq_false_iff_ne, bne_iff_ne, U64, U32, I64, Big, W, wv, Told, s64, WT, PR, MR, MB, Int.zero_mul, Int.zero_add, Int.add_zero, Int.mul_zero, IntKind.wrap_u64, IntKind.wrap_i64, IntKind.wrap_u32, ne_eq, forall_const, true_implies, show T.rel 50 = R50 from rfl, R50]
  generalize (E.r 0).i 0 = w
  try simp only [mxI, mnI]
  try simp only [ltb, leb, eqb, Int.lt_irrefl, decide_false, Int.le_refl, decide_true]
  repeat' (first | intro _ | refine And.intro ?_ ?_ | refine Iff.intro ?_ ?_)
  all_goals first | omega | (simp_all; done) | (simp_all; omega)
end Go.Proofs.Ytkepkjahbcddlaa.Fn
namespace Go.Proofs.Ytkepkjahbcddlaa.Fn
open Go Go.RowKit Go.Proofs.Ytkepkjahbcddlaa.Sy
set_option linter.unusedVariables false
set_option linter.unusedSimpArgs false
set_option maxRecDepth 100000
def t36 : Tr :=
  .f (.rel 50 [.num (.v 0 2)] 65540 [.bool]) <|
   .br (.f (.is (.v 65540 0) true) <|
    .ok [.tru (.lt (.v 0 1) (.v 0 2))])
   (.f (.is (.v 65540 0) false) <|
    .ok [.tru (.lt (.n 0) (.n 0))])
theorem c36 : ConS Try.prog T C36 := con_tr (cs := [C50]) (lcs := []) (known := []) (cons_cons c50 (cons_nil _ _)) (Known.nil _) (N := 400) (d := 40) (t := t36) (by kernel_rfl) <| by
  intro E hl hp
  clear hl
  clear hp
  simp only [t36, C36, Tr.good, Fact.den, DE.den, Dat.sub, LX.den, DX.ls, DV.ls, DX.den, Bx.den, Ex.den, eo_add, eo_sub, eo_mul, eo_quo, eo_rem, eo_fdv, eo_mn, eo_mx, eo_land, eo_lor, eo_lxor, eo_landn, eo_shl, eo_shr, dvs, flatS, SP.flat, ST.flat, List.map_cons, List.map_nil, List.append_nil, List.cons_append, List.nil_append, ltb_t, ltb_f, leb_t, leb_f, eqb_t, eqb_f, decide_eq_true_eq, decide_eq_false_iff_not, Bool.not_eq_true', Bool.not_eq_false', Bool.and_eq_true, Bool.and_eq_false_imp, beq_iff_eq, beq_eq_false_iff_ne, bne_iff_ne, U64, U32, I64, Big, W, wv, Told, s64, WT, PR, MR, MB, Int.zero_mul, Int.zero_add, Int.add_zero, Int.mul_zero, IntKind.wrap_u64, IntKind.wrap_i64, IntKind.wrap_u32, ne_eq, forall_const, true_implies, show T.rel 36 = R36 from rfl, R36, show T.rel 50 = R50 from rfl, R50]
  generalize (E.r 0).i 0 = t
  generalize (E.r 0).i 1 = r
  generalize (E.r 0).i 2 = w
  generalize (E.r 65540).c 0 = x4_0
  try simp only [mxI, mnI]
  try simp only [ltb, leb, eqb, Int.lt_irrefl, decide_false, Int.le_refl, decide_true]
  repeat' (first | intro _ | refine And.intro ?_ ?_ | refine Iff.intro ?_ ?_)
  all_goals first | omega | (simp_all; done) | (simp_all; omega)
end Go.Proofs.Ytkepkjahbcddlaa.Fn
namespace Go.Proofs.Ytkepkjahbcddlaa.Fn
open Go Go.RowKit Go.Proofs.Ytkepkjahbcddlaa.Sy
set_option linter.unusedVariables false
set_option linter.unusedSimpArgs false
set_option maxRecDepth 100000
def t24 : Tr :=
  .f (.rel 23 [.num (.v 0 4), .num (.v 0 0)] 65544 [.int .i64]) <|
   .f (.rel 36 [.num (.v 0 0), .num (.v 0 1), .num (.v 0 2)] 65548 [.bool]) <|
    .br (.f (.is (.v 65548 0) true) <|
     .f (.rel 36 [.num (.v 0 4), .num (.v 0 5), .num (.v 0 6)] 65552 [.bool]) <|
      .br (.f (.is (.v 65552 0) true) <|
       .br (.f (.is (.eq (.v 0 2) (.v 0 6)) true) <|
        .br (.f (.is (.lt (.n 0) (.v 0 3)) true) <|
         .br (.f (.is (.le (.n 0) (.v 65544 0)) true) <|
          .ok [.tru (.le (.v 65544 0) (.n 1152921504606846976))])
         (.f (.is (.le (.n 0) (.v 65544 0)) false) <|
          .ok [.tru (.lt (.n 0) (.n 0))]))
        (.f (.is (.lt (.n 0) (.v 0 3)) false) <|
         .ok [.tru (.lt (.n 0) (.n 0))]))
       (.f (.is (.eq (.v 0 2) (.v 0 6)) false) <|
        .ok [.tru (.lt (.n 0) (.n 0))]))
      (.f (.is (.v 65552 0) false) <|
       .ok [.tru (.lt (.n 0) (.n 0))]))
    (.f (.is (.v 65548 0) false) <|
     .ok [.tru (.lt (.n 0) (.n 0))])
theorem c24 : ConS Try.prog T C24 := con_tr (cs := [C23, C36]) (lcs := []) (known := []) (cons_cons c23 (cons_cons c36 (cons_nil _ _))) (Known.nil _) (N := 400) (d := 40) (t := t24) (by kernel_rfl) <| by
  intro E hl hp
  clear hl
  have hp := hp rfl
  simp only [C24, show T.pre 24 = Q24 from rfl, flatS, SP.flat, dvs, List.append_nil, List.cons_append, List.nil_append, Q24, U64, U32, I64, Big, W, wv, s64, WT, PR, MR, MB] at hp
  simp only [t24, C24, Tr.good, Fact.den, DE.den, Dat.sub, LX.den, DX.ls, DV.ls, DX.den, Bx.den, Ex.den, eo_add, eo_sub, eo_mul, eo_quo, eo_rem, eo_fdv, eo_mn, eo_mx, eo_land, eo_lor, eo_lxor, eo_landn, eo_shl, eo_shr, dvs, flatS, SP.flat, ST.flat, List.map_cons, List.map_nil, List.append_nil, List.cons_append, List.nil_append, ltb_t, ltb_f, leb_t, leb_f, eqb_t, eqb_f, decide_eq_true_eq, decide_eq_false_iff_not, Bool.not_eq_true', Bool.not_eq_false', Bool.and_eq_true, Bool.and_eq_false_imp, beq_iff_eq, beq_eq_false_iff_ne, bne_iff_ne, U64, U32, I64, Big, W, wv, Told, s64, WT, PR, MR, MB, Int.zero_mul, Int.zero_add, Int.add_zero, Int.mul_zero, IntKind.wrap_u64, IntKind.wrap_i64, IntKind.wrap_u32, ne_eq, forall_const, true_implies, show T.rel 23 = R23 from rfl, R23, show T.rel 24 = R24 from rfl, R24, show T.rel 36 = R36 from rfl, R36, show T.pre 24 = Q24 from rfl, Q24]
  revert hp
  generalize (E.r 0).i 0 = t
  generalize (E.r 0).i 1 = r
  generalize (E.r 0).i 2 = w
  generalize (E.r 0).i 3 = id
  generalize (E.r 0).i 4 = dt
  generalize (E.r 0).i 5 = dr
  generalize (E.r 0).i 6 = dw
  generalize (E.r 65544).i 0 = x8_0
  generalize (E.r 65548).c 0 = x12_0
  generalize (E.r 65552).c 0 = x16_0
  try simp only [mxI, mnI]
  try simp only [ltb, leb, eqb, Int.lt_irrefl, decide_false, Int.le_refl, decide_true]
  repeat' (first | intro _ | refine And.intro ?_ ?_ | refine Iff.intro ?_ ?_)
  all_goals first | omega | (simp_all; done) | (simp_all; omega)
end Go.Proofs.Ytkepkjahbcddlaa.Fn
namespace Go.Proofs.Ytkepkjahbcddlaa.Fn
open Go Go.RowKit Go.Proofs.Ytkepkjahbcddlaa.Sy
set_option linter.unusedVariables false
set_option linter.unusedSimpArgs false
set_option maxRecDepth 100000
def t6 : Tr :=
  .f (.rel 23 [.num (.v 0 1), .num (.v 0 0)] 65553 [.int .i64]) <|
   .br (.f (.is (.le (.v 65553 0) (.n (-576460752303423488))) true) <|
    .ok [.tru (.lt (.n 0) (.n 0))])
   (.f (.is (.le (.v 65553 0) (.n (-576460752303423488))) false) <|
    .br (.f (.is (.le (.n 576460752303423488) (.v 65553 0)) true) <|
     .ok [.tru (.lt (.n 0) (.n 0))])
    (.f (.is (.le (.n 576460752303423488) (.v 65553 0)) false) <|
     .f (.rel 23 [.num (.v 0 5), .num (.v 0 0)] 65571 [.int .i64]) <|
      .br (.f (.is (.le (.v 65571 0) (.n (-576460752303423488))) true) <|
       .ok [.tru (.lt (.n 0) (.n 0))])
      (.f (.is (.le (.v 65571 0) (.n (-576460752303423488))) false) <|
       .br (.f (.is (.le (.n 576460752303423488) (.v 65571 0)) true) <|
        .ok [.tru (.lt (.n 0) (.n 0))])
       (.f (.is (.le (.n 576460752303423488) (.v 65571 0)) false) <|
        .br (.f (.rel 24 [.num (.v 0 1), .num (.v 0 2), .num (.v 0 3), .num (.v 0 4), .num (.v 0 5), .num (.v 0 6), .num (.v 0 7)] 65583 [.bool]) <|
         .ok [.tru (.v 65583 0)])
        (.f (.npre 24 [.num (.v 0 1), .num (.v 0 2), .num (.v 0 3), .num (.v 0 4), .num (.v 0 5), .num (.v 0 6), .num (.v 0 7)]) <|
         .bad)))))
theorem c6 : ConS Try.prog T C6 := con_tr (cs := [C23, C24]) (lcs := []) (known := []) (cons_cons c23 (cons_cons c24 (cons_nil _ _))) (Known.nil _) (N := 400) (d := 40) (t := t6) (by kernel_rfl) <| by
  intro E hl hp
  clear hl
  have hp := hp rfl
  simp only [C6, show T.pre 6 = Q6 from rfl, flatS, SP.flat, dvs, List.append_nil, List.cons_append, List.nil_append, Q6, U64, U32, I64, Big, W, wv, s64, WT, PR, MR, MB] at hp
  simp only [t6, C6, Tr.good, Fact.den, DE.den, Dat.sub, LX.den, DX.ls, DV.ls, DX.den, Bx.den, Ex.den, eo_add, eo_sub, eo_mul, eo_quo, eo_rem, eo_fdv, eo_mn, eo_mx, eo_land, eo_lor, eo_lxor, eo_landn, eo_shl, eo_shr, dvs, flatS, SP.flat, ST.flat, List.map_cons, List.map_nil, List.append_nil, List.cons_append, List.nil_append, ltb_t, ltb_f, leb_t, leb_f, eqb_t, eqb_f, decide_eq_true_eq, decide_eq_false_iff_not, Bool.not_eq_true', Bool.not_eq_false', Bool.and_eq_true, Bool.and_eq_false_imp, beq_iff_eq, beq_eq_false_iff_ne, bne_iff_ne, U64, U32, I64, Big, W, wv, Told, s64, WT, PR, MR, MB, Int.zero_mul, Int.zero_add, Int.add_zero, Int.mul_zero, IntKind.wrap_u64, IntKind.wrap_i64, IntKind.wrap_u32, ne_eq, forall_const, true_implies, show T.rel 6 = R6 from rfl, R6, show T.rel 23 = R23 from rfl, R23, show T.rel 24 = R24 from rfl, R24, show T.pre 6 = Q6 from rfl, Q6, show T.pre 24 = Q24 from rfl, Q24]
  revert hp
  generalize (E.r 0).i 0 = at_
  generalize (E.r 0).i 1 = t
  generalize (E.r 0).i 2 = r
  generalize (E.r 0).i 3 = w
  generalize (E.r 0).i 4 = i
  generalize (E.r 0).i 5 = dt
  generalize (E.r 0).i 6 = dr
  generalize (E.r 0).i 7 = dw
  generalize (E.r 65553).i 0 = x17_0
  generalize (E.r 65571).i 0 = x35_0
  generalize (E.r 65583).c 0 = x47_0
  try simp only [mxI, mnI]
  try simp only [ltb, leb, eqb, Int.lt_irrefl, decide_false, Int.le_refl, decide_true]
  rintro ⟨h0, hk⟩ e1
  obtain ⟨a0, a1, a2, a3, a4, a5⟩ := K7_mk.1 hk
  refine ⟨fun _ h => h.elim, fun c1 => ⟨fun _ h => h.elim, fun c2 e2 => ⟨fun _ h => h.elim, fun c3 => ⟨fun _ h => h.elim, fun c4 => ⟨fun q h => ?_, fun n => n ⟨a0, a1, a2, a3, a4, a5⟩⟩⟩⟩⟩⟩
  obtain ⟨⟨b1, _, _⟩, ⟨b2, _, _⟩, _⟩ := q.1 h
  have f1 : s64 (t - at_) = x17_0 := e1.symm
  have f2 : s64 (dt - at_) = x35_0 := e2.symm
  have g1 : -576460752303423488 < s64 (t - at_) ∧ s64 (t - at_) < 576460752303423488 := by rw [f1]; omega
  have g2 : -576460752303423488 < s64 (dt - at_) ∧ s64 (dt - at_) < 576460752303423488 := by rw [f2]; omega
  exact ⟨hk, show 0 < w by omega, show 0 < dw by omega, g1, g2⟩
end Go.Proofs.Ytkepkjahbcddlaa.Fn
namespace Go.Proofs.Ytkepkjahbcddlaa.Fn
open Go Go.RowKit Go.Proofs.Ytkepkjahbcddlaa.Sy
set_option linter.unusedVariables false
set_option linter.unusedSimpArgs false
set_option maxRecDepth 100000
def t25 : Tr :=
  .ok [.obj (.nd 65541 [.n 0] [] (.nil) (.nil))]
theorem c25 : ConS Try.prog T C25 := con_tr (cs := []) (lcs := []) (known := []) (cons_nil _ _) (Known.nil _) (N := 400) (d := 40) (t := t25) (by kernel_rfl) <| by
  intro E hl hp
  clear hl
  clear hp
  simp only [t25, C25, Tr.good, Fact.den, DE.den, Dat.sub, LX.den, DX.ls, DV.ls, DX.den, Bx.den, Ex.den, eo_add, eo_sub, eo_mul, eo_quo, eo_rem, eo_fdv, eo_mn, eo_mx, eo_land, eo_lor, eo_lxor, eo_landn, eo_shl, eo_shr, dvs, flatS, SP.flat, ST.flat, List.map_cons, List.map_nil, List.append_nil, List.cons_append, List.nil_append, ltb_t, ltb_f, leb_t, leb_f, eqb_t, eqb_f, decide_eq_true_eq, decide_eq_false_iff_not, Bool.not_eq_true', Bool.not_eq_false', Bool.and_eq_true, Bool.and_eq_false_imp, beq_iff_eq, beq_eq_false_iff_ne, bne_iff_ne, U64, U32, I64, Big, W, wv, Told, s64, WT, PR, MR, MB, Int.zero_mul, Int.zero_add, Int.add_zero, Int.mul_zero, IntKind.wrap_u64, IntKind.wrap_i64, IntKind.wrap_u32, ne_eq, forall_const, true_implies, show T.rel 25 = R25 from rfl, R25]
  try simp only [mxI, mnI]
  try simp only [ltb, leb, eqb, Int.lt_irrefl, decide_false, Int.le_refl, decide_true]
  exact ⟨rfl, rfl, rfl⟩
end Go.Proofs.Ytkepkjahbcddlaa.Fn
namespace Go.Proofs.Ytkepkjahbcddlaa.Fn
open Go Go.RowKit Go.Proofs.Ytkepkjahbcddlaa.Sy
set_option linter.unusedVariables false
set_option linter.unusedSimpArgs false
set_option maxRecDepth 100000
def t30 : Tr :=
  .f (.rel 23 [.num (.v 0 3), .num (.v 0 0)] 65543 [.int .i64]) <|
   .br (.f (.is (.lt (.n 0) (.v 65543 0)) true) <|
    .br (.f (.is (.lt (.wrap .u64 (.bin .mul (.wrap .u64 (.v 0 1)) (.wrap .u64 (.v 0 5)))) (.wrap .u64 (.bin .mul (.wrap .u64 (.v 0 4)) (.wrap .u64 (.v 0 2))))) true) <|
     .ok [.num (.n (-1))])
    (.f (.is (.lt (.wrap .u64 (.bin .mul (.wrap .u64 (.v 0 1)) (.wrap .u64 (.v 0 5)))) (.wrap .u64 (.bin .mul (.wrap .u64 (.v 0 4)) (.wrap .u64 (.v 0 2))))) false) <|
     .br (.f (.is (.lt (.wrap .u64 (.bin .mul (.wrap .u64 (.v 0 4)) (.wrap .u64 (.v 0 2)))) (.wrap .u64 (.bin .mul (.wrap .u64 (.v 0 1)) (.wrap .u64 (.v 0 5))))) true) <|
      .ok [.num (.n (-1))])
     (.f (.is (.lt (.wrap .u64 (.bin .mul (.wrap .u64 (.v 0 4)) (.wrap .u64 (.v 0 2)))) (.wrap .u64 (.bin .mul (.wrap .u64 (.v 0 1)) (.wrap .u64 (.v 0 5))))) false) <|
      .ok [.num (.n (-1))])))
   (.f (.is (.lt (.n 0) (.v 65543 0)) false) <|
    .br (.f (.is (.lt (.v 65543 0) (.n 0)) true) <|
     .br (.f (.is (.lt (.wrap .u64 (.bin .mul (.wrap .u64 (.v 0 1)) (.wrap .u64 (.v 0 5)))) (.wrap .u64 (.bin .mul (.wrap .u64 (.v 0 4)) (.wrap .u64 (.v 0 2))))) true) <|
      .ok [.num (.n 1)])
     (.f (.is (.lt (.wrap .u64 (.bin .mul (.wrap .u64 (.v 0 1)) (.wrap .u64 (.v 0 5)))) (.wrap .u64 (.bin .mul (.wrap .u64 (.v 0 4)) (.wrap .u64 (.v 0 2))))) false) <|
      .br (.f (.is (.lt (.wrap .u64 (.bin .mul (.wrap .u64 (.v 0 4)) (.wrap .u64 (.v 0 2)))) (.wrap .u64 (.bin .mul (.wrap .u64 (.v 0 1)) (.wrap .u64 (.v 0 5))))) true) <|
       .ok [.num (.n 1)])
      (.f (.is (.lt (.wrap .u64 (.bin .mul (.wrap .u64 (.v 0 4)) (.wrap .u64 (.v 0 2)))) (.wrap .u64 (.bin .mul (.wrap .u64 (.v 0 1)) (.wrap .u64 (.v 0 5))))) false) <|
       .ok [.num (.n 1)])))
    (.f (.is (.lt (.v 65543 0) (.n 0)) false) <|
     .br (.f (.is (.lt (.wrap .u64 (.bin .mul (.wrap .u64 (.v 0 1)) (.wrap .u64 (.v 0 5)))) (.wrap .u64 (.bin .mul (.wrap .u64 (.v 0 4)) (.wrap .u64 (.v 0 2))))) true) <|
      .ok [.num (.n (-1))])
     (.f (.is (.lt (.wrap .u64 (.bin .mul (.wrap .u64 (.v 0 1)) (.wrap .u64 (.v 0 5)))) (.wrap .u64 (.bin .mul (.wrap .u64 (.v 0 4)) (.wrap .u64 (.v 0 2))))) false) <|
      .br (.f (.is (.lt (.wrap .u64 (.bin .mul (.wrap .u64 (.v 0 4)) (.wrap .u64 (.v 0 2)))) (.wrap .u64 (.bin .mul (.wrap .u64 (.v 0 1)) (.wrap .u64 (.v 0 5))))) true) <|
       .ok [.num (.n 1)])
      (.f (.is (.lt (.wrap .u64 (.bin .mul (.wrap .u64 (.v 0 4)) (.wrap .u64 (.v 0 2)))) (.wrap .u64 (.bin .mul (.wrap .u64 (.v 0 1)) (.wrap .u64 (.v 0 5))))) false) <|
       .ok [.num (.n 0)]))))
theorem c30 : ConS Try.prog T C30 := con_tr (cs := [C23]) (lcs := []) (known := []) (cons_cons c23 (cons_nil _ _)) (Known.nil _) (N := 400) (d := 40) (t := t30) (by kernel_rfl) <| by
  intro E hl hp
  clear hl
  have hp := hp rfl
  simp only [C30, show T.pre 30 = Q30 from rfl, flatS, SP.flat, dvs, List.append_nil, List.cons_append, List.nil_append, Q30, U64, U32, I64, Big, W, wv, s64, WT, PR, MR, MB] at hp
  simp only [t30, C30, Tr.good, Fact.den, DE.den, Dat.sub, LX.den, DX.ls, DV.ls, DX.den, Bx.den, Ex.den, eo_add, eo_sub, eo_mul, eo_quo, eo_rem, eo_fdv, eo_mn, eo_mx, eo_land, eo_lor, eo_lxor, eo_landn, eo_shl, eo_shr, dvs, flatS, SP.flat, ST.flat, List.map_cons, List.map_nil, List.append_nil, List.cons_append, List.nil_append, ltb_t, ltb_f, leb_t, leb_f, eqb_t, eqb_f, decide_eq_true_eq, decide_eq_false_iff_not, Bool.not_eq_true', Bool.not_eq_false', Bool.and_eq_true, Bool.and_eq_false_imp, beq_iff_eq, beq_eq_false_iff_ne, bne_iff_ne, U64, U32, I64, Big, W, wv, Told, s64, WT, PR, MR, MB, Int.zero_mul, Int.zero_add, Int.add_zero, Int.mul_zero, IntKind.wrap_u64, IntKind.wrap_i64, IntKind.wrap_u32, ne_eq, forall_const, true_implies, show T.rel 23 = R23 from rfl, R23, show T.rel 30 = R30 from rfl, R30, show T.pre 30 = Q30 from rfl, Q30]
  revert hp
  generalize (E.r 0).i 0 = t
  generalize (E.r 0).i 1 = r
  generalize (E.r 0).i 2 = w
  generalize (E.r 0).i 3 = u
  generalize (E.r 0).i 4 = q
  generalize (E.r 0).i 5 = v
  generalize (E.r 65543).i 0 = x7_0
  try simp only [mxI, mnI]
  try simp only [ltb, leb, eqb, Int.lt_irrefl, decide_false, Int.le_refl, decide_true]
  intro hp
  simp only [show r % 18446744073709551616 = r by omega, show w % 18446744073709551616 = w by omega, show q % 18446744073709551616 = q by omega, show v % 18446744073709551616 = v by omega]
  have p1 := mul_below (a := r) (b := v) (c := 4294967295) (d := 4294967295) (by omega) (by omega) (by omega) (by omega)
  have p2 := mul_below (a := q) (b := w) (c := 4294967295) (d := 4294967295) (by omega) (by omega) (by omega) (by omega)
  generalize r * v = a at *
  generalize q * w = b at *
  repeat' (first | intro _ | refine And.intro ?_ ?_ | refine Iff.intro ?_ ?_)
  all_goals first | omega | (simp_all; done) | (simp_all; omega)
end Go.Proofs.Ytkepkjahbcddlaa.Fn
namespace Go.Proofs.Ytkepkjahbcddlaa.Fn
open Go Go.RowKit Go.Proofs.Ytkepkjahbcddlaa.Sy
set_option linter.unusedVariables false
set_option linter.unusedSimpArgs false
set_option maxRecDepth 100000
def t10 : Tr :=
  .br (.f (.rel 30 [.num (.v 0 0), .num (.v 0 1), .num (.v 0 2), .num (.v 0 7), .num (.v 0 8), .num (.v 0 9)] 65543 [.int .i64]) <|
   .br (.f (.is (.lt (.v 65543 0) (.n 0)) true) <|
    .ok [.tru (.le (.n 0) (.n 0))])
   (.f (.is (.lt (.v 65543 0) (.n 0)) false) <|
    .br (.f (.is (.eq (.v 65543 0) (.n 0)) true) <|
     .ok [.tru (.lt (.v 0 3) (.v 0 10))])
    (.f (.is (.eq (.v 65543 0) (.n 0)) false) <|
     .ok [.tru (.lt (.n 0) (.n 0))])))
  (.f (.npre 30 [.num (.v 0 0), .num (.v 0 1), .num (.v 0 2), .num (.v 0 7), .num (.v 0 8), .num (.v 0 9)]) <|
   .bad)
theorem c10 : ConS Try.prog T C10 := con_tr (cs := [C30]) (lcs := []) (known := []) (cons_cons c30 (cons_nil _ _)) (Known.nil _) (N := 400) (d := 40) (t := t10) (by kernel_rfl) <| by
  intro E hl hp
  clear hl
  have hp := hp rfl
  simp only [C10, show T.pre 10 = Q10 from rfl, flatS, SP.flat, dvs, List.append_nil, List.cons_append, List.nil_append, Q10, U64, U32, I64, Big, W, wv, s64, WT, PR, MR, MB] at hp
  simp only [t10, C10, Tr.good, Fact.den, DE.den, Dat.sub, LX.den, DX.ls, DV.ls, DX.den, Bx.den, Ex.den, eo_add, eo_sub, eo_mul, eo_quo, eo_rem, eo_fdv, eo_mn, eo_mx, eo_land, eo_lor, eo_lxor, eo_landn, eo_shl, eo_shr, dvs, flatS, SP.flat, ST.flat, List.map_cons, List.map_nil, List.append_nil, List.cons_append, List.nil_append, ltb_t, ltb_f, leb_t, leb_f, eqb_t, eqb_f, decide_eq_true_eq, decide_eq_false_iff_not, Bool.not_eq_true', Bool.not_eq_false', Bool.and_eq_true, Bool.and_eq_false_imp, beq_iff_eq, beq_eq_false_iff_ne, bne_iff_ne, U64, U32, I64, Big, W, wv, Told, s64, WT, PR, MR, MB, Int.zero_mul, Int.zero_add, Int.add_zero, Int.mul_zero, IntKind.wrap_u64, IntKind.wrap_i64, IntKind.wrap_u32, ne_eq, forall_const, true_implies, show T.rel 10 = R10 from rfl, R10, show T.rel 30 = R30 from rfl, R30, show T.pre 10 = Q10 from rfl, Q10, show T.pre 30 = Q30 from rfl, Q30]
  revert hp
  generalize (E.r 0).i 0 = t
  generalize (E.r 0).i 1 = r
  generalize (E.r 0).i 2 = w
  generalize (E.r 0).i 3 = i
  generalize (E.r 0).i 4 = dt
  generalize (E.r 0).i 5 = dr
  generalize (E.r 0).i 6 = dw
  generalize (E.r 0).i 7 = u
  generalize (E.r 0).i 8 = q
  generalize (E.r 0).i 9 = v
  generalize (E.r 0).i 10 = j
  generalize (E.r 0).i 11 = du
  generalize (E.r 0).i 12 = dq
  generalize (E.r 0).i 13 = dv
  generalize (E.r 65543).i 0 = x7_0
  try simp only [mxI, mnI]
  try simp only [ltb, leb, eqb, Int.lt_irrefl, decide_false, Int.le_refl, decide_true]
  intro hp
  simp only [AHI]
  refine ⟨fun e => ?_, fun n => n hp⟩
  have c := pcI_of e
  rw [← c]
  clear e c
  repeat' (first | assumption | (intro (h : _ ∧ _); obtain ⟨h1, h2⟩ := h; (first | (subst h1; revert h2) | revert h1 h2)) | (intro h; (first | subst h | skip)) | refine And.intro ?_ ?_)
  all_goals try (show False; refine absurd ?_ ‹¬ _›)
  all_goals repeat' (first | assumption | refine And.intro ?_ ?_)
  all_goals first | omega | grind
end Go.Proofs.Ytkepkjahbcddlaa.Fn
namespace Go.Proofs.Ytkepkjahbcddlaa.Fn
open Go Go.RowKit Go.Proofs.Ytkepkjahbcddlaa.Sy
set_option linter.unusedVariables false
set_option linter.unusedSimpArgs false
set_option maxRecDepth 100000
def t38 : Tr :=
  .br (.f (.is (.nil 0 0 []) true) <|
   .ok [.tru (.lt (.n 0) (.n 0))])
  (.f (.is (.nil 0 0 []) false) <|
   .br (.f (.rel 103804 [.num (.v 0 1), .num (.v 0 2), .num (.v 0 3), .num (.v 0 4), .num (.v 0 5), .num (.v 0 6), .num (.v 0 7), .obj (.at 0 0 [false])] 65545 [.vw 0]) <|
    .br (.f (.is (.nil 65545 0 []) false) <|
     .br (.f (.rel 10 [.num (.v 0 1), .num (.v 0 2), .num (.v 0 3), .num (.v 0 4), .num (.v 0 5), .num (.v 0 6), .num (.v 0 7), .num (.fld 65545 0 [] 0), .num (.fld 65545 0 [] 1), .num (.fld 65545 0 [] 2), .num (.fld 65545 0 [] 3), .num (.fld 65545 0 [] 4), .num (.fld 65545 0 [] 5), .num (.fld 65545 0 [] 6)] 65557 [.bool]) <|
      .br (.f (.is (.v 65557 0) false) <|
       .br (.f (.rel 10 [.num (.fld 65545 0 [] 0), .num (.fld 65545 0 [] 1), .num (.fld 65545 0 [] 2), .num (.fld 65545 0 [] 3), .num (.fld 65545 0 [] 4), .num (.fld 65545 0 [] 5), .num (.fld 65545 0 [] 6), .num (.v 0 1), .num (.v 0 2), .num (.v 0 3), .num (.v 0 4), .num (.v 0 5), .num (.v 0 6), .num (.v 0 7)] 65568 [.bool]) <|
        .br (.f (.is (.v 65568 0) false) <|
         .ok [.tru (.le (.n 0) (.n 0))])
        (.f (.is (.v 65568 0) true) <|
         .br (.f (.nrel 103804 [.num (.v 0 1), .num (.v 0 2), .num (.v 0 3), .num (.v 0 4), .num (.v 0 5), .num (.v 0 6), .num (.v 0 7), .obj (.at 0 0 [false])] [.obj (.at 65545 0 [true])]) <|
          .bad)
         (.f (.ndec 103804 [.num (.v 0 1), .num (.v 0 2), .num (.v 0 3), .num (.v 0 4), .num (.v 0 5), .num (.v 0 6), .num (.v 0 7), .obj (.at 0 0 [false])] [.obj (.at 65545 0 [])] [.obj (.at 65545 0 [true])]) <|
          .bad)))
       (.f (.npre 10 [.num (.fld 65545 0 [] 0), .num (.fld 65545 0 [] 1), .num (.fld 65545 0 [] 2), .num (.fld 65545 0 [] 3), .num (.fld 65545 0 [] 4), .num (.fld 65545 0 [] 5), .num (.fld 65545 0 [] 6), .num (.v 0 1), .num (.v 0 2), .num (.v 0 3), .num (.v 0 4), .num (.v 0 5), .num (.v 0 6), .num (.v 0 7)]) <|
        .bad))
      (.f (.is (.v 65557 0) true) <|
       .br (.f (.nrel 103804 [.num (.v 0 1), .num (.v 0 2), .num (.v 0 3), .num (.v 0 4), .num (.v 0 5), .num (.v 0 6), .num (.v 0 7), .obj (.at 0 0 [false])] [.obj (.at 65545 0 [false])]) <|
        .bad)
       (.f (.ndec 103804 [.num (.v 0 1), .num (.v 0 2), .num (.v 0 3), .num (.v 0 4), .num (.v 0 5), .num (.v 0 6), .num (.v 0 7), .obj (.at 0 0 [false])] [.obj (.at 65545 0 [])] [.obj (.at 65545 0 [false])]) <|
        .bad)))
     (.f (.npre 10 [.num (.v 0 1), .num (.v 0 2), .num (.v 0 3), .num (.v 0 4), .num (.v 0 5), .num (.v 0 6), .num (.v 0 7), .num (.fld 65545 0 [] 0), .num (.fld 65545 0 [] 1), .num (.fld 65545 0 [] 2), .num (.fld 65545 0 [] 3), .num (.fld 65545 0 [] 4), .num (.fld 65545 0 [] 5), .num (.fld 65545 0 [] 6)]) <|
      .bad))
    (.f (.is (.nil 65545 0 []) true) <|
     .ok [.tru (.lt (.n 0) (.n 0))]))
   (.f (.nrel 103804 [.num (.v 0 1), .num (.v 0 2), .num (.v 0 3), .num (.v 0 4), .num (.v 0 5), .num (.v 0 6), .num (.v 0 7), .obj (.at 0 0 [false])] [.obj (.at 0 0 [false])]) <|
    .bad))
theorem c38 : ConS Try.prog T C38 := con_tr (cs := [C10]) (lcs := [L103804]) (known := []) (cons_cons c10 (cons_nil _ _)) (Known.nil _) (N := 400) (d := 40) (t := t38) (by kernel_rfl) <| by
  intro E hl hp
  clear hl
  have hp := hp rfl
  simp only [C38, show T.pre 38 = Q38 from rfl, flatS, SP.flat, dvs, List.append_nil, List.cons_append, List.nil_append, Q38, U64, U32, I64, Big, W, wv, s64, WT, PR, MR, MB] at hp
  simp only [t38, C38, Tr.good, Fact.den, DE.den, Dat.sub, LX.den, DX.ls, DV.ls, DX.den, Bx.den, Ex.den, eo_add, eo_sub, eo_mul, eo_quo, eo_rem, eo_fdv, eo_mn, eo_mx, eo_land, eo_lor, eo_lxor, eo_landn, eo_shl, eo_shr, dvs, flatS, SP.flat, ST.flat, List.map_cons, List.map_nil, List.append_nil, List.cons_append, List.nil_append, ltb_t, ltb_f, leb_t, leb_f, eqb_t, eqb_f, decide_eq_true_eq, decide_eq_false_iff_not, Bool.not_eq_true', Bool.not_eq_false', Bool.and_eq_true, Bool.and_eq_false_imp, beq_iff_eq, beq_eq_false_iff_ne, bne_iff_ne, U64, U32, I64, Big, W, wv, Told, s64, WT, PR, MR, MB, Int.zero_mul, Int.zero_add, Int.add_zero, Int.mul_zero, IntKind.wrap_u64, IntKind.wrap_i64, IntKind.wrap_u32, ne_eq, forall_const, true_implies, show T.rel 10 = R10 from rfl, R10, show T.rel 38 = R38 from rfl, R38, show T.rel 103804 = R103804 from rfl, R103804, show T.mu 103804 = M103804 from rfl, M103804, show T.pre 10 = Q10 from rfl, Q10, show T.pre 38 = Q38 from rfl, Q38]
  revert hp
  generalize (E.r 0).t 0 = t
  generalize (E.r 0).i 1 = x0
  generalize (E.r 0).i 2 = x1
  generalize (E.r 0).i 3 = x2
  generalize (E.r 0).i 4 = x3
  generalize (E.r 0).i 5 = x4
  generalize (E.r 0).i 6 = x5
  generalize (E.r 0).i 7 = x6
  generalize (E.r 65545).t 0 = x9_0
  generalize (E.r 65557).c 0 = x21_0
  generalize (E.r 65568).c 0 = x32_0
  try simp only [mxI, mnI]
  try simp only [ltb, leb, eqb, Int.lt_irrefl, decide_false, Int.le_refl, decide_true]
  rintro ⟨hK, hx⟩
  obtain ⟨_, a1, a2, _⟩ := K7_mk.1 hx
  refine ⟨fun h => ?_, fun h => ⟨fun ⟨k, e⟩ => ⟨fun l => ?_, fun l => ?_⟩, fun n => n ⟨hK, trivial⟩⟩⟩
  · cases t with
    | leaf => rfl
    | nd b ns bs l r => cases h
  · rw [← e]
    simp only [kL, kR]
    rw [sh_nd l] at k ⊢
    obtain ⟨k1, k2, k3, k4⟩ := k
    obtain ⟨_, b1, b2, _⟩ := K7_it.1 k1
    simp only [ItT.has, ItT.left, ItT.right, ItT.size]
    refine ⟨fun q => ⟨fun c => ⟨fun q2 => ⟨fun c2 => ?_, fun c2 => ⟨fun n => n ⟨k4, ?_⟩, fun n => n ?_⟩⟩, fun n => n ⟨b1, b2, a1, a2⟩⟩, fun c => ⟨fun n => n ⟨k3, ?_⟩, fun n => n ?_⟩⟩, fun n => n ⟨a1, a2, b1, b2⟩⟩
    · rw [if_neg (fun h => by rw [q.2 (AHR_it.1 h)] at c; cases c), if_neg (fun h => by rw [q2.2 (AHR_ti.1 h)] at c2; cases c2)]
    · rw [if_neg (fun h => by rw [q.2 (AHR_it.1 h)] at c; cases c), if_pos (AHR_ti.2 (q2.1 c2))]
    · omega
    · rw [if_pos (AHR_it.2 (q.1 c))]
    · omega
  · rw [← e, sh_leaf l]; rfl
end Go.Proofs.Ytkepkjahbcddlaa.Fn
namespace Go.Proofs.Ytkepkjahbcddlaa.Fn
open Go Go.RowKit Go.Proofs.Ytkepkjahbcddlaa.Sy
set_option linter.unusedVariables false
set_option linter.unusedSimpArgs false
set_option maxRecDepth 100000
def t26 : Tr :=
  .ok [.num (.v 0 0), .num (.v 0 1), .num (.v 0 2), .num (.v 0 3), .num (.v 0 4), .num (.v 0 5), .num (.v 0 6)]
theorem c26 : ConS Try.prog T C26 := con_tr (cs := []) (lcs := []) (known := []) (cons_nil _ _) (Known.nil _) (N := 400) (d := 40) (t := t26) (by kernel_rfl) <| by
  intro E hl hp
  clear hl
  clear hp
  simp only [t26, C26, Tr.good, Fact.den, DE.den, Dat.sub, LX.den, DX.ls, DV.ls, DX.den, Bx.den, Ex.den, eo_add, eo_sub, eo_mul, eo_quo, eo_rem, eo_fdv, eo_mn, eo_mx, eo_land, eo_lor, eo_lxor, eo_landn, eo_shl, eo_shr, dvs, flatS, SP.flat, ST.flat, List.map_cons, List.map_nil, List.append_nil, List.cons_append, List.nil_append, ltb_t, ltb_f, leb_t, leb_f, eqb_t, eqb_f, decide_eq_true_eq, decide_eq_false_iff_not, Bool.not_eq_true', Bool.not_eq_false', Bool.and_eq_true, Bool.and_eq_false_imp, beq_iff_eq, beq_eq_false_iff_ne, bne_iff_ne, U64, U32, I64, Big, W, wv, Told, s64, WT, PR, MR, MB, Int.zero_mul, Int.zero_add, Int.add_zero, Int.mul_zero, IntKind.wrap_u64, IntKind.wrap_i64, IntKind.wrap_u32, ne_eq, forall_const, true_implies, show T.rel 26 = R26 from rfl, R26]
  generalize (E.r 0).i 0 = t
  generalize (E.r 0).i 1 = r
  generalize (E.r 0).i 2 = w
  generalize (E.r 0).i 3 = i
  generalize (E.r 0).i 4 = dt
  generalize (E.r 0).i 5 = dr
  generalize (E.r 0).i 6 = dw
  try simp only [mxI, mnI]
  try simp only [ltb, leb, eqb, Int.lt_irrefl, decide_false, Int.le_refl, decide_true]
  simp
end Go.Proofs.Ytkepkjahbcddlaa.Fn
namespace Go.Proofs.Ytkepkjahbcddlaa.Fn
open Go Go.RowKit Go.Proofs.Ytkepkjahbcddlaa.Sy
set_option linter.unusedVariables false
set_option linter.unusedSimpArgs false
set_option maxRecDepth 100000
def t12 : Tr :=
  .br (.f (.rel 30 [.num (.v 0 4), .num (.v 0 5), .num (.v 0 6), .num (.v 0 11), .num (.v 0 12), .num (.v 0 13)] 65543 [.int .i64]) <|
   .br (.f (.is (.lt (.v 65543 0) (.n 0)) true) <|
    .ok [.tru (.le (.n 0) (.n 0))])
   (.f (.is (.lt (.v 65543 0) (.n 0)) false) <|
    .br (.f (.is (.eq (.v 65543 0) (.n 0)) true) <|
     .br (.f (.rel 10 [.num (.v 0 0), .num (.v 0 1), .num (.v 0 2), .num (.v 0 3), .num (.v 0 4), .num (.v 0 5), .num (.v 0 6), .num (.v 0 7), .num (.v 0 8), .num (.v 0 9), .num (.v 0 10), .num (.v 0 11), .num (.v 0 12), .num (.v 0 13)] 65553 [.bool]) <|
      .ok [.tru (.v 65553 0)])
     (.f (.npre 10 [.num (.v 0 0), .num (.v 0 1), .num (.v 0 2), .num (.v 0 3), .num (.v 0 4), .num (.v 0 5), .num (.v 0 6), .num (.v 0 7), .num (.v 0 8), .num (.v 0 9), .num (.v 0 10), .num (.v 0 11), .num (.v 0 12), .num (.v 0 13)]) <|
      .bad))
    (.f (.is (.eq (.v 65543 0) (.n 0)) false) <|
     .ok [.tru (.lt (.n 0) (.n 0))])))
  (.f (.npre 30 [.num (.v 0 4), .num (.v 0 5), .num (.v 0 6), .num (.v 0 11), .num (.v 0 12), .num (.v 0 13)]) <|
   .bad)
theorem c12 : ConS Try.prog T C12 := con_tr (cs := [C10, C30]) (lcs := []) (known := []) (cons_cons c10 (cons_cons c30 (cons_nil _ _))) (Known.nil _) (N := 400) (d := 40) (t := t12) (by kernel_rfl) <| by
  intro E hl hp
  clear hl
  have hp := hp rfl
  simp only [C12, show T.pre 12 = Q12 from rfl, flatS, SP.flat, dvs, List.append_nil, List.cons_append, List.nil_append, Q12, U64, U32, I64, Big, W, wv, s64, WT, PR, MR, MB] at hp
  simp only [t12, C12, Tr.good, Fact.den, DE.den, Dat.sub, LX.den, DX.ls, DV.ls, DX.den, Bx.den, Ex.den, eo_add, eo_sub, eo_mul, eo_quo, eo_rem, eo_fdv, eo_mn, eo_mx, eo_land, eo_lor, eo_lxor, eo_landn, eo_shl, eo_shr, dvs, flatS, SP.flat, ST.flat, List.map_cons, List.map_nil, List.append_nil, List.cons_append, List.nil_append, ltb_t, ltb_f, leb_t, leb_f, eqb_t, eqb_f, decide_eq_true_eq, decide_eq_false_iff_not, Bool.not_eq_true', Bool.not_eq_false', Bool.and_eq_true, Bool.and_eq_false_imp, beq_iff_eq, beq_eq_false_iff_ne, bne_iff_ne, U64, U32, I64, Big, W, wv, Told, s64, WT, PR, MR, MB, Int.zero_mul, Int.zero_add, Int.add_zero, Int.mul_zero, IntKind.wrap_u64, IntKind.wrap_i64, IntKind.wrap_u32, ne_eq, forall_const, true_implies, show T.rel 10 = R10 from rfl, R10, show T.rel 12 = R12 from rfl, R12, show T.rel 30 = R30 from rfl, R30, show T.pre 10 = Q10 from rfl, Q10, show T.pre 12 = Q12 from rfl, Q12, show T.pre 30 = Q30 from rfl, Q30]
  revert hp
  generalize (E.r 0).i 0 = t
  generalize (E.r 0).i 1 = r
  generalize (E.r 0).i 2 = w
  generalize (E.r 0).i 3 = i
  generalize (E.r 0).i 4 = dt
  generalize (E.r 0).i 5 = dr
  generalize (E.r 0).i 6 = dw
  generalize (E.r 0).i 7 = u
  generalize (E.r 0).i 8 = q
  generalize (E.r 0).i 9 = v
  generalize (E.r 0).i 10 = j
  generalize (E.r 0).i 11 = du
  generalize (E.r 0).i 12 = dq
  generalize (E.r 0).i 13 = dv
  generalize (E.r 65543).i 0 = x7_0
  generalize (E.r 65553).c 0 = x17_0
  try simp only [mxI, mnI]
  try simp only [ltb, leb, eqb, Int.lt_irrefl, decide_false, Int.le_refl, decide_true]
  intro hp
  simp only [DUI]
  refine ⟨fun e => ?_, fun n => n ⟨hp.2.2.2.2.1, hp.2.2.2.2.2.1, hp.2.2.2.2.2.2.1, hp.2.2.2.2.2.2.2⟩⟩
  have c := pcI_of e
  rw [← c]
  clear e c
  repeat' (first | assumption | (intro (h : _ ∧ _); obtain ⟨h1, h2⟩ := h; (first | (subst h1; revert h2) | revert h1 h2)) | (intro h; (first | subst h | skip)) | refine And.intro ?_ ?_)
  all_goals try (show False; refine absurd ?_ ‹¬ _›)
  all_goals repeat' (first | assumption | refine And.intro ?_ ?_)
  all_goals first | omega | grind
end Go.Proofs.Ytkepkjahbcddlaa.Fn
namespace Go.Proofs.Ytkepkjahbcddlaa.Fn
open Go Go.RowKit Go.Proofs.Ytkepkjahbcddlaa.Sy
set_option linter.unusedVariables false
set_option linter.unusedSimpArgs false
set_option maxRecDepth 100000
def t37 : Tr :=
  .br (.f (.rel 103702 [.lst 0 7, .num (.v 0 0), .num (.v 0 1), .num (.v 0 2), .num (.v 0 3), .num (.v 0 4), .num (.v 0 5), .num (.v 0 6), .num (.n 0)] 65541 [.int .u64, .int .u32, .int .u32, .int .i64, .int .u64, .int .u32, .int .u32, .int .i64]) <|
   .br (.f (.is (.lt (.v 65541 7) (.len 0 7)) false) <|
    .ok [.num (.v 65541 0), .num (.v 65541 1), .num (.v 65541 2), .num (.v 65541 3), .num (.v 65541 4), .num (.v 65541 5), .num (.v 65541 6)])
   (.f (.is (.lt (.v 65541 7) (.len 0 7)) true) <|
    .br (.f (.is (.lt (.v 65541 7) (.n 0)) true) <|
     .bad)
    (.f (.is (.lt (.v 65541 7) (.n 0)) false) <|
     .br (.f (.npre 12 [.num (.at 0 7 (.v 65541 7) 0), .num (.at 0 7 (.v 65541 7) 1), .num (.at 0 7 (.v 65541 7) 2), .num (.at 0 7 (.v 65541 7) 3), .num (.at 0 7 (.v 65541 7) 4), .num (.at 0 7 (.v 65541 7) 5), .num (.at 0 7 (.v 65541 7) 6), .num (.v 65541 0), .num (.v 65541 1), .num (.v 65541 2), .num (.v 65541 3), .num (.v 65541 4), .num (.v 65541 5), .num (.v 65541 6)]) <|
      .bad)
     (.f (.rel 12 [.num (.at 0 7 (.v 65541 7) 0), .num (.at 0 7 (.v 65541 7) 1), .num (.at 0 7 (.v 65541 7) 2), .num (.at 0 7 (.v 65541 7) 3), .num (.at 0 7 (.v 65541 7) 4), .num (.at 0 7 (.v 65541 7) 5), .num (.at 0 7 (.v 65541 7) 6), .num (.v 65541 0), .num (.v 65541 1), .num (.v 65541 2), .num (.v 65541 3), .num (.v 65541 4), .num (.v 65541 5), .num (.v 65541 6)] 65549 [.bool]) <|
      .br (.f (.is (.v 65549 0) true) <|
       .br (.f (.nrel 103702 [.lst 0 7, .num (.v 0 0), .num (.v 0 1), .num (.v 0 2), .num (.v 0 3), .num (.v 0 4), .num (.v 0 5), .num (.v 0 6), .num (.n 0)] [.num (.at 0 7 (.v 65541 7) 0), .num (.at 0 7 (.v 65541 7) 1), .num (.at 0 7 (.v 65541 7) 2), .num (.at 0 7 (.v 65541 7) 3), .num (.at 0 7 (.v 65541 7) 4), .num (.at 0 7 (.v 65541 7) 5), .num (.at 0 7 (.v 65541 7) 6), .num (.wrap .i64 (.bin .add (.v 65541 7) (.n 1)))]) <|
        .bad)
       (.f (.ndec 103702 [.lst 0 7, .num (.v 0 0), .num (.v 0 1), .num (.v 0 2), .num (.v 0 3), .num (.v 0 4), .num (.v 0 5), .num (.v 0 6), .num (.n 0)] [.num (.v 65541 0), .num (.v 65541 1), .num (.v 65541 2), .num (.v 65541 3), .num (.v 65541 4), .num (.v 65541 5), .num (.v 65541 6), .num (.v 65541 7)] [.num (.at 0 7 (.v 65541 7) 0), .num (.at 0 7 (.v 65541 7) 1), .num (.at 0 7 (.v 65541 7) 2), .num (.at 0 7 (.v 65541 7) 3), .num (.at 0 7 (.v 65541 7) 4), .num (.at 0 7 (.v 65541 7) 5), .num (.at 0 7 (.v 65541 7) 6), .num (.wrap .i64 (.bin .add (.v 65541 7) (.n 1)))]) <|
        .bad))
      (.f (.is (.v 65549 0) false) <|
       .br (.f (.nrel 103702 [.lst 0 7, .num (.v 0 0), .num (.v 0 1), .num (.v 0 2), .num (.v 0 3), .num (.v 0 4), .num (.v 0 5), .num (.v 0 6), .num (.n 0)] [.num (.v 65541 0), .num (.v 65541 1), .num (.v 65541 2), .num (.v 65541 3), .num (.v 65541 4), .num (.v 65541 5), .num (.v 65541 6), .num (.wrap .i64 (.bin .add (.v 65541 7) (.n 1)))]) <|
        .bad)
       (.f (.ndec 103702 [.lst 0 7, .num (.v 0 0), .num (.v 0 1), .num (.v 0 2), .num (.v 0 3), .num (.v 0 4), .num (.v 0 5), .num (.v 0 6), .num (.n 0)] [.num (.v 65541 0), .num (.v 65541 1), .num (.v 65541 2), .num (.v 65541 3), .num (.v 65541 4), .num (.v 65541 5), .num (.v 65541 6), .num (.v 65541 7)] [.num (.v 65541 0), .num (.v 65541 1), .num (.v 65541 2), .num (.v 65541 3), .num (.v 65541 4), .num (.v 65541 5), .num (.v 65541 6), .num (.wrap .i64 (.bin .add (.v 65541 7) (.n 1)))]) <|
        .bad))))))
  (.f (.nrel 103702 [.lst 0 7, .num (.v 0 0), .num (.v 0 1), .num (.v 0 2), .num (.v 0 3), .num (.v 0 4), .num (.v 0 5), .num (.v 0 6), .num (.n 0)] [.num (.v 0 0), .num (.v 0 1), .num (.v 0 2), .num (.v 0 3), .num (.v 0 4), .num (.v 0 5), .num (.v 0 6), .num (.n 0)]) <|
   .bad)
theorem c37 : ConS Try.prog T C37 := con_tr (cs := [C12]) (lcs := [L103702]) (known := []) (cons_cons c12 (cons_nil _ _)) (Known.nil _) (N := 400) (d := 40) (t := t37) (by kernel_rfl) <| by
  intro E hl hp
  have hl7 := hl 7 _ rfl
  clear hl
  have hp := hp rfl
  simp only [C37, show T.pre 37 = Q37 from rfl, flatS, SP.flat, dvs, List.append_nil, List.cons_append, List.nil_append, Q37, U64, U32, I64, Big, W, wv, s64, WT, PR, MR, MB] at hp
  simp only [t37, C37, Tr.good, Fact.den, DE.den, Dat.sub, LX.den, DX.ls, DV.ls, DX.den, Bx.den, Ex.den, eo_add, eo_sub, eo_mul, eo_quo, eo_rem, eo_fdv, eo_mn, eo_mx, eo_land, eo_lor, eo_lxor, eo_landn, eo_shl, eo_shr, dvs, flatS, SP.flat, ST.flat, List.map_cons, List.map_nil, List.append_nil, List.cons_append, List.nil_append, ltb_t, ltb_f, leb_t, leb_f, eqb_t, eqb_f, decide_eq_true_eq, decide_eq_false_iff_not, Bool.not_eq_true', Bool.not_eq_false', Bool.and_eq_true, Bool.and_eq_false_imp, beq_iff_eq, beq_eq_false_iff_ne, bne_iff_ne, U64, U32, I64, Big, W, wv, Told, s64, WT, PR, MR, MB, Int.zero_mul, Int.zero_add, Int.add_zero, Int.mul_zero, IntKind.wrap_u64, IntKind.wrap_i64, IntKind.wrap_u32, ne_eq, forall_const, true_implies, show T.rel 12 = R12 from rfl, R12, show T.rel 37 = R37 from rfl, R37, show T.rel 103702 = R103702 from rfl, R103702, show T.mu 103702 = M103702 from rfl, M103702, show T.pre 12 = Q12 from rfl, Q12, show T.pre 37 = Q37 from rfl, Q37]
  revert hp hl7
  generalize (E.r 0).i 0 = t
  generalize (E.r 0).i 1 = r
  generalize (E.r 0).i 2 = w
  generalize (E.r 0).i 3 = i
  generalize (E.r 0).i 4 = dt
  generalize (E.r 0).i 5 = dr
  generalize (E.r 0).i 6 = dw
  generalize (E.r 0).l 7 = xs
  generalize (E.r 65541).i 0 = x5_0
  generalize (E.r 65541).i 1 = x5_1
  generalize (E.r 65541).i 2 = x5_2
  generalize (E.r 65541).i 3 = x5_3
  generalize (E.r 65541).i 4 = x5_4
  generalize (E.r 65541).i 5 = x5_5
  generalize (E.r 65541).i 6 = x5_6
  generalize (E.r 65541).i 7 = x5_7
  generalize (E.r 65549).c 0 = x13_0
  try simp only [mxI, mnI]
  try simp only [ltb, leb, eqb, Int.lt_irrefl, decide_false, Int.le_refl, decide_true]
  intro hl hp
  obtain ⟨p1, p2, p3, p4, p5, p6, hk⟩ := hp
  have hmax := hl.2
  simp only [maxLen] at hmax
  refine ⟨fun ⟨i0, i1, i2⟩ => ⟨fun c => ?_, fun c => ⟨fun h => by omega, fun _ => ⟨fun n => n ?_, fun e => ?_⟩⟩⟩, fun n => n ⟨trivial, by omega, rfl⟩⟩
  · rw [i2, show x5_7.toNat = xs.length by omega]
  all_goals
    obtain ⟨k, rfl⟩ := Int.eq_ofNat_of_zero_le i0
    simp only [Int.toNat_natCast] at i2
    have K0 : K7 [t, r, w, i, dt, dr, dw] := ⟨p1, p2, p3, p4, p5, p6⟩
    have K := K7_sn hk K0 k
    rw [← i2] at K
    have Kr := hk k
  · exact ⟨Kr.2.1, Kr.2.2.1, K.2.1, K.2.2.1, Kr.2.2.2.2.1, Kr.2.2.2.2.2, K.2.2.2.2.1, K.2.2.2.2.2⟩
  · have ew : ((k : Int) + 1 + 9223372036854775808) % 18446744073709551616 - 9223372036854775808 = ((k + 1 : Nat) : Int) := by omega
    simp only [ew, Int.toNat_natCast]
    have st : sn (rw7 xs) [t, r, w, i, dt, dr, dw] (k + 1) = if DUR (rw7 xs k) (sn (rw7 xs) [t, r, w, i, dt, dr, dw] k) then rw7 xs k else sn (rw7 xs) [t, r, w, i, dt, dr, dw] k := rfl
    rw [← i2] at st
    refine ⟨fun f => ⟨fun n => n ⟨by omega, by omega, ?_⟩, by omega⟩, fun f => ⟨fun n => n ⟨by omega, by omega, ?_⟩, by omega⟩⟩
    · rw [st, if_pos (show DUR (rw7 xs k) [x5_0, x5_1, x5_2, x5_3, x5_4, x5_5, x5_6] from e.1 f)]
      rfl
    · rw [st, if_neg (show ¬ DUR (rw7 xs k) [x5_0, x5_1, x5_2, x5_3, x5_4, x5_5, x5_6] from fun h => by have := e.2 h; rw [f] at this; cases this)]
end Go.Proofs.Ytkepkjahbcddlaa.Fn
namespace Go.Proofs.Ytkepkjahbcddlaa.Fn
open Go Go.RowKit Go.Proofs.Ytkepkjahbcddlaa.Sy
set_option linter.unusedVariables false
set_option linter.unusedSimpArgs false
set_option maxRecDepth 100000
def t27 : Tr :=
  .br (.f (.rel 37 [.num (.v 0 0), .num (.v 0 1), .num (.v 0 2), .num (.v 0 3), .num (.v 0 4), .num (.v 0 5), .num (.v 0 6), .rows [[.v 0 7, .v 0 8, .v 0 9, .v 0 10, .v 0 11, .v 0 12, .v 0 13]]] 65542 [.int .u64, .int .u32, .int .u32, .int .i64, .int .u64, .int .u32, .int .u32]) <|
   .ok [.num (.v 65542 0), .num (.v 65542 1), .num (.v 65542 2), .num (.v 65542 3), .num (.v 65542 4), .num (.v 65542 5), .num (.v 65542 6)])
  (.f (.npre 37 [.num (.v 0 0), .num (.v 0 1), .num (.v 0 2), .num (.v 0 3), .num (.v 0 4), .num (.v 0 5), .num (.v 0 6), .rows [[.v 0 7, .v 0 8, .v 0 9, .v 0 10, .v 0 11, .v 0 12, .v 0 13]]]) <|
   .bad)
theorem c27 : ConS Try.prog T C27 := con_tr (cs := [C37]) (lcs := []) (known := []) (cons_cons c37 (cons_nil _ _)) (Known.nil _) (N := 400) (d := 40) (t := t27) (by kernel_rfl) <| by
  intro E hl hp
  clear hl
  have hp := hp rfl
  simp only [C27, show T.pre 27 = Q27 from rfl, flatS, SP.flat, dvs, List.append_nil, List.cons_append, List.nil_append, Q27, U64, U32, I64, Big, W, wv, s64, WT, PR, MR, MB] at hp
  simp only [t27, C27, Tr.good, Fact.den, DE.den, Dat.sub, LX.den, DX.ls, DV.ls, DX.den, Bx.den, Ex.den, eo_add, eo_sub, eo_mul, eo_quo, eo_rem, eo_fdv, eo_mn, eo_mx, eo_land, eo_lor, eo_lxor, eo_landn, eo_shl, eo_shr, dvs, flatS, SP.flat, ST.flat, List.map_cons, List.map_nil, List.append_nil, List.cons_append, List.nil_append, ltb_t, ltb_f, leb_t, leb_f, eqb_t, eqb_f, decide_eq_true_eq, decide_eq_false_iff_not, Bool.not_eq_true', Bool.not_eq_false', Bool.and_eq_true, Bool.and_eq_false_imp, beq_iff_eq, beq_eq_false_iff_ne, bne_iff_ne, U64, U32, I64, Big, W, wv, Told, s64, WT, PR, MR, MB, Int.zero_mul, Int.zero_add, Int.add_zero, Int.mul_zero, IntKind.wrap_u64, IntKind.wrap_i64, IntKind.wrap_u32, ne_eq, forall_const, true_implies, show T.rel 27 = R27 from rfl, R27, show T.rel 37 = R37 from rfl, R37, show T.pre 27 = Q27 from rfl, Q27, show T.pre 37 = Q37 from rfl, Q37]
  revert hp
  generalize (E.r 0).i 0 = t
  generalize (E.r 0).i 1 = r
  generalize (E.r 0).i 2 = w
  generalize (E.r 0).i 3 = i
  generalize (E.r 0).i 4 = dt
  generalize (E.r 0).i 5 = dr
  generalize (E.r 0).i 6 = dw
  generalize (E.r 0).i 7 = u
  generalize (E.r 0).i 8 = q
  generalize (E.r 0).i 9 = v
  generalize (E.r 0).i 10 = j
  generalize (E.r 0).i 11 = du
  generalize (E.r 0).i 12 = dq
  generalize (E.r 0).i 13 = dv
  generalize (E.r 65542).i 0 = x6_0
  generalize (E.r 65542).i 1 = x6_1
  generalize (E.r 65542).i 2 = x6_2
  generalize (E.r 65542).i 3 = x6_3
  generalize (E.r 65542).i 4 = x6_4
  generalize (E.r 65542).i 5 = x6_5
  generalize (E.r 65542).i 6 = x6_6
  try simp only [mxI, mnI]
  try simp only [ltb, leb, eqb, Int.lt_irrefl, decide_false, Int.le_refl, decide_true]
  intro hp
  refine ⟨fun e => e, fun n => n ?_⟩
  obtain ⟨⟨a1, a2, a3, a4, a5, a6⟩, hb⟩ := hp
  exact ⟨a1, a2, a3, a4, a5, a6, RI_one hb⟩
end Go.Proofs.Ytkepkjahbcddlaa.Fn
namespace Go.Proofs.Ytkepkjahbcddlaa.Fn
open Go Go.RowKit Go.Proofs.Ytkepkjahbcddlaa.Sy
set_option linter.unusedVariables false
set_option linter.unusedSimpArgs false
set_option maxRecDepth 100000
def t63 : Tr :=
  .br (.f (.is (.nil 0 1 []) false) <|
   .f (.rel 26 [.num (.fld 0 1 [] 0), .num (.fld 0 1 [] 1), .num (.fld 0 1 [] 2), .num (.fld 0 1 [] 3), .num (.fld 0 1 [] 4), .num (.fld 0 1 [] 5), .num (.fld 0 1 [] 6)] 65545 [.int .u64, .int .u32, .int .u32, .int .i64, .int .u64, .int .u32, .int .u32]) <|
    .br (.f (.is (.nil 0 1 [false]) false) <|
     .br (.f (.rel 27 [.num (.fld 0 1 [false] 7), .num (.fld 0 1 [false] 8), .num (.fld 0 1 [false] 9), .num (.fld 0 1 [false] 10), .num (.fld 0 1 [false] 11), .num (.fld 0 1 [false] 12), .num (.fld 0 1 [false] 13), .num (.v 65545 0), .num (.v 65545 1), .num (.v 65545 2), .num (.v 65545 3), .num (.v 65545 4), .num (.v 65545 5), .num (.v 65545 6)] 65570 [.int .u64, .int .u32, .int .u32, .int .i64, .int .u64, .int .u32, .int .u32]) <|
      .br (.f (.is (.nil 0 1 [true]) false) <|
       .br (.f (.rel 27 [.num (.v 65570 0), .num (.v 65570 1), .num (.v 65570 2), .num (.v 65570 3), .num (.v 65570 4), .num (.v 65570 5), .num (.v 65570 6), .num (.fld 0 1 [true] 7), .num (.fld 0 1 [true] 8), .num (.fld 0 1 [true] 9), .num (.fld 0 1 [true] 10), .num (.fld 0 1 [true] 11), .num (.fld 0 1 [true] 12), .num (.fld 0 1 [true] 13)] 65595 [.int .u64, .int .u32, .int .u32, .int .i64, .int .u64, .int .u32, .int .u32]) <|
        .ok [.obj (.nd 16842764 [.fld 0 1 [] 0, .fld 0 1 [] 1, .fld 0 1 [] 2, .fld 0 1 [] 3, .fld 0 1 [] 4, .fld 0 1 [] 5, .fld 0 1 [] 6, .v 65595 0, .v 65595 1, .v 65595 2, .v 65595 3, .v 65595 4, .v 65595 5, .v 65595 6] [.fld 0 1 [] 0] (.at 0 1 [false]) (.at 0 1 [true]))])
       (.f (.npre 27 [.num (.v 65570 0), .num (.v 65570 1), .num (.v 65570 2), .num (.v 65570 3), .num (.v 65570 4), .num (.v 65570 5), .num (.v 65570 6), .num (.fld 0 1 [true] 7), .num (.fld 0 1 [true] 8), .num (.fld 0 1 [true] 9), .num (.fld 0 1 [true] 10), .num (.fld 0 1 [true] 11), .num (.fld 0 1 [true] 12), .num (.fld 0 1 [true] 13)]) <|
        .bad))
      (.f (.is (.nil 0 1 [true]) true) <|
       .ok [.obj (.nd 16842764 [.fld 0 1 [] 0, .fld 0 1 [] 1, .fld 0 1 [] 2, .fld 0 1 [] 3, .fld 0 1 [] 4, .fld 0 1 [] 5, .fld 0 1 [] 6, .v 65570 0, .v 65570 1, .v 65570 2, .v 65570 3, .v 65570 4, .v 65570 5, .v 65570 6] [.fld 0 1 [] 0] (.at 0 1 [false]) (.at 0 1 [true]))]))
     (.f (.npre 27 [.num (.fld 0 1 [false] 7), .num (.fld 0 1 [false] 8), .num (.fld 0 1 [false] 9), .num (.fld 0 1 [false] 10), .num (.fld 0 1 [false] 11), .num (.fld 0 1 [false] 12), .num (.fld 0 1 [false] 13), .num (.v 65545 0), .num (.v 65545 1), .num (.v 65545 2), .num (.v 65545 3), .num (.v 65545 4), .num (.v 65545 5), .num (.v 65545 6)]) <|
      .bad))
    (.f (.is (.nil 0 1 [false]) true) <|
     .br (.f (.is (.nil 0 1 [true]) false) <|
      .br (.f (.rel 27 [.num (.v 65545 0), .num (.v 65545 1), .num (.v 65545 2), .num (.v 65545 3), .num (.v 65545 4), .num (.v 65545 5), .num (.v 65545 6), .num (.fld 0 1 [true] 7), .num (.fld 0 1 [true] 8), .num (.fld 0 1 [true] 9), .num (.fld 0 1 [true] 10), .num (.fld 0 1 [true] 11), .num (.fld 0 1 [true] 12), .num (.fld 0 1 [true] 13)] 65575 [.int .u64, .int .u32, .int .u32, .int .i64, .int .u64, .int .u32, .int .u32]) <|
       .ok [.obj (.nd 16842764 [.fld 0 1 [] 0, .fld 0 1 [] 1, .fld 0 1 [] 2, .fld 0 1 [] 3, .fld 0 1 [] 4, .fld 0 1 [] 5, .fld 0 1 [] 6, .v 65575 0, .v 65575 1, .v 65575 2, .v 65575 3, .v 65575 4, .v 65575 5, .v 65575 6] [.fld 0 1 [] 0] (.at 0 1 [false]) (.at 0 1 [true]))])
      (.f (.npre 27 [.num (.v 65545 0), .num (.v 65545 1), .num (.v 65545 2), .num (.v 65545 3), .num (.v 65545 4), .num (.v 65545 5), .num (.v 65545 6), .num (.fld 0 1 [true] 7), .num (.fld 0 1 [true] 8), .num (.fld 0 1 [true] 9), .num (.fld 0 1 [true] 10), .num (.fld 0 1 [true] 11), .num (.fld 0 1 [true] 12), .num (.fld 0 1 [true] 13)]) <|
       .bad))
     (.f (.is (.nil 0 1 [true]) true) <|
      .ok [.obj (.nd 16842764 [.fld 0 1 [] 0, .fld 0 1 [] 1, .fld 0 1 [] 2, .fld 0 1 [] 3, .fld 0 1 [] 4, .fld 0 1 [] 5, .fld 0 1 [] 6, .v 65545 0, .v 65545 1, .v 65545 2, .v 65545 3, .v 65545 4, .v 65545 5, .v 65545 6] [.fld 0 1 [] 0] (.at 0 1 [false]) (.at 0 1 [true]))])))
  (.f (.is (.nil 0 1 []) true) <|
   .bad)
theorem c63 : ConS Try.prog T C63 := con_tr (cs := [C26, C27]) (lcs := []) (known := []) (cons_cons c26 (cons_cons c27 (cons_nil _ _))) (Known.nil _) (N := 400) (d := 40) (t := t63) (by kernel_rfl) <| by
  intro E hl hp
  clear hl
  have hp := hp rfl
  simp only [C63, show T.pre 63 = Q63 from rfl, flatS, SP.flat, dvs, List.append_nil, List.cons_append, List.nil_append, Q63, U64, U32, I64, Big, W, wv, s64, WT, PR, MR, MB] at hp
  simp only [t63, C63, Tr.good, Fact.den, DE.den, Dat.sub, LX.den, DX.ls, DV.ls, DX.den, Bx.den, Ex.den, eo_add, eo_sub, eo_mul, eo_quo, eo_rem, eo_fdv, eo_mn, eo_mx, eo_land, eo_lor, eo_lxor, eo_landn, eo_shl, eo_shr, dvs, flatS, SP.flat, ST.flat, List.map_cons, List.map_nil, List.append_nil, List.cons_append, List.nil_append, ltb_t, ltb_f, leb_t, leb_f, eqb_t, eqb_f, decide_eq_true_eq, decide_eq_false_iff_not, Bool.not_eq_true', Bool.not_eq_false', Bool.and_eq_true, Bool.and_eq_false_imp, beq_iff_eq, beq_eq_false_iff_ne, bne_iff_ne, U64, U32, I64, Big, W, wv, Told, s64, WT, PR, MR, MB, Int.zero_mul, Int.zero_add, Int.add_zero, Int.mul_zero, IntKind.wrap_u64, IntKind.wrap_i64, IntKind.wrap_u32, ne_eq, forall_const, true_implies, show T.rel 26 = R26 from rfl, R26, show T.rel 27 = R27 from rfl, R27, show T.rel 63 = R63 from rfl, R63, show T.pre 27 = Q27 from rfl, Q27, show T.pre 63 = Q63 from rfl, Q63]
  revert hp
  generalize (E.r 0).t 1 = n
  generalize (E.r 65545).i 0 = x9_0
  generalize (E.r 65545).i 1 = x9_1
  generalize (E.r 65545).i 2 = x9_2
  generalize (E.r 65545).i 3 = x9_3
  generalize (E.r 65545).i 4 = x9_4
  generalize (E.r 65545).i 5 = x9_5
  generalize (E.r 65545).i 6 = x9_6
  generalize (E.r 65570).i 0 = x34_0
  generalize (E.r 65570).i 1 = x34_1
  generalize (E.r 65570).i 2 = x34_2
  generalize (E.r 65570).i 3 = x34_3
  generalize (E.r 65570).i 4 = x34_4
  generalize (E.r 65570).i 5 = x34_5
  generalize (E.r 65570).i 6 = x34_6
  generalize (E.r 65575).i 0 = x39_0
  generalize (E.r 65575).i 1 = x39_1
  generalize (E.r 65575).i 2 = x39_2
  generalize (E.r 65575).i 3 = x39_3
  generalize (E.r 65575).i 4 = x39_4
  generalize (E.r 65575).i 5 = x39_5
  generalize (E.r 65575).i 6 = x39_6
  generalize (E.r 65595).i 0 = x59_0
  generalize (E.r 65595).i 1 = x59_1
  generalize (E.r 65595).i 2 = x59_2
  generalize (E.r 65595).i 3 = x59_3
  generalize (E.r 65595).i 4 = x59_4
  generalize (E.r 65595).i 5 = x59_5
  generalize (E.r 65595).i 6 = x59_6
  try simp only [mxI, mnI]
  try simp only [ltb, leb, eqb, Int.lt_irrefl, decide_false, Int.le_refl, decide_true]
  rintro ⟨h0, hK⟩
  rw [sh_nd h0] at hK ⊢
  obtain ⟨k1, k2, k3, k4⟩ := hK
  refine ⟨fun _ e1 => ?_, fun h => by rw [h0] at h; cases h⟩
  obtain ⟨rfl, rfl, rfl, rfl, rfl, rfl, rfl⟩ := e1
  simp only [sh_mk]
  simp only [it7_of, al7_of, ItT.sum, ItT.sm]
  refine ⟨fun hl => ⟨fun e2 => ⟨fun hr => ⟨fun e3 => ?_, fun n => n ⟨?_, ?_⟩⟩, fun hr => ?_⟩, fun n => n ⟨?_, ?_⟩⟩, fun hl => ⟨fun hr => ⟨fun e3 => ?_, fun n => n ⟨?_, ?_⟩⟩, fun hr => ?_⟩⟩
  · rw [e3, e2, sh_nd hl, sh_nd hr]; rfl
  · rw [e2]; rw [sh_nd hl] at k3; exact K7_JN k3.2.1 k1
  · rw [sh_nd hr] at k4; exact k4.2.1
  · rw [e2, sh_nd hl, sh_leaf hr]; rfl
  · rw [sh_nd hl] at k3; exact k3.2.1
  · exact k1
  · rw [e3, sh_leaf hl, sh_nd hr]; rfl
  · exact k1
  · rw [sh_nd hr] at k4; exact k4.2.1
  · rw [sh_leaf hl, sh_leaf hr]; rfl
end Go.Proofs.Ytkepkjahbcddlaa.Fn
namespace Go.Proofs.Ytkepkjahbcddlaa.Fn
open Go Go.RowKit Go.Proofs.Ytkepkjahbcddlaa.Sy
set_option linter.unusedVariables false
set_option linter.unusedSimpArgs false
set_option maxRecDepth 100000
def t64 : Tr :=
  .br (.f (.is (.nil 0 0 []) false) <|
   .ok [.tru (.fld 0 0 [] 0)])
  (.f (.is (.nil 0 0 []) true) <|
   .ok [.tru (.lt (.n 0) (.n 0))])
theorem c64 : ConS Try.prog T C64 := con_tr (cs := []) (lcs := []) (known := []) (cons_nil _ _) (Known.nil _) (N := 400) (d := 40) (t := t64) (by kernel_rfl) <| by
  intro E hl hp
  clear hl
  clear hp
  simp only [t64, C64, Tr.good, Fact.den, DE.den, Dat.sub, LX.den, DX.ls, DV.ls, DX.den, Bx.den, Ex.den, eo_add, eo_sub, eo_mul, eo_quo, eo_rem, eo_fdv, eo_mn, eo_mx, eo_land, eo_lor, eo_lxor, eo_landn, eo_shl, eo_shr, dvs, flatS, SP.flat, ST.flat, List.map_cons, List.map_nil, List.append_nil, List.cons_append, List.nil_append, ltb_t, ltb_f, leb_t, leb_f, eqb_t, eqb_f, decide_eq_true_eq, decide_eq_false_iff_not, Bool.not_eq_true', Bool.not_eq_false', Bool.and_eq_true, Bool.and_eq_false_imp, beq_iff_eq, beq_eq_false_iff_ne, bne_iff_ne, U64, U32, I64, Big, W, wv, Told, s64, WT, PR, MR, MB, Int.zero_mul, Int.zero_add, Int.add_zero, Int.mul_zero, IntKind.wrap_u64, IntKind.wrap_i64, IntKind.wrap_u32, ne_eq, forall_const, true_implies, show T.rel 64 = R64 from rfl, R64]
  generalize (E.r 0).t 0 = n
  try simp only [mxI, mnI]
  try simp only [ltb, leb, eqb, Int.lt_irrefl, decide_false, Int.le_refl, decide_true]
  cases n <;> simp [sh, ItT.red, Dat.isLeaf, Dat.tru]
end Go.Proofs.Ytkepkjahbcddlaa.Fn
namespace Go.Proofs.Ytkepkjahbcddlaa.Fn
open Go Go.RowKit Go.Proofs.Ytkepkjahbcddlaa.Sy
set_option linter.unusedVariables false
set_option linter.unusedSimpArgs false
set_option maxRecDepth 100000
def t65 : Tr :=
  .br (.f (.is (.nil 0 1 []) false) <|
   .br (.f (.is (.nil 0 1 [true]) false) <|
    .br (.f (.is (.nil 65569 0 []) false) <|
     .f (.rel 63 [.num (.n 0), .obj (.nd 16842767 [.fld 0 1 [] 0, .fld 0 1 [] 1, .fld 0 1 [] 2, .fld 0 1 [] 3, .fld 0 1 [] 4, .fld 0 1 [] 5, .fld 0 1 [] 6, .fld 0 1 [] 7, .fld 0 1 [] 8, .fld 0 1 [] 9, .fld 0 1 [] 10, .fld 0 1 [] 11, .fld 0 1 [] 12, .fld 0 1 [] 13] [.le (.n 0) (.n 0)] (.at 0 1 [false]) (.at 0 1 [true, false]))] 65569 [.obj 0]) <|
      .br (.f (.is (.nil 65572 0 []) false) <|
       .f (.rel 63 [.num (.n 0), .obj (.nd 33619986 [.fld 0 1 [true] 0, .fld 0 1 [true] 1, .fld 0 1 [true] 2, .fld 0 1 [true] 3, .fld 0 1 [true] 4, .fld 0 1 [true] 5, .fld 0 1 [true] 6, .fld 0 1 [true] 7, .fld 0 1 [true] 8, .fld 0 1 [true] 9, .fld 0 1 [true] 10, .fld 0 1 [true] 11, .fld 0 1 [true] 12, .fld 0 1 [true] 13] [.fld 0 1 [] 0] (.at 65569 0 []) (.at 0 1 [true, true]))] 65572 [.obj 0]) <|
        .ok [.obj (.at 65572 0 [])])
      (.f (.npre 63 [.num (.n 0), .obj (.nd 33619986 [.fld 0 1 [true] 0, .fld 0 1 [true] 1, .fld 0 1 [true] 2, .fld 0 1 [true] 3, .fld 0 1 [true] 4, .fld 0 1 [true] 5, .fld 0 1 [true] 6, .fld 0 1 [true] 7, .fld 0 1 [true] 8, .fld 0 1 [true] 9, .fld 0 1 [true] 10, .fld 0 1 [true] 11, .fld 0 1 [true] 12, .fld 0 1 [true] 13] [.fld 0 1 [] 0] (.at 65569 0 []) (.at 0 1 [true, true]))]) <|
       .bad))
    (.f (.npre 63 [.num (.n 0), .obj (.nd 16842767 [.fld 0 1 [] 0, .fld 0 1 [] 1, .fld 0 1 [] 2, .fld 0 1 [] 3, .fld 0 1 [] 4, .fld 0 1 [] 5, .fld 0 1 [] 6, .fld 0 1 [] 7, .fld 0 1 [] 8, .fld 0 1 [] 9, .fld 0 1 [] 10, .fld 0 1 [] 11, .fld 0 1 [] 12, .fld 0 1 [] 13] [.le (.n 0) (.n 0)] (.at 0 1 [false]) (.at 0 1 [true, false]))]) <|
     .bad))
   (.f (.is (.nil 0 1 [true]) true) <|
    .bad))
  (.f (.is (.nil 0 1 []) true) <|
   .bad)
theorem c65 : ConS Try.prog T C65 := con_tr (cs := [C63]) (lcs := []) (known := []) (cons_cons c63 (cons_nil _ _)) (Known.nil _) (N := 400) (d := 40) (t := t65) (by kernel_rfl) <| by
  intro E hl hp
  clear hl
  have hp := hp rfl
  simp only [C65, show T.pre 65 = Q65 from rfl, flatS, SP.flat, dvs, List.append_nil, List.cons_append, List.nil_append, Q65, U64, U32, I64, Big, W, wv, s64, WT, PR, MR, MB] at hp
  simp only [t65, C65, Tr.good, Fact.den, DE.den, Dat.sub, LX.den, DX.ls, DV.ls, DX.den, Bx.den, Ex.den, eo_add, eo_sub, eo_mul, eo_quo, eo_rem, eo_fdv, eo_mn, eo_mx, eo_land, eo_lor, eo_lxor, eo_landn, eo_shl, eo_shr, dvs, flatS, SP.flat, ST.flat, List.map_cons, List.map_nil, List.append_nil, List.cons_append, List.nil_append, ltb_t, ltb_f, leb_t, leb_f, eqb_t, eqb_f, decide_eq_true_eq, decide_eq_false_iff_not, Bool.not_eq_true', Bool.not_eq_false', Bool.and_eq_true, Bool.and_eq_false_imp, beq_iff_eq, beq_eq_false_iff_ne, bne_iff_ne, U64, U32, I64, Big, W, wv, Told, s64, WT, PR, MR, MB, Int.zero_mul, Int.zero_add, Int.add_zero, Int.mul_zero, IntKind.wrap_u64, IntKind.wrap_i64, IntKind.wrap_u32, ne_eq, forall_const, true_implies, show T.rel 63 = R63 from rfl, R63, show T.rel 65 = R65 from rfl, R65, show T.pre 63 = Q63 from rfl, Q63, show T.pre 65 = Q65 from rfl, Q65]
  revert hp
  generalize (E.r 0).t 1 = n
  generalize (E.r 65569).t 0 = x33_0
  generalize (E.r 65572).t 0 = x36_0
  try simp only [mxI, mnI]
  try simp only [ltb, leb, eqb, Int.lt_irrefl, decide_false, Int.le_refl, decide_true]
  rintro ⟨h0, h1, hK⟩
  rw [sh_nd h0, sh_nd h1] at hK
  obtain ⟨k1, k2, k3, k4, k5, k6, k7⟩ := hK
  have kk : ItT.K (.N (it7 n) (al7 n) true (sh (n.kid false)) (sh ((n.kid true).kid false))) := ⟨k1, k2, k3, k6⟩
  rw [sh_nd h0, sh_nd h1]
  simp only [sh_mk]
  simp only [h0, h1, leaf_mk, it7_of, al7_of, ItT.toLeft, Bool.false_eq_true, false_implies, true_implies, and_true, true_and]
  refine ⟨fun _ e1 => ⟨fun _ e2 => ?_, fun n => n ?_⟩, fun n => n kk⟩
  · rw [e2, e1]
  · rw [e1]; exact ⟨k4, k5, ItT.K_sum kk, k7⟩
end Go.Proofs.Ytkepkjahbcddlaa.Fn
