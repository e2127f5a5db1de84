/- What is told of the functions, shown: (turnstone/wide.Int).Div, turnstone/wide.Of, (turnstone/wide.Int).Small, (turnstone/vtime.Time).Add, turnstone/pos.At, (turnstone/pos.Pos).Move, (turnstone/pos.Pos).Right, (turnstone/vtime.Time).Since, (turnstone/item.Item).Right, turnstone/req.may, turnstone/req.due, (turnstone/req.Req).Right, turnstone/req.set, (turnstone/req.Req).Serve, turnstone/req.New. -/
import Derived.Test.YtjemohphaeiaiaaGreatDoorFm0
namespace Go.Proofs.YtjemohphaeiaiaaGreatDoor.Fn
open Go Go.RowKit Go.Proofs.YtjemohphaeiaiaaGreatDoor.Sy
set_option linter.unusedVariables false
set_option linter.unusedSimpArgs false
set_option maxRecDepth 100000
def t48 : Tr :=
  .br (.f (.is (.eq (.v 0 2) (.n 0)) true) <|
   .ok [.num (.n 0), .num (.n 0), .num (.n 0), .tru (.lt (.n 0) (.n 0))])
  (.f (.is (.eq (.v 0 2) (.n 0)) false) <|
   .br (.f (.rel 71 [.num (.v 0 0), .num (.v 0 1)] 65543 [.int .u64, .int .u64]) <|
    .br (.f (.rel 72 [.num (.bin .rem (.v 65543 0) (.v 0 2)), .num (.v 65543 1), .num (.v 0 2)] 65560 [.int .u64, .int .u64]) <|
     .br (.f (.is (.le (.n 0) (.v 0 0)) true) <|
      .ok [.num (.wrap .i64 (.wrap .u64 (.bin .quo (.v 65543 0) (.v 0 2)))), .num (.v 65560 0), .num (.v 65560 1), .tru (.le (.n 0) (.n 0))])
     (.f (.is (.le (.n 0) (.v 0 0)) false) <|
      .br (.f (.is (.lt (.n 0) (.v 65560 1)) true) <|
       .br (.f (.rel 47 [.num (.v 65560 0), .num (.n 1), .num (.n 0)] 65573 [.int .u64, .int .u64]) <|
        .f (.is (.eq (.v 65587 0) (.wrap .u64 (.bin .add (.wrap .u64 (.bin .quo (.v 65543 0) (.v 0 2))) (.v 65573 1)))) true) <|
         .br (.f (.rel 73 [.num (.wrap .i64 (.v 65587 0)), .num (.v 65573 0)] 65592 [.int .i64, .int .u64]) <|
          .ok [.num (.v 65592 0), .num (.v 65592 1), .num (.wrap .u64 (.bin .sub (.v 0 2) (.v 65560 1))), .tru (.le (.n 0) (.n 0))])
         (.f (.npre 73 [.num (.wrap .i64 (.v 65587 0)), .num (.v 65573 0)]) <|
          .bad))
       (.f (.npre 47 [.num (.v 65560 0), .num (.n 1), .num (.n 0)]) <|
        .bad))
      (.f (.is (.lt (.n 0) (.v 65560 1)) false) <|
       .br (.f (.rel 73 [.num (.wrap .i64 (.wrap .u64 (.bin .quo (.v 65543 0) (.v 0 2)))), .num (.v 65560 0)] 65575 [.int .i64, .int .u64]) <|
        .ok [.num (.v 65575 0), .num (.v 65575 1), .num (.v 65560 1), .tru (.le (.n 0) (.n 0))])
       (.f (.npre 73 [.num (.wrap .i64 (.wrap .u64 (.bin .quo (.v 65543 0) (.v 0 2)))), .num (.v 65560 0)]) <|
        .bad))))
    (.f (.npre 72 [.num (.bin .rem (.v 65543 0) (.v 0 2)), .num (.v 65543 1), .num (.v 0 2)]) <|
     .bad))
   (.f (.npre 71 [.num (.v 0 0), .num (.v 0 1)]) <|
    .bad))
theorem c48 : ConS Tryz.prog T C48 := con_tr (cs := [C47, C71, C72, C73]) (lcs := []) (known := []) (cons_cons c47 (cons_cons c71 (cons_cons c72 (cons_cons c73 (cons_nil _ _))))) (Known.nil _) (N := 400) (d := 40) (t := t48) (by kernel_rfl) <| by
  intro E hl hp
  clear hl
  have hp := hp rfl
  simp only [C48, show T.pre 48 = Q48 from rfl, flatS, SP.flat, dvs, List.append_nil, List.cons_append, List.nil_append, Q48, U64, U32, I64, Big, W, wv, s64, WT, PR, MR, MB] at hp
  simp only [t48, C48, Tr.good, Fact.den, LX.den, DX.ls, DV.ls, DX.den, Bx.den, Ex.den, eo_add, eo_sub, eo_mul, eo_quo, eo_rem, eo_fdv, eo_mn, eo_mx, eo_land, eo_lor, eo_lxor, eo_landn, eo_shl, eo_shr, dvs, flatS, SP.flat, ST.flat, List.map_cons, List.map_nil, List.append_nil, List.cons_append, List.nil_append, ltb_t, ltb_f, leb_t, leb_f, eqb_t, eqb_f, decide_eq_true_eq, decide_eq_false_iff_not, Bool.not_eq_true', Bool.not_eq_false', Bool.and_eq_true, Bool.and_eq_false_imp, beq_iff_eq, beq_eq_false_iff_ne, bne_iff_ne, U64, U32, I64, Big, W, wv, Told, s64, WT, PR, MR, MB, Int.zero_mul, Int.zero_add, Int.add_zero, Int.mul_zero, IntKind.wrap_u64, IntKind.wrap_i64, IntKind.wrap_u32, ne_eq, forall_const, true_implies, show T.rel 47 = R47 from rfl, R47, show T.rel 48 = R48 from rfl, R48, show T.rel 71 = R71 from rfl, R71, show T.rel 72 = R72 from rfl, R72, show T.rel 73 = R73 from rfl, R73, show T.pre 47 = Q47 from rfl, Q47, show T.pre 48 = Q48 from rfl, Q48, show T.pre 71 = Q71 from rfl, Q71, show T.pre 72 = Q72 from rfl, Q72, show T.pre 73 = Q73 from rfl, Q73]
  revert hp
  generalize (E.r 0).i 0 = h
  generalize (E.r 0).i 1 = l
  generalize (E.r 0).i 2 = b
  generalize (E.r 65543).i 0 = x7_0
  generalize (E.r 65543).i 1 = x7_1
  generalize (E.r 65560).i 0 = x24_0
  generalize (E.r 65560).i 1 = x24_1
  generalize (E.r 65573).i 0 = x37_0
  generalize (E.r 65573).i 1 = x37_1
  generalize (E.r 65575).i 0 = x39_0
  generalize (E.r 65575).i 1 = x39_1
  generalize (E.r 65587).i 0 = x51_0
  generalize (E.r 65592).i 0 = x56_0
  generalize (E.r 65592).i 1 = x56_1
  try simp only [mxI, mnI]
  try simp only [ltb, leb, eqb, Int.lt_irrefl, decide_false, Int.le_refl, decide_true]
  intro hp
  by_cases b0 : b = 0
  · subst b0
    simp only [not_true_eq_false, false_imp_iff, and_true, true_imp_iff, true_and, iff_self]
    omega
  simp only [b0, not_false_eq_true, false_imp_iff, true_imp_iff, true_and, and_true, true_iff, iff_self]
  refine ⟨fun f1 => ?_, by omega⟩
  obtain ⟨a1, a2, a3, a4, a5, a6, a7, a8, a9, a10, a11, a12⟩ := div_of (s0 := x7_0) (s1 := x7_1) (b := b) (by omega) (by omega) (by omega) (by omega) (by omega)
  have hn := div_neg (v := h * 18446744073709551616 + l) (m := x7_0 * 18446744073709551616 + x7_1) (b := b) (by omega)
  have hq : 0 ≤ h → (x7_0 * 18446744073709551616 + x7_1) / b = (h * 18446744073709551616 + l) / b ∧ (x7_0 * 18446744073709551616 + x7_1) % b = (h * 18446744073709551616 + l) % b := by
    intro c; rw [f1.2.2.2 c]; exact ⟨rfl, rfl⟩
  have hs : x7_0 * 18446744073709551616 + x7_1 ≤ 170141183460469231731687303715884105728 := by omega
  generalize (x7_0.tmod b * 18446744073709551616 + x7_1) / b = q1 at *
  generalize (x7_0.tmod b * 18446744073709551616 + x7_1) % b = q2 at *
  generalize (x7_0 * 18446744073709551616 + x7_1) / b = q3 at *
  generalize (x7_0 * 18446744073709551616 + x7_1) % b = q4 at *
  generalize (h * 18446744073709551616 + l) / b = q5 at *
  generalize (h * 18446744073709551616 + l) % b = q6 at *
  generalize x7_0.tdiv b = q7 at *
  generalize x7_0.tmod b = q8 at *
  repeat' (first | intro _ | refine And.intro ?_ ?_ | refine Iff.intro ?_ ?_)
  all_goals first | omega | (simp_all; done) | (simp_all; omega)
end Go.Proofs.YtjemohphaeiaiaaGreatDoor.Fn
namespace Go.Proofs.YtjemohphaeiaiaaGreatDoor.Fn
open Go Go.RowKit Go.Proofs.YtjemohphaeiaiaaGreatDoor.Sy
set_option linter.unusedVariables false
set_option linter.unusedSimpArgs false
set_option maxRecDepth 100000
def t74 : Tr :=
  .br (.f (.is (.lt (.v 0 0) (.n 0)) true) <|
   .ok [.num (.n (-1)), .num (.wrap .u64 (.v 0 0))])
  (.f (.is (.lt (.v 0 0) (.n 0)) false) <|
   .ok [.num (.n 0), .num (.wrap .u64 (.v 0 0))])
theorem c74 : ConS Tryz.prog T C74 := con_tr (cs := []) (lcs := []) (known := []) (cons_nil _ _) (Known.nil _) (N := 400) (d := 40) (t := t74) (by kernel_rfl) <| by
  intro E hl hp
  clear hl
  have hp := hp rfl
  simp only [C74, show T.pre 74 = Q74 from rfl, flatS, SP.flat, dvs, List.append_nil, List.cons_append, List.nil_append, Q74, U64, U32, I64, Big, W, wv, s64, WT, PR, MR, MB] at hp
  simp only [t74, C74, Tr.good, Fact.den, LX.den, DX.ls, DV.ls, DX.den, Bx.den, Ex.den, eo_add, eo_sub, eo_mul, eo_quo, eo_rem, eo_fdv, eo_mn, eo_mx, eo_land, eo_lor, eo_lxor, eo_landn, eo_shl, eo_shr, dvs, flatS, SP.flat, ST.flat, List.map_cons, List.map_nil, List.append_nil, List.cons_append, List.nil_append, ltb_t, ltb_f, leb_t, leb_f, eqb_t, eqb_f, decide_eq_true_eq, decide_eq_false_iff_not, Bool.not_eq_true', Bool.not_eq_false', Bool.and_eq_true, Bool.and_eq_false_imp, beq_iff_eq, beq_eq_false_iff_ne, bne_iff_ne, U64, U32, I64, Big, W, wv, Told, s64, WT, PR, MR, MB, Int.zero_mul, Int.zero_add, Int.add_zero, Int.mul_zero, IntKind.wrap_u64, IntKind.wrap_i64, IntKind.wrap_u32, ne_eq, forall_const, true_implies, show T.rel 74 = R74 from rfl, R74, show T.pre 74 = Q74 from rfl, Q74]
  revert hp
  generalize (E.r 0).i 0 = x
  try simp only [mxI, mnI]
  try simp only [ltb, leb, eqb, Int.lt_irrefl, decide_false, Int.le_refl, decide_true]
  repeat' (first | intro _ | refine And.intro ?_ ?_ | refine Iff.intro ?_ ?_)
  all_goals first | omega | (simp_all; done) | (simp_all; omega)
end Go.Proofs.YtjemohphaeiaiaaGreatDoor.Fn
namespace Go.Proofs.YtjemohphaeiaiaaGreatDoor.Fn
open Go Go.RowKit Go.Proofs.YtjemohphaeiaiaaGreatDoor.Sy
set_option linter.unusedVariables false
set_option linter.unusedSimpArgs false
set_option maxRecDepth 100000
def t49 : Tr :=
  .br (.f (.rel 74 [.num (.wrap .i64 (.v 0 1))] 65544 [.int .i64, .int .u64]) <|
   .br (.f (.is (.and (.eq (.v 65544 0) (.v 0 0)) (.and (.eq (.v 65544 1) (.v 0 1)) (.le (.n 0) (.n 0)))) false) <|
    .ok [.num (.n 0), .tru (.lt (.n 0) (.n 0))])
   (.f (.is (.and (.eq (.v 65544 0) (.v 0 0)) (.and (.eq (.v 65544 1) (.v 0 1)) (.le (.n 0) (.n 0)))) true) <|
    .ok [.num (.wrap .i64 (.v 0 1)), .tru (.le (.n 0) (.n 0))]))
  (.f (.npre 74 [.num (.wrap .i64 (.v 0 1))]) <|
   .bad)
theorem c49 : ConS Tryz.prog T C49 := con_tr (cs := [C74]) (lcs := []) (known := []) (cons_cons c74 (cons_nil _ _)) (Known.nil _) (N := 400) (d := 40) (t := t49) (by kernel_rfl) <| by
  intro E hl hp
  clear hl
  have hp := hp rfl
  simp only [C49, show T.pre 49 = Q49 from rfl, flatS, SP.flat, dvs, List.append_nil, List.cons_append, List.nil_append, Q49, U64, U32, I64, Big, W, wv, s64, WT, PR, MR, MB] at hp
  simp only [t49, C49, Tr.good, Fact.den, LX.den, DX.ls, DV.ls, DX.den, Bx.den, Ex.den, eo_add, eo_sub, eo_mul, eo_quo, eo_rem, eo_fdv, eo_mn, eo_mx, eo_land, eo_lor, eo_lxor, eo_landn, eo_shl, eo_shr, dvs, flatS, SP.flat, ST.flat, List.map_cons, List.map_nil, List.append_nil, List.cons_append, List.nil_append, ltb_t, ltb_f, leb_t, leb_f, eqb_t, eqb_f, decide_eq_true_eq, decide_eq_false_iff_not, Bool.not_eq_true', Bool.not_eq_false', Bool.and_eq_true, Bool.and_eq_false_imp, beq_iff_eq, beq_eq_false_iff_ne, bne_iff_ne, U64, U32, I64, Big, W, wv, Told, s64, WT, PR, MR, MB, Int.zero_mul, Int.zero_add, Int.add_zero, Int.mul_zero, IntKind.wrap_u64, IntKind.wrap_i64, IntKind.wrap_u32, ne_eq, forall_const, true_implies, show T.rel 49 = R49 from rfl, R49, show T.rel 74 = R74 from rfl, R74, show T.pre 49 = Q49 from rfl, Q49, show T.pre 74 = Q74 from rfl, Q74]
  revert hp
  generalize (E.r 0).i 0 = h
  generalize (E.r 0).i 1 = l
  generalize (E.r 65544).i 0 = x8_0
  generalize (E.r 65544).i 1 = x8_1
  try simp only [mxI, mnI]
  try simp only [ltb, leb, eqb, Int.lt_irrefl, decide_false, Int.le_refl, decide_true]
  repeat' (first | intro _ | refine And.intro ?_ ?_ | refine Iff.intro ?_ ?_)
  all_goals first | omega | (simp_all; done) | (simp_all; omega)
end Go.Proofs.YtjemohphaeiaiaaGreatDoor.Fn
namespace Go.Proofs.YtjemohphaeiaiaaGreatDoor.Fn
open Go Go.RowKit Go.Proofs.YtjemohphaeiaiaaGreatDoor.Sy
set_option linter.unusedVariables false
set_option linter.unusedSimpArgs false
set_option maxRecDepth 100000
def t50 : Tr :=
  .ok [.num (.wrap .u64 (.bin .add (.v 0 0) (.wrap .u64 (.v 0 1))))]
theorem c50 : ConS Tryz.prog T C50 := con_tr (cs := []) (lcs := []) (known := []) (cons_nil _ _) (Known.nil _) (N := 400) (d := 40) (t := t50) (by kernel_rfl) <| by
  intro E hl hp
  clear hl
  clear hp
  simp only [t50, C50, Tr.good, Fact.den, LX.den, DX.ls, DV.ls, DX.den, Bx.den, Ex.den, eo_add, eo_sub, eo_mul, eo_quo, eo_rem, eo_fdv, eo_mn, eo_mx, eo_land, eo_lor, eo_lxor, eo_landn, eo_shl, eo_shr, dvs, flatS, SP.flat, ST.flat, List.map_cons, List.map_nil, List.append_nil, List.cons_append, List.nil_append, ltb_t, ltb_f, leb_t, leb_f, eqb_t, eqb_f, decide_eq_true_eq, decide_eq_false_iff_not, Bool.not_eq_true', Bool.not_eq_false', Bool.and_eq_true, Bool.and_eq_false_imp, beq_iff_eq, beq_eq_false_iff_ne, bne_iff_ne, U64, U32, I64, Big, W, wv, Told, s64, WT, PR, MR, MB, Int.zero_mul, Int.zero_add, Int.add_zero, Int.mul_zero, IntKind.wrap_u64, IntKind.wrap_i64, IntKind.wrap_u32, ne_eq, forall_const, true_implies, show T.rel 50 = R50 from rfl, R50]
  generalize (E.r 0).i 0 = t
  generalize (E.r 0).i 1 = d
  try simp only [mxI, mnI]
  try simp only [ltb, leb, eqb, Int.lt_irrefl, decide_false, Int.le_refl, decide_true]
  repeat' (first | intro _ | refine And.intro ?_ ?_ | refine Iff.intro ?_ ?_)
  all_goals first | omega | (simp_all; done) | (simp_all; omega)
end Go.Proofs.YtjemohphaeiaiaaGreatDoor.Fn
namespace Go.Proofs.YtjemohphaeiaiaaGreatDoor.Fn
open Go Go.RowKit Go.Proofs.YtjemohphaeiaiaaGreatDoor.Sy
set_option linter.unusedVariables false
set_option linter.unusedSimpArgs false
set_option maxRecDepth 100000
def t36 : Tr :=
  .f (.rel 33 [.num (.v 0 3)] 65540 [.bool]) <|
   .br (.f (.is (.v 65540 0) false) <|
    .ok [.num (.n 0), .num (.n 0), .num (.n 0), .tru (.lt (.n 0) (.n 0))])
   (.f (.is (.v 65540 0) true) <|
    .br (.f (.rel 48 [.num (.v 0 1), .num (.v 0 2), .num (.wrap .u64 (.v 0 3))] 65545 [.int .i64, .int .u64, .int .u64, .bool]) <|
     .br (.f (.rel 49 [.num (.v 65545 0), .num (.v 65545 1)] 65555 [.int .i64, .bool]) <|
      .br (.f (.is (.v 65555 1) false) <|
       .ok [.num (.n 0), .num (.n 0), .num (.n 0), .tru (.lt (.n 0) (.n 0))])
      (.f (.is (.v 65555 1) true) <|
       .f (.rel 50 [.num (.v 0 0), .num (.v 65555 0)] 65565 [.int .u64]) <|
        .ok [.num (.v 65565 0), .num (.wrap .u32 (.v 65545 2)), .num (.v 0 3), .tru (.le (.n 0) (.n 0))]))
     (.f (.npre 49 [.num (.v 65545 0), .num (.v 65545 1)]) <|
      .bad))
    (.f (.npre 48 [.num (.v 0 1), .num (.v 0 2), .num (.wrap .u64 (.v 0 3))]) <|
     .bad))
theorem c36 : ConS Tryz.prog T C36 := con_tr (cs := [C33, C48, C49, C50]) (lcs := []) (known := []) (cons_cons c33 (cons_cons c48 (cons_cons c49 (cons_cons c50 (cons_nil _ _))))) (Known.nil _) (N := 400) (d := 40) (t := t36) (by kernel_rfl) <| by
  intro E hl hp
  clear hl
  have hp := hp rfl
  simp only [C36, show T.pre 36 = Q36 from rfl, flatS, SP.flat, dvs, List.append_nil, List.cons_append, List.nil_append, Q36, U64, U32, I64, Big, W, wv, s64, WT, PR, MR, MB] at hp
  simp only [t36, C36, Tr.good, Fact.den, LX.den, DX.ls, DV.ls, DX.den, Bx.den, Ex.den, eo_add, eo_sub, eo_mul, eo_quo, eo_rem, eo_fdv, eo_mn, eo_mx, eo_land, eo_lor, eo_lxor, eo_landn, eo_shl, eo_shr, dvs, flatS, SP.flat, ST.flat, List.map_cons, List.map_nil, List.append_nil, List.cons_append, List.nil_append, ltb_t, ltb_f, leb_t, leb_f, eqb_t, eqb_f, decide_eq_true_eq, decide_eq_false_iff_not, Bool.not_eq_true', Bool.not_eq_false', Bool.and_eq_true, Bool.and_eq_false_imp, beq_iff_eq, beq_eq_false_iff_ne, bne_iff_ne, U64, U32, I64, Big, W, wv, Told, s64, WT, PR, MR, MB, Int.zero_mul, Int.zero_add, Int.add_zero, Int.mul_zero, IntKind.wrap_u64, IntKind.wrap_i64, IntKind.wrap_u32, ne_eq, forall_const, true_implies, show T.rel 33 = R33 from rfl, R33, show T.rel 36 = R36 from rfl, R36, show T.rel 48 = R48 from rfl, R48, show T.rel 49 = R49 from rfl, R49, show T.rel 50 = R50 from rfl, R50, show T.pre 36 = Q36 from rfl, Q36, show T.pre 48 = Q48 from rfl, Q48, show T.pre 49 = Q49 from rfl, Q49]
  revert hp
  generalize (E.r 0).i 0 = base
  generalize (E.r 0).i 1 = h
  generalize (E.r 0).i 2 = l
  generalize (E.r 0).i 3 = w
  generalize (E.r 65540).c 0 = x4_0
  generalize (E.r 65545).i 0 = x9_0
  generalize (E.r 65545).i 1 = x9_1
  generalize (E.r 65545).i 2 = x9_2
  generalize (E.r 65545).c 3 = x9_3
  generalize (E.r 65555).i 0 = x19_0
  generalize (E.r 65555).c 1 = x19_1
  generalize (E.r 65565).i 0 = x29_0
  try simp only [mxI, mnI]
  try simp only [ltb, leb, eqb, Int.lt_irrefl, decide_false, Int.le_refl, decide_true]
  intro hp
  have e1 : w % 18446744073709551616 = w := by omega
  simp only [e1]
  repeat' (first | intro _ | refine And.intro ?_ ?_ | refine Iff.intro ?_ ?_)
  all_goals first | omega | (simp_all; done) | (simp_all; omega)
end Go.Proofs.YtjemohphaeiaiaaGreatDoor.Fn
namespace Go.Proofs.YtjemohphaeiaiaaGreatDoor.Fn
open Go Go.RowKit Go.Proofs.YtjemohphaeiaiaaGreatDoor.Sy
set_option linter.unusedVariables false
set_option linter.unusedSimpArgs false
set_option maxRecDepth 100000
def t17 : Tr :=
  .f (.rel 34 [.num (.v 0 3)] 65540 [.int .i64, .int .u64]) <|
   .f (.rel 34 [.num (.wrap .u64 (.v 0 1))] 65544 [.int .i64, .int .u64]) <|
    .br (.f (.rel 35 [.num (.v 65540 0), .num (.v 65540 1), .num (.v 65544 0), .num (.v 65544 1)] 65545 [.int .i64, .int .u64, .bool]) <|
     .br (.f (.rel 36 [.num (.v 0 0), .num (.v 65545 0), .num (.v 65545 1), .num (.v 0 2)] 65557 [.int .u64, .int .u32, .int .u32, .bool]) <|
      .ok [.num (.v 65557 0), .num (.v 65557 1), .num (.v 65557 2), .tru (.v 65557 3)])
     (.f (.npre 36 [.num (.v 0 0), .num (.v 65545 0), .num (.v 65545 1), .num (.v 0 2)]) <|
      .bad))
    (.f (.npre 35 [.num (.v 65540 0), .num (.v 65540 1), .num (.v 65544 0), .num (.v 65544 1)]) <|
     .bad)
theorem c17 : ConS Tryz.prog T C17 := con_tr (cs := [C34, C35, C36]) (lcs := []) (known := []) (cons_cons c34 (cons_cons c35 (cons_cons c36 (cons_nil _ _)))) (Known.nil _) (N := 400) (d := 40) (t := t17) (by kernel_rfl) <| by
  intro E hl hp
  clear hl
  have hp := hp rfl
  simp only [C17, show T.pre 17 = Q17 from rfl, flatS, SP.flat, dvs, List.append_nil, List.cons_append, List.nil_append, Q17, U64, U32, I64, Big, W, wv, s64, WT, PR, MR, MB] at hp
  simp only [t17, C17, Tr.good, Fact.den, LX.den, DX.ls, DV.ls, DX.den, Bx.den, Ex.den, eo_add, eo_sub, eo_mul, eo_quo, eo_rem, eo_fdv, eo_mn, eo_mx, eo_land, eo_lor, eo_lxor, eo_landn, eo_shl, eo_shr, dvs, flatS, SP.flat, ST.flat, List.map_cons, List.map_nil, List.append_nil, List.cons_append, List.nil_append, ltb_t, ltb_f, leb_t, leb_f, eqb_t, eqb_f, decide_eq_true_eq, decide_eq_false_iff_not, Bool.not_eq_true', Bool.not_eq_false', Bool.and_eq_true, Bool.and_eq_false_imp, beq_iff_eq, beq_eq_false_iff_ne, bne_iff_ne, U64, U32, I64, Big, W, wv, Told, s64, WT, PR, MR, MB, Int.zero_mul, Int.zero_add, Int.add_zero, Int.mul_zero, IntKind.wrap_u64, IntKind.wrap_i64, IntKind.wrap_u32, ne_eq, forall_const, true_implies, show T.rel 17 = R17 from rfl, R17, show T.rel 34 = R34 from rfl, R34, show T.rel 35 = R35 from rfl, R35, show T.rel 36 = R36 from rfl, R36, show T.pre 17 = Q17 from rfl, Q17, show T.pre 35 = Q35 from rfl, Q35, show T.pre 36 = Q36 from rfl, Q36]
  revert hp
  generalize (E.r 0).i 0 = t
  generalize (E.r 0).i 1 = r
  generalize (E.r 0).i 2 = w
  generalize (E.r 0).i 3 = g
  generalize (E.r 65540).i 0 = x4_0
  generalize (E.r 65540).i 1 = x4_1
  generalize (E.r 65544).i 0 = x8_0
  generalize (E.r 65544).i 1 = x8_1
  generalize (E.r 65545).i 0 = x9_0
  generalize (E.r 65545).i 1 = x9_1
  generalize (E.r 65545).c 2 = x9_2
  generalize (E.r 65557).i 0 = x21_0
  generalize (E.r 65557).i 1 = x21_1
  generalize (E.r 65557).i 2 = x21_2
  generalize (E.r 65557).c 3 = x21_3
  try simp only [mxI, mnI]
  try simp only [ltb, leb, eqb, Int.lt_irrefl, decide_false, Int.le_refl, decide_true]
  intro hp
  simp only [show r % 18446744073709551616 = r by omega, show w % 18446744073709551616 = w by omega]
  rintro ⟨rfl, rfl⟩ ⟨rfl, rfl⟩
  simp only [Int.zero_mul, Int.zero_add]
  refine ⟨fun f3 => ⟨fun f4 => ?_, by omega⟩, by omega⟩
  have e : x9_0 * 18446744073709551616 + x9_1 = x4_1 + x8_1 := by
    cases x9_2 <;> simp only [reduceCtorEq, false_imp_iff, true_imp_iff, true_and, and_true] at f3 <;> omega
  rw [e] at f4
  exact f4
end Go.Proofs.YtjemohphaeiaiaaGreatDoor.Fn
namespace Go.Proofs.YtjemohphaeiaiaaGreatDoor.Fn
open Go Go.RowKit Go.Proofs.YtjemohphaeiaiaaGreatDoor.Sy
set_option linter.unusedVariables false
set_option linter.unusedSimpArgs false
set_option maxRecDepth 100000
def t15 : Tr :=
  .f (.rel 33 [.num (.v 0 2)] 65540 [.bool]) <|
   .br (.f (.is (.v 65540 0) true) <|
    .ok [.tru (.lt (.v 0 1) (.v 0 2))])
   (.f (.is (.v 65540 0) false) <|
    .ok [.tru (.lt (.n 0) (.n 0))])
theorem c15 : ConS Tryz.prog T C15 := con_tr (cs := [C33]) (lcs := []) (known := []) (cons_cons c33 (cons_nil _ _)) (Known.nil _) (N := 400) (d := 40) (t := t15) (by kernel_rfl) <| by
  intro E hl hp
  clear hl
  clear hp
  simp only [t15, C15, Tr.good, Fact.den, LX.den, DX.ls, DV.ls, DX.den, Bx.den, Ex.den, eo_add, eo_sub, eo_mul, eo_quo, eo_rem, eo_fdv, eo_mn, eo_mx, eo_land, eo_lor, eo_lxor, eo_landn, eo_shl, eo_shr, dvs, flatS, SP.flat, ST.flat, List.map_cons, List.map_nil, List.append_nil, List.cons_append, List.nil_append, ltb_t, ltb_f, leb_t, leb_f, eqb_t, eqb_f, decide_eq_true_eq, decide_eq_false_iff_not, Bool.not_eq_true', Bool.not_eq_false', Bool.and_eq_true, Bool.and_eq_false_imp, beq_iff_eq, beq_eq_false_iff_ne, bne_iff_ne, U64, U32, I64, Big, W, wv, Told, s64, WT, PR, MR, MB, Int.zero_mul, Int.zero_add, Int.add_zero, Int.mul_zero, IntKind.wrap_u64, IntKind.wrap_i64, IntKind.wrap_u32, ne_eq, forall_const, true_implies, show T.rel 15 = R15 from rfl, R15, show T.rel 33 = R33 from rfl, R33]
  generalize (E.r 0).i 0 = t
  generalize (E.r 0).i 1 = r
  generalize (E.r 0).i 2 = w
  generalize (E.r 65540).c 0 = x4_0
  try simp only [mxI, mnI]
  try simp only [ltb, leb, eqb, Int.lt_irrefl, decide_false, Int.le_refl, decide_true]
  repeat' (first | intro _ | refine And.intro ?_ ?_ | refine Iff.intro ?_ ?_)
  all_goals first | omega | (simp_all; done) | (simp_all; omega)
end Go.Proofs.YtjemohphaeiaiaaGreatDoor.Fn
namespace Go.Proofs.YtjemohphaeiaiaaGreatDoor.Fn
open Go Go.RowKit Go.Proofs.YtjemohphaeiaiaaGreatDoor.Sy
set_option linter.unusedVariables false
set_option linter.unusedSimpArgs false
set_option maxRecDepth 100000
def t51 : Tr :=
  .ok [.num (.wrap .i64 (.wrap .u64 (.bin .sub (.v 0 0) (.v 0 1))))]
theorem c51 : ConS Tryz.prog T C51 := con_tr (cs := []) (lcs := []) (known := []) (cons_nil _ _) (Known.nil _) (N := 400) (d := 40) (t := t51) (by kernel_rfl) <| by
  intro E hl hp
  clear hl
  clear hp
  simp only [t51, C51, Tr.good, Fact.den, LX.den, DX.ls, DV.ls, DX.den, Bx.den, Ex.den, eo_add, eo_sub, eo_mul, eo_quo, eo_rem, eo_fdv, eo_mn, eo_mx, eo_land, eo_lor, eo_lxor, eo_landn, eo_shl, eo_shr, dvs, flatS, SP.flat, ST.flat, List.map_cons, List.map_nil, List.append_nil, List.cons_append, List.nil_append, ltb_t, ltb_f, leb_t, leb_f, eqb_t, eqb_f, decide_eq_true_eq, decide_eq_false_iff_not, Bool.not_eq_true', Bool.not_eq_false', Bool.and_eq_true, Bool.and_eq_false_imp, beq_iff_eq, beq_eq_false_iff_ne, bne_iff_ne, U64, U32, I64, Big, W, wv, Told, s64, WT, PR, MR, MB, Int.zero_mul, Int.zero_add, Int.add_zero, Int.mul_zero, IntKind.wrap_u64, IntKind.wrap_i64, IntKind.wrap_u32, ne_eq, forall_const, true_implies, show T.rel 51 = R51 from rfl, R51]
  generalize (E.r 0).i 0 = t
  generalize (E.r 0).i 1 = u
  try simp only [mxI, mnI]
  try simp only [ltb, leb, eqb, Int.lt_irrefl, decide_false, Int.le_refl, decide_true]
  repeat' (first | intro _ | refine And.intro ?_ ?_ | refine Iff.intro ?_ ?_)
  all_goals first | omega | (simp_all; done) | (simp_all; omega)
end Go.Proofs.YtjemohphaeiaiaaGreatDoor.Fn
namespace Go.Proofs.YtjemohphaeiaiaaGreatDoor.Fn
open Go Go.RowKit Go.Proofs.YtjemohphaeiaiaaGreatDoor.Sy
set_option linter.unusedVariables false
set_option linter.unusedSimpArgs false
set_option maxRecDepth 100000
def t37 : Tr :=
  .f (.rel 51 [.num (.v 0 4), .num (.v 0 0)] 65544 [.int .i64]) <|
   .f (.rel 15 [.num (.v 0 0), .num (.v 0 1), .num (.v 0 2)] 65548 [.bool]) <|
    .br (.f (.is (.v 65548 0) true) <|
     .f (.rel 15 [.num (.v 0 4), .num (.v 0 5), .num (.v 0 6)] 65552 [.bool]) <|
      .br (.f (.is (.v 65552 0) true) <|
       .br (.f (.is (.eq (.v 0 2) (.v 0 6)) true) <|
        .br (.f (.is (.lt (.n 0) (.v 0 3)) true) <|
         .br (.f (.is (.le (.n 0) (.v 65544 0)) true) <|
          .ok [.tru (.le (.v 65544 0) (.n 1152921504606846976))])
         (.f (.is (.le (.n 0) (.v 65544 0)) false) <|
          .ok [.tru (.lt (.n 0) (.n 0))]))
        (.f (.is (.lt (.n 0) (.v 0 3)) false) <|
         .ok [.tru (.lt (.n 0) (.n 0))]))
       (.f (.is (.eq (.v 0 2) (.v 0 6)) false) <|
        .ok [.tru (.lt (.n 0) (.n 0))]))
      (.f (.is (.v 65552 0) false) <|
       .ok [.tru (.lt (.n 0) (.n 0))]))
    (.f (.is (.v 65548 0) false) <|
     .ok [.tru (.lt (.n 0) (.n 0))])
theorem c37 : ConS Tryz.prog T C37 := con_tr (cs := [C15, C51]) (lcs := []) (known := []) (cons_cons c15 (cons_cons c51 (cons_nil _ _))) (Known.nil _) (N := 400) (d := 40) (t := t37) (by kernel_rfl) <| by
  intro E hl hp
  clear hl
  have hp := hp rfl
  simp only [C37, show T.pre 37 = Q37 from rfl, flatS, SP.flat, dvs, List.append_nil, List.cons_append, List.nil_append, Q37, U64, U32, I64, Big, W, wv, s64, WT, PR, MR, MB] at hp
  simp only [t37, C37, Tr.good, Fact.den, LX.den, DX.ls, DV.ls, DX.den, Bx.den, Ex.den, eo_add, eo_sub, eo_mul, eo_quo, eo_rem, eo_fdv, eo_mn, eo_mx, eo_land, eo_lor, eo_lxor, eo_landn, eo_shl, eo_shr, dvs, flatS, SP.flat, ST.flat, List.map_cons, List.map_nil, List.append_nil, List.cons_append, List.nil_append, ltb_t, ltb_f, leb_t, leb_f, eqb_t, eqb_f, decide_eq_true_eq, decide_eq_false_iff_not, Bool.not_eq_true', Bool.not_eq_false', Bool.and_eq_true, Bool.and_eq_false_imp, beq_iff_eq, beq_eq_false_iff_ne, bne_iff_ne, U64, U32, I64, Big, W, wv, Told, s64, WT, PR, MR, MB, Int.zero_mul, Int.zero_add, Int.add_zero, Int.mul_zero, IntKind.wrap_u64, IntKind.wrap_i64, IntKind.wrap_u32, ne_eq, forall_const, true_implies, show T.rel 15 = R15 from rfl, R15, show T.rel 37 = R37 from rfl, R37, show T.rel 51 = R51 from rfl, R51, show T.pre 37 = Q37 from rfl, Q37]
  revert hp
  generalize (E.r 0).i 0 = t
  generalize (E.r 0).i 1 = r
  generalize (E.r 0).i 2 = w
  generalize (E.r 0).i 3 = id
  generalize (E.r 0).i 4 = dt
  generalize (E.r 0).i 5 = dr
  generalize (E.r 0).i 6 = dw
  generalize (E.r 65544).i 0 = x8_0
  generalize (E.r 65548).c 0 = x12_0
  generalize (E.r 65552).c 0 = x16_0
  try simp only [mxI, mnI]
  try simp only [ltb, leb, eqb, Int.lt_irrefl, decide_false, Int.le_refl, decide_true]
  repeat' (first | intro _ | refine And.intro ?_ ?_ | refine Iff.intro ?_ ?_)
  all_goals first | omega | (simp_all; done) | (simp_all; omega)
end Go.Proofs.YtjemohphaeiaiaaGreatDoor.Fn
namespace Go.Proofs.YtjemohphaeiaiaaGreatDoor.Fn
open Go Go.RowKit Go.Proofs.YtjemohphaeiaiaaGreatDoor.Sy
set_option linter.unusedVariables false
set_option linter.unusedSimpArgs false
set_option maxRecDepth 100000
def t38 : Tr :=
  .br (.f (.is (.le (.n 1) (.v 0 0)) true) <|
   .ok [.tru (.le (.v 0 0) (.n 1099511627776))])
  (.f (.is (.le (.n 1) (.v 0 0)) false) <|
   .ok [.tru (.lt (.n 0) (.n 0))])
theorem c38 : ConS Tryz.prog T C38 := con_tr (cs := []) (lcs := []) (known := []) (cons_nil _ _) (Known.nil _) (N := 400) (d := 40) (t := t38) (by kernel_rfl) <| by
  intro E hl hp
  clear hl
  clear hp
  simp only [t38, C38, Tr.good, Fact.den, LX.den, DX.ls, DV.ls, DX.den, Bx.den, Ex.den, eo_add, eo_sub, eo_mul, eo_quo, eo_rem, eo_fdv, eo_mn, eo_mx, eo_land, eo_lor, eo_lxor, eo_landn, eo_shl, eo_shr, dvs, flatS, SP.flat, ST.flat, List.map_cons, List.map_nil, List.append_nil, List.cons_append, List.nil_append, ltb_t, ltb_f, leb_t, leb_f, eqb_t, eqb_f, decide_eq_true_eq, decide_eq_false_iff_not, Bool.not_eq_true', Bool.not_eq_false', Bool.and_eq_true, Bool.and_eq_false_imp, beq_iff_eq, beq_eq_false_iff_ne, bne_iff_ne, U64, U32, I64, Big, W, wv, Told, s64, WT, PR, MR, MB, Int.zero_mul, Int.zero_add, Int.add_zero, Int.mul_zero, IntKind.wrap_u64, IntKind.wrap_i64, IntKind.wrap_u32, ne_eq, forall_const, true_implies, show T.rel 38 = R38 from rfl, R38]
  generalize (E.r 0).i 0 = ns
  try simp only [mxI, mnI]
  try simp only [ltb, leb, eqb, Int.lt_irrefl, decide_false, Int.le_refl, decide_true]
  simp only [NS]
  repeat' (first | intro _ | refine And.intro ?_ ?_ | refine Iff.intro ?_ ?_)
  all_goals first | omega | (simp_all; done) | (simp_all; omega)
end Go.Proofs.YtjemohphaeiaiaaGreatDoor.Fn
namespace Go.Proofs.YtjemohphaeiaiaaGreatDoor.Fn
open Go Go.RowKit Go.Proofs.YtjemohphaeiaiaaGreatDoor.Sy
set_option linter.unusedVariables false
set_option linter.unusedSimpArgs false
set_option maxRecDepth 100000
def t39 : Tr :=
  .br (.f (.rel 17 [.num (.v 0 0), .num (.v 0 1), .num (.v 0 2), .num (.wrap .u64 (.bin .mul (.v 0 3) (.n 1048576)))] 65541 [.int .u64, .int .u32, .int .u32, .bool]) <|
   .ok [.num (.v 65541 0), .num (.v 65541 1), .num (.v 65541 2)])
  (.f (.npre 17 [.num (.v 0 0), .num (.v 0 1), .num (.v 0 2), .num (.wrap .u64 (.bin .mul (.v 0 3) (.n 1048576)))]) <|
   .bad)
theorem c39 : ConS Tryz.prog T C39 := con_tr (cs := [C17]) (lcs := []) (known := []) (cons_cons c17 (cons_nil _ _)) (Known.nil _) (N := 400) (d := 40) (t := t39) (by kernel_rfl) <| by
  intro E hl hp
  clear hl
  have hp := hp rfl
  simp only [C39, show T.pre 39 = Q39 from rfl, flatS, SP.flat, dvs, List.append_nil, List.cons_append, List.nil_append, Q39, U64, U32, I64, Big, W, wv, s64, WT, PR, MR, MB] at hp
  simp only [t39, C39, Tr.good, Fact.den, LX.den, DX.ls, DV.ls, DX.den, Bx.den, Ex.den, eo_add, eo_sub, eo_mul, eo_quo, eo_rem, eo_fdv, eo_mn, eo_mx, eo_land, eo_lor, eo_lxor, eo_landn, eo_shl, eo_shr, dvs, flatS, SP.flat, ST.flat, List.map_cons, List.map_nil, List.append_nil, List.cons_append, List.nil_append, ltb_t, ltb_f, leb_t, leb_f, eqb_t, eqb_f, decide_eq_true_eq, decide_eq_false_iff_not, Bool.not_eq_true', Bool.not_eq_false', Bool.and_eq_true, Bool.and_eq_false_imp, beq_iff_eq, beq_eq_false_iff_ne, bne_iff_ne, U64, U32, I64, Big, W, wv, Told, s64, WT, PR, MR, MB, Int.zero_mul, Int.zero_add, Int.add_zero, Int.mul_zero, IntKind.wrap_u64, IntKind.wrap_i64, IntKind.wrap_u32, ne_eq, forall_const, true_implies, show T.rel 17 = R17 from rfl, R17, show T.rel 39 = R39 from rfl, R39, show T.pre 17 = Q17 from rfl, Q17, show T.pre 39 = Q39 from rfl, Q39]
  revert hp
  generalize (E.r 0).i 0 = t
  generalize (E.r 0).i 1 = r
  generalize (E.r 0).i 2 = w
  generalize (E.r 0).i 3 = ns
  generalize (E.r 65541).i 0 = x5_0
  generalize (E.r 65541).i 1 = x5_1
  generalize (E.r 65541).i 2 = x5_2
  generalize (E.r 65541).c 3 = x5_3
  try simp only [mxI, mnI]
  try simp only [ltb, leb, eqb, Int.lt_irrefl, decide_false, Int.le_refl, decide_true]
  intro hp
  obtain ⟨h0, h1, h2, h3⟩ := hp
  have e : ns * 1048576 % 18446744073709551616 = ns * 1048576 := by omega
  simp only [e, mvt, mvr]
  have q := fun h : 1 ≤ w => quo_le (a := ns * 1048576 + r) (w := w) (by omega) h
  generalize (ns * 1048576 + r) / w = Q at *
  generalize (ns * 1048576 + r) % w = R at *
  repeat' (first | assumption | (intro (h : _ ∧ _); obtain ⟨h1, h2⟩ := h; (first | (subst h1; revert h2) | revert h1 h2)) | (intro h; (first | subst h | skip)) | refine And.intro ?_ ?_)
  all_goals try (show False; refine absurd ?_ ‹¬ _›)
  all_goals repeat' (first | assumption | refine And.intro ?_ ?_)
  all_goals first | omega | grind
end Go.Proofs.YtjemohphaeiaiaaGreatDoor.Fn
namespace Go.Proofs.YtjemohphaeiaiaaGreatDoor.Fn
open Go Go.RowKit Go.Proofs.YtjemohphaeiaiaaGreatDoor.Sy
set_option linter.unusedVariables false
set_option linter.unusedSimpArgs false
set_option maxRecDepth 100000
def t18 : Tr :=
  .br (.f (.rel 37 [.num (.v 0 0), .num (.v 0 1), .num (.v 0 2), .num (.v 0 3), .num (.v 0 4), .num (.v 0 5), .num (.v 0 6)] 65540 [.bool]) <|
   .br (.f (.is (.v 65540 0) true) <|
    .f (.rel 38 [.num (.v 0 7)] 65544 [.bool]) <|
     .br (.f (.is (.v 65544 0) true) <|
      .f (.rel 38 [.num (.v 0 8)] 65549 [.bool]) <|
       .br (.f (.is (.v 65549 0) true) <|
        .br (.f (.rel 39 [.num (.v 0 0), .num (.v 0 1), .num (.v 0 2), .num (.v 0 7)] 65557 [.int .u64, .int .u32, .int .u32]) <|
         .ok [.tru (.and (.eq (.v 65557 0) (.v 0 4)) (.and (.eq (.v 65557 1) (.v 0 5)) (.and (.eq (.v 65557 2) (.v 0 6)) (.le (.n 0) (.n 0)))))])
        (.f (.npre 39 [.num (.v 0 0), .num (.v 0 1), .num (.v 0 2), .num (.v 0 7)]) <|
         .bad))
       (.f (.is (.v 65549 0) false) <|
        .ok [.tru (.lt (.n 0) (.n 0))]))
     (.f (.is (.v 65544 0) false) <|
      .ok [.tru (.lt (.n 0) (.n 0))]))
   (.f (.is (.v 65540 0) false) <|
    .ok [.tru (.lt (.n 0) (.n 0))]))
  (.f (.npre 37 [.num (.v 0 0), .num (.v 0 1), .num (.v 0 2), .num (.v 0 3), .num (.v 0 4), .num (.v 0 5), .num (.v 0 6)]) <|
   .bad)
theorem c18 : ConS Tryz.prog T C18 := con_tr (cs := [C37, C38, C39]) (lcs := []) (known := []) (cons_cons c37 (cons_cons c38 (cons_cons c39 (cons_nil _ _)))) (Known.nil _) (N := 400) (d := 40) (t := t18) (by kernel_rfl) <| by
  intro E hl hp
  clear hl
  have hp := hp rfl
  simp only [C18, show T.pre 18 = Q18 from rfl, flatS, SP.flat, dvs, List.append_nil, List.cons_append, List.nil_append, Q18, U64, U32, I64, Big, W, wv, s64, MR, MB] at hp
  simp only [t18, C18, Tr.good, Fact.den, LX.den, DX.ls, DV.ls, DX.den, Bx.den, Ex.den, eo_add, eo_sub, eo_mul, eo_quo, eo_rem, eo_fdv, eo_mn, eo_mx, eo_land, eo_lor, eo_lxor, eo_landn, eo_shl, eo_shr, dvs, flatS, SP.flat, ST.flat, List.map_cons, List.map_nil, List.append_nil, List.cons_append, List.nil_append, ltb_t, ltb_f, leb_t, leb_f, eqb_t, eqb_f, decide_eq_true_eq, decide_eq_false_iff_not, Bool.not_eq_true', Bool.not_eq_false', Bool.and_eq_true, Bool.and_eq_false_imp, beq_iff_eq, beq_eq_false_iff_ne, bne_iff_ne, U64, U32, I64, Big, W, wv, Told, s64, MR, MB, Int.zero_mul, Int.zero_add, Int.add_zero, Int.mul_zero, IntKind.wrap_u64, IntKind.wrap_i64, IntKind.wrap_u32, ne_eq, forall_const, true_implies, show T.rel 18 = R18 from rfl, R18, show T.rel 37 = R37 from rfl, R37, show T.rel 38 = R38 from rfl, R38, show T.rel 39 = R39 from rfl, R39, show T.pre 18 = Q18 from rfl, Q18, show T.pre 37 = Q37 from rfl, Q37, show T.pre 39 = Q39 from rfl, Q39]
  revert hp
  generalize (E.r 0).i 0 = t
  generalize (E.r 0).i 1 = r
  generalize (E.r 0).i 2 = w
  generalize (E.r 0).i 3 = id
  generalize (E.r 0).i 4 = dt
  generalize (E.r 0).i 5 = dr
  generalize (E.r 0).i 6 = dw
  generalize (E.r 0).i 7 = l
  generalize (E.r 0).i 8 = s
  generalize (E.r 0).c 9 = a
  generalize (E.r 65540).c 0 = x4_0
  generalize (E.r 65544).c 0 = x8_0
  generalize (E.r 65549).c 0 = x13_0
  generalize (E.r 65557).i 0 = x21_0
  generalize (E.r 65557).i 1 = x21_1
  generalize (E.r 65557).i 2 = x21_2
  try simp only [mxI, mnI]
  try simp only [ltb, leb, eqb, Int.lt_irrefl, decide_false, Int.le_refl, decide_true]
  intro hp
  simp only [RQ]
  have d := due_right (t := t) (r := r) (w := w) (l := l) hp.1 hp.2.1.1
  have wt : PR r w → WT w := fun h => ⟨h.1, h.2.1⟩
  simp only [s64] at d
  repeat' (first | assumption | (intro (h : _ ∧ _); obtain ⟨h1, h2⟩ := h; (first | (subst h1; revert h2) | revert h1 h2)) | (intro h; (first | subst h | skip)) | refine And.intro ?_ ?_)
  all_goals try (show False; refine absurd ?_ ‹¬ _›)
  all_goals repeat' (first | assumption | refine And.intro ?_ ?_)
  all_goals first | omega | grind
end Go.Proofs.YtjemohphaeiaiaaGreatDoor.Fn
namespace Go.Proofs.YtjemohphaeiaiaaGreatDoor.Fn
open Go Go.RowKit Go.Proofs.YtjemohphaeiaiaaGreatDoor.Sy
set_option linter.unusedVariables false
set_option linter.unusedSimpArgs false
set_option maxRecDepth 100000
def t29 : Tr :=
  .f (.rel 38 [.num (.v 0 7)] 65541 [.bool]) <|
   .br (.f (.is (.v 65541 0) true) <|
    .br (.f (.rel 39 [.num (.v 0 0), .num (.v 0 1), .num (.v 0 2), .num (.v 0 7)] 65547 [.int .u64, .int .u32, .int .u32]) <|
     .br (.f (.rel 18 [.num (.v 0 0), .num (.v 0 1), .num (.v 0 2), .num (.v 0 3), .num (.v 65547 0), .num (.v 65547 1), .num (.v 65547 2), .num (.v 0 7), .num (.v 0 8), .tru (.v 0 9)] 65552 [.bool]) <|
      .br (.f (.is (.v 65552 0) false) <|
       .ok [.num (.n 0), .num (.n 0), .num (.n 0), .num (.n 0), .num (.n 0), .num (.n 0), .num (.n 0), .num (.n 0), .num (.n 0), .tru (.lt (.n 0) (.n 0)), .tru (.lt (.n 0) (.n 0))])
      (.f (.is (.v 65552 0) true) <|
       .ok [.num (.v 0 0), .num (.v 0 1), .num (.v 0 2), .num (.v 0 3), .num (.v 65547 0), .num (.v 65547 1), .num (.v 65547 2), .num (.v 0 7), .num (.v 0 8), .tru (.v 0 9), .tru (.le (.n 0) (.n 0))]))
     (.f (.npre 18 [.num (.v 0 0), .num (.v 0 1), .num (.v 0 2), .num (.v 0 3), .num (.v 65547 0), .num (.v 65547 1), .num (.v 65547 2), .num (.v 0 7), .num (.v 0 8), .tru (.v 0 9)]) <|
      .bad))
    (.f (.npre 39 [.num (.v 0 0), .num (.v 0 1), .num (.v 0 2), .num (.v 0 7)]) <|
     .bad))
   (.f (.is (.v 65541 0) false) <|
    .br (.f (.rel 18 [.num (.v 0 0), .num (.v 0 1), .num (.v 0 2), .num (.v 0 3), .num (.v 0 4), .num (.v 0 5), .num (.v 0 6), .num (.v 0 7), .num (.v 0 8), .tru (.v 0 9)] 65543 [.bool]) <|
     .br (.f (.is (.v 65543 0) false) <|
      .ok [.num (.n 0), .num (.n 0), .num (.n 0), .num (.n 0), .num (.n 0), .num (.n 0), .num (.n 0), .num (.n 0), .num (.n 0), .tru (.lt (.n 0) (.n 0)), .tru (.lt (.n 0) (.n 0))])
     (.f (.is (.v 65543 0) true) <|
      .ok [.num (.v 0 0), .num (.v 0 1), .num (.v 0 2), .num (.v 0 3), .num (.v 0 4), .num (.v 0 5), .num (.v 0 6), .num (.v 0 7), .num (.v 0 8), .tru (.v 0 9), .tru (.le (.n 0) (.n 0))]))
    (.f (.npre 18 [.num (.v 0 0), .num (.v 0 1), .num (.v 0 2), .num (.v 0 3), .num (.v 0 4), .num (.v 0 5), .num (.v 0 6), .num (.v 0 7), .num (.v 0 8), .tru (.v 0 9)]) <|
     .bad))
theorem c29 : ConS Tryz.prog T C29 := con_tr (cs := [C18, C38, C39]) (lcs := []) (known := []) (cons_cons c18 (cons_cons c38 (cons_cons c39 (cons_nil _ _)))) (Known.nil _) (N := 400) (d := 40) (t := t29) (by kernel_rfl) <| by
  intro E hl hp
  clear hl
  have hp := hp rfl
  simp only [C29, show T.pre 29 = Q29 from rfl, flatS, SP.flat, dvs, List.append_nil, List.cons_append, List.nil_append, Q29, U64, U32, I64, Big, W, wv, s64, MR, MB] at hp
  simp only [t29, C29, Tr.good, Fact.den, LX.den, DX.ls, DV.ls, DX.den, Bx.den, Ex.den, eo_add, eo_sub, eo_mul, eo_quo, eo_rem, eo_fdv, eo_mn, eo_mx, eo_land, eo_lor, eo_lxor, eo_landn, eo_shl, eo_shr, dvs, flatS, SP.flat, ST.flat, List.map_cons, List.map_nil, List.append_nil, List.cons_append, List.nil_append, ltb_t, ltb_f, leb_t, leb_f, eqb_t, eqb_f, decide_eq_true_eq, decide_eq_false_iff_not, Bool.not_eq_true', Bool.not_eq_false', Bool.and_eq_true, Bool.and_eq_false_imp, beq_iff_eq, beq_eq_false_iff_ne, bne_iff_ne, U64, U32, I64, Big, W, wv, Told, s64, MR, MB, Int.zero_mul, Int.zero_add, Int.add_zero, Int.mul_zero, IntKind.wrap_u64, IntKind.wrap_i64, IntKind.wrap_u32, ne_eq, forall_const, true_implies, show T.rel 18 = R18 from rfl, R18, show T.rel 29 = R29 from rfl, R29, show T.rel 38 = R38 from rfl, R38, show T.rel 39 = R39 from rfl, R39, show T.pre 18 = Q18 from rfl, Q18, show T.pre 29 = Q29 from rfl, Q29, show T.pre 39 = Q39 from rfl, Q39]
  revert hp
  generalize (E.r 0).i 0 = t
  generalize (E.r 0).i 1 = r
  generalize (E.r 0).i 2 = w
  generalize (E.r 0).i 3 = id
  generalize (E.r 0).i 4 = dt
  generalize (E.r 0).i 5 = dr
  generalize (E.r 0).i 6 = dw
  generalize (E.r 0).i 7 = l
  generalize (E.r 0).i 8 = s
  generalize (E.r 0).c 9 = a
  generalize (E.r 65541).c 0 = x5_0
  generalize (E.r 65543).c 0 = x7_0
  generalize (E.r 65547).i 0 = x11_0
  generalize (E.r 65547).i 1 = x11_1
  generalize (E.r 65547).i 2 = x11_2
  generalize (E.r 65552).c 0 = x16_0
  try simp only [mxI, mnI]
  try simp only [ltb, leb, eqb, Int.lt_irrefl, decide_false, Int.le_refl, decide_true]
  intro hp
  simp only [RQ]
  have d := due_right (t := t) (r := r) (w := w) (l := l) hp.1 hp.2.1.1
  have wt : PR r w → WT w := fun h => ⟨h.1, h.2.1⟩
  simp only [s64] at d
  have mu := mvt_u t r w l
  have ru := fun h : WT w => mvr_u r l h
  repeat' (first | assumption | (intro (h : _ ∧ _); obtain ⟨h1, h2⟩ := h; (first | (subst h1; revert h2) | revert h1 h2)) | (intro h; (first | subst h | skip)) | refine And.intro ?_ ?_)
  all_goals try (show False; refine absurd ?_ ‹¬ _›)
  all_goals repeat' (first | assumption | refine And.intro ?_ ?_)
  all_goals first | omega | grind
end Go.Proofs.YtjemohphaeiaiaaGreatDoor.Fn
namespace Go.Proofs.YtjemohphaeiaiaaGreatDoor.Fn
open Go Go.RowKit Go.Proofs.YtjemohphaeiaiaaGreatDoor.Sy
set_option linter.unusedVariables false
set_option linter.unusedSimpArgs false
set_option maxRecDepth 100000
set_option maxHeartbeats 8000000
def t10 : Tr :=
  .br (.f (.rel 18 [.num (.v 0 0), .num (.v 0 1), .num (.v 0 2), .num (.v 0 3), .num (.v 0 4), .num (.v 0 5), .num (.v 0 6), .num (.v 0 7), .num (.v 0 8), .tru (.v 0 9)] 65541 [.bool]) <|
   .br (.f (.is (.v 65541 0) false) <|
    .ok [.num (.n 0), .num (.n 0), .num (.n 0), .num (.n 0), .num (.n 0), .num (.n 0), .num (.n 0), .num (.n 0), .num (.n 0), .tru (.lt (.n 0) (.n 0)), .tru (.lt (.n 0) (.n 0)), .tru (.lt (.n 0) (.n 0))])
   (.f (.is (.v 65541 0) true) <|
    .br (.f (.is (.eq (.v 0 10) (.n 0)) true) <|
     .ok [.num (.n 0), .num (.n 0), .num (.n 0), .num (.n 0), .num (.n 0), .num (.n 0), .num (.n 0), .num (.n 0), .num (.n 0), .tru (.lt (.n 0) (.n 0)), .tru (.lt (.n 0) (.n 0)), .tru (.lt (.n 0) (.n 0))])
    (.f (.is (.eq (.v 0 10) (.n 0)) false) <|
     .br (.f (.is (.lt (.v 0 7) (.v 0 10)) true) <|
      .ok [.num (.n 0), .num (.n 0), .num (.n 0), .num (.n 0), .num (.n 0), .num (.n 0), .num (.n 0), .num (.n 0), .num (.n 0), .tru (.lt (.n 0) (.n 0)), .tru (.lt (.n 0) (.n 0)), .tru (.lt (.n 0) (.n 0))])
     (.f (.is (.lt (.v 0 7) (.v 0 10)) false) <|
      .br (.f (.rel 17 [.num (.v 0 0), .num (.v 0 1), .num (.v 0 2), .num (.wrap .u64 (.bin .mul (.v 0 10) (.n 1048576)))] 65558 [.int .u64, .int .u32, .int .u32, .bool]) <|
       .br (.f (.is (.v 65558 3) false) <|
        .ok [.num (.n 0), .num (.n 0), .num (.n 0), .num (.n 0), .num (.n 0), .num (.n 0), .num (.n 0), .num (.n 0), .num (.n 0), .tru (.lt (.n 0) (.n 0)), .tru (.lt (.n 0) (.n 0)), .tru (.lt (.n 0) (.n 0))])
       (.f (.is (.v 65558 3) true) <|
        .br (.f (.is (.eq (.wrap .u64 (.bin .sub (.v 0 7) (.v 0 10))) (.n 0)) true) <|
         .br (.f (.rel 29 [.num (.v 65558 0), .num (.v 65558 1), .num (.v 65558 2), .num (.v 0 3), .num (.v 0 4), .num (.v 0 5), .num (.v 0 6), .num (.v 0 8), .num (.v 0 8), .tru (.v 0 9)] 65587 [.int .u64, .int .u32, .int .u32, .int .i64, .int .u64, .int .u32, .int .u32, .int .u64, .int .u64, .bool, .bool]) <|
          .br (.f (.is (.v 65587 10) false) <|
           .ok [.num (.n 0), .num (.n 0), .num (.n 0), .num (.n 0), .num (.n 0), .num (.n 0), .num (.n 0), .num (.n 0), .num (.n 0), .tru (.lt (.n 0) (.n 0)), .tru (.lt (.n 0) (.n 0)), .tru (.lt (.n 0) (.n 0))])
          (.f (.is (.v 65587 10) true) <|
           .ok [.num (.v 65587 0), .num (.v 65587 1), .num (.v 65587 2), .num (.v 65587 3), .num (.v 65587 4), .num (.v 65587 5), .num (.v 65587 6), .num (.v 65587 7), .num (.v 65587 8), .tru (.v 65587 9), .tru (.eq (.wrap .u64 (.bin .sub (.v 0 7) (.v 0 10))) (.n 0)), .tru (.le (.n 0) (.n 0))]))
         (.f (.npre 29 [.num (.v 65558 0), .num (.v 65558 1), .num (.v 65558 2), .num (.v 0 3), .num (.v 0 4), .num (.v 0 5), .num (.v 0 6), .num (.v 0 8), .num (.v 0 8), .tru (.v 0 9)]) <|
          .bad))
        (.f (.is (.eq (.wrap .u64 (.bin .sub (.v 0 7) (.v 0 10))) (.n 0)) false) <|
         .br (.f (.rel 29 [.num (.v 65558 0), .num (.v 65558 1), .num (.v 65558 2), .num (.v 0 3), .num (.v 0 4), .num (.v 0 5), .num (.v 0 6), .num (.wrap .u64 (.bin .sub (.v 0 7) (.v 0 10))), .num (.v 0 8), .tru (.v 0 9)] 65583 [.int .u64, .int .u32, .int .u32, .int .i64, .int .u64, .int .u32, .int .u32, .int .u64, .int .u64, .bool, .bool]) <|
          .br (.f (.is (.v 65583 10) false) <|
           .ok [.num (.n 0), .num (.n 0), .num (.n 0), .num (.n 0), .num (.n 0), .num (.n 0), .num (.n 0), .num (.n 0), .num (.n 0), .tru (.lt (.n 0) (.n 0)), .tru (.lt (.n 0) (.n 0)), .tru (.lt (.n 0) (.n 0))])
          (.f (.is (.v 65583 10) true) <|
           .ok [.num (.v 65583 0), .num (.v 65583 1), .num (.v 65583 2), .num (.v 65583 3), .num (.v 65583 4), .num (.v 65583 5), .num (.v 65583 6), .num (.v 65583 7), .num (.v 65583 8), .tru (.v 65583 9), .tru (.eq (.wrap .u64 (.bin .sub (.v 0 7) (.v 0 10))) (.n 0)), .tru (.le (.n 0) (.n 0))]))
         (.f (.npre 29 [.num (.v 65558 0), .num (.v 65558 1), .num (.v 65558 2), .num (.v 0 3), .num (.v 0 4), .num (.v 0 5), .num (.v 0 6), .num (.wrap .u64 (.bin .sub (.v 0 7) (.v 0 10))), .num (.v 0 8), .tru (.v 0 9)]) <|
          .bad))))
      (.f (.npre 17 [.num (.v 0 0), .num (.v 0 1), .num (.v 0 2), .num (.wrap .u64 (.bin .mul (.v 0 10) (.n 1048576)))]) <|
       .bad)))))
  (.f (.npre 18 [.num (.v 0 0), .num (.v 0 1), .num (.v 0 2), .num (.v 0 3), .num (.v 0 4), .num (.v 0 5), .num (.v 0 6), .num (.v 0 7), .num (.v 0 8), .tru (.v 0 9)]) <|
   .bad)
theorem c10 : ConS Tryz.prog T C10 := con_tr (cs := [C17, C18, C29]) (lcs := []) (known := []) (cons_cons c17 (cons_cons c18 (cons_cons c29 (cons_nil _ _)))) (Known.nil _) (N := 400) (d := 40) (t := t10) (by kernel_rfl) <| by
  intro E hl hp
  clear hl
  have hp := hp rfl
  simp only [C10, show T.pre 10 = Q10 from rfl, flatS, SP.flat, dvs, List.append_nil, List.cons_append, List.nil_append, Q10, U64, U32, I64, Big, W, wv, s64, MR, MB] at hp
  simp only [t10, C10, Tr.good, Fact.den, LX.den, DX.ls, DV.ls, DX.den, Bx.den, Ex.den, eo_add, eo_sub, eo_mul, eo_quo, eo_rem, eo_fdv, eo_mn, eo_mx, eo_land, eo_lor, eo_lxor, eo_landn, eo_shl, eo_shr, dvs, flatS, SP.flat, ST.flat, List.map_cons, List.map_nil, List.append_nil, List.cons_append, List.nil_append, ltb_t, ltb_f, leb_t, leb_f, eqb_t, eqb_f, decide_eq_true_eq, decide_eq_false_iff_not, Bool.not_eq_true', Bool.not_eq_false', Bool.and_eq_true, Bool.and_eq_false_imp, beq_iff_eq, beq_eq_false_iff_ne, bne_iff_ne, U64, U32, I64, Big, W, wv, Told, s64, MR, MB, Int.zero_mul, Int.zero_add, Int.add_zero, Int.mul_zero, IntKind.wrap_u64, IntKind.wrap_i64, IntKind.wrap_u32, ne_eq, forall_const, true_implies, show T.rel 10 = R10 from rfl, R10, show T.rel 17 = R17 from rfl, R17, show T.rel 18 = R18 from rfl, R18, show T.rel 29 = R29 from rfl, R29, show T.pre 10 = Q10 from rfl, Q10, show T.pre 17 = Q17 from rfl, Q17, show T.pre 18 = Q18 from rfl, Q18, show T.pre 29 = Q29 from rfl, Q29]
  revert hp
  generalize (E.r 0).i 0 = t
  generalize (E.r 0).i 1 = r
  generalize (E.r 0).i 2 = w
  generalize (E.r 0).i 3 = id
  generalize (E.r 0).i 4 = dt
  generalize (E.r 0).i 5 = dr
  generalize (E.r 0).i 6 = dw
  generalize (E.r 0).i 7 = l
  generalize (E.r 0).i 8 = s
  generalize (E.r 0).c 9 = a
  generalize (E.r 0).i 10 = x
  generalize (E.r 65541).c 0 = x5_0
  generalize (E.r 65558).i 0 = x22_0
  generalize (E.r 65558).i 1 = x22_1
  generalize (E.r 65558).i 2 = x22_2
  generalize (E.r 65558).c 3 = x22_3
  generalize (E.r 65583).i 0 = x47_0
  generalize (E.r 65583).i 1 = x47_1
  generalize (E.r 65583).i 2 = x47_2
  generalize (E.r 65583).i 3 = x47_3
  generalize (E.r 65583).i 4 = x47_4
  generalize (E.r 65583).i 5 = x47_5
  generalize (E.r 65583).i 6 = x47_6
  generalize (E.r 65583).i 7 = x47_7
  generalize (E.r 65583).i 8 = x47_8
  generalize (E.r 65583).c 9 = x47_9
  generalize (E.r 65583).c 10 = x47_10
  generalize (E.r 65587).i 0 = x51_0
  generalize (E.r 65587).i 1 = x51_1
  generalize (E.r 65587).i 2 = x51_2
  generalize (E.r 65587).i 3 = x51_3
  generalize (E.r 65587).i 4 = x51_4
  generalize (E.r 65587).i 5 = x51_5
  generalize (E.r 65587).i 6 = x51_6
  generalize (E.r 65587).i 7 = x51_7
  generalize (E.r 65587).i 8 = x51_8
  generalize (E.r 65587).c 9 = x51_9
  generalize (E.r 65587).c 10 = x51_10
  try simp only [mxI, mnI]
  try simp only [ltb, leb, eqb, Int.lt_irrefl, decide_false, Int.le_refl, decide_true]
  intro hp
  simp only [SRV]
  by_cases R : RQ t r w id dt dr dw l s
  case neg =>
    repeat' (first | assumption | (intro (h : _ ∧ _); obtain ⟨h1, h2⟩ := h; (first | (subst h1; revert h2) | revert h1 h2)) | (intro h; (first | subst h | skip)) | refine And.intro ?_ ?_)
    all_goals try (show False; refine absurd ?_ ‹¬ _›)
    all_goals repeat' (first | assumption | refine And.intro ?_ ?_)
    all_goals first | omega | grind
  have R' := R
  obtain ⟨hP, hid, hl, hs, h4, h5, h6⟩ := R'
  by_cases c : 1 ≤ x ∧ x ≤ l
  case neg =>
    repeat' (first | assumption | (intro (h : _ ∧ _); obtain ⟨h1, h2⟩ := h; (first | (subst h1; revert h2) | revert h1 h2)) | (intro h; (first | subst h | skip)) | refine And.intro ?_ ?_)
    all_goals try (show False; refine absurd ?_ ‹¬ _›)
    all_goals repeat' (first | assumption | refine And.intro ?_ ?_)
    all_goals first | omega | grind
  obtain ⟨c1, c2⟩ := c
  have e : x * 1048576 % 18446744073709551616 = x * 1048576 := by have := hl.2; omega
  have q := quo_le2 (x := x) (r := r) (w := w) (by omega) (by have := hl.2; omega) (by omega) hP.2.2 hP.1
  have hn : ¬ x = 0 := by omega
  have e2 : (l - x) % 18446744073709551616 = l - x := by omega
  have hnx : NS x := ⟨c1, by have := hl.2; omega⟩
  have hnl : ¬ l - x = 0 → NS (l - x) := fun h => ⟨by omega, by have := hl.2; omega⟩
  have mv : (t + (x * 1048576 + r) / w) % 18446744073709551616 = mvt t r w x := rfl
  have mr : (x * 1048576 + r) % w = mvr r w x := rfl
  rw [mr] at q
  have hP2 : PR (mvr r w x) w := ⟨hP.1, hP.2.1, q.2.2.2⟩
  have wt : WT w := ⟨hP.1, hP.2.1⟩
  have mu := mvt_u t r w x
  have hw := hP.2.1
  have xb := hnx.2
  have lb := hl.2
  have sb := hs.1
  have sb2 := hs.2
  simp only [e, e2, mv, mr, R, c1, c2, hn, true_and, true_imp_iff, iff_true, and_self, not_true_eq_false, false_imp_iff, not_false_eq_true]
  clear mv mr e e2 hn h4 h5 h6 R
  generalize (x * 1048576 + r) / w = Q at *
  generalize mvt t r w x = T' at *
  generalize mvr r w x = R' at *
  repeat' (first | assumption | (intro (h : _ ∧ _); obtain ⟨h1, h2⟩ := h; (first | (subst h1; revert h2) | revert h1 h2)) | (intro h; (first | subst h | skip)) | refine And.intro ?_ ?_)
  all_goals try (show False; refine absurd ?_ ‹¬ _›)
  all_goals repeat' (first | assumption | refine And.intro ?_ ?_)
  all_goals first | omega | grind
end Go.Proofs.YtjemohphaeiaiaaGreatDoor.Fn
namespace Go.Proofs.YtjemohphaeiaiaaGreatDoor.Fn
open Go Go.RowKit Go.Proofs.YtjemohphaeiaiaaGreatDoor.Sy
set_option linter.unusedVariables false
set_option linter.unusedSimpArgs false
set_option maxRecDepth 100000
def t16 : Tr :=
  .br (.f (.rel 29 [.num (.v 0 0), .num (.v 0 1), .num (.v 0 2), .num (.v 0 3), .num (.n 0), .num (.n 0), .num (.n 0), .num (.v 0 4), .num (.v 0 4), .tru (.lt (.n 0) (.n 0))] 65545 [.int .u64, .int .u32, .int .u32, .int .i64, .int .u64, .int .u32, .int .u32, .int .u64, .int .u64, .bool, .bool]) <|
   .ok [.num (.v 65545 0), .num (.v 65545 1), .num (.v 65545 2), .num (.v 65545 3), .num (.v 65545 4), .num (.v 65545 5), .num (.v 65545 6), .num (.v 65545 7), .num (.v 65545 8), .tru (.v 65545 9), .tru (.v 65545 10)])
  (.f (.npre 29 [.num (.v 0 0), .num (.v 0 1), .num (.v 0 2), .num (.v 0 3), .num (.n 0), .num (.n 0), .num (.n 0), .num (.v 0 4), .num (.v 0 4), .tru (.lt (.n 0) (.n 0))]) <|
   .bad)
theorem c16 : ConS Tryz.prog T C16 := con_tr (cs := [C29]) (lcs := []) (known := []) (cons_cons c29 (cons_nil _ _)) (Known.nil _) (N := 400) (d := 40) (t := t16) (by kernel_rfl) <| by
  intro E hl hp
  clear hl
  have hp := hp rfl
  simp only [C16, show T.pre 16 = Q16 from rfl, flatS, SP.flat, dvs, List.append_nil, List.cons_append, List.nil_append, Q16, U64, U32, I64, Big, W, wv, s64, MR, MB] at hp
  simp only [t16, C16, Tr.good, Fact.den, LX.den, DX.ls, DV.ls, DX.den, Bx.den, Ex.den, eo_add, eo_sub, eo_mul, eo_quo, eo_rem, eo_fdv, eo_mn, eo_mx, eo_land, eo_lor, eo_lxor, eo_landn, eo_shl, eo_shr, dvs, flatS, SP.flat, ST.flat, List.map_cons, List.map_nil, List.append_nil, List.cons_append, List.nil_append, ltb_t, ltb_f, leb_t, leb_f, eqb_t, eqb_f, decide_eq_true_eq, decide_eq_false_iff_not, Bool.not_eq_true', Bool.not_eq_false', Bool.and_eq_true, Bool.and_eq_false_imp, beq_iff_eq, beq_eq_false_iff_ne, bne_iff_ne, U64, U32, I64, Big, W, wv, Told, s64, MR, MB, Int.zero_mul, Int.zero_add, Int.add_zero, Int.mul_zero, IntKind.wrap_u64, IntKind.wrap_i64, IntKind.wrap_u32, ne_eq, forall_const, true_implies, show T.rel 16 = R16 from rfl, R16, show T.rel 29 = R29 from rfl, R29, show T.pre 16 = Q16 from rfl, Q16, show T.pre 29 = Q29 from rfl, Q29]
  revert hp
  generalize (E.r 0).i 0 = t
  generalize (E.r 0).i 1 = r
  generalize (E.r 0).i 2 = w
  generalize (E.r 0).i 3 = id
  generalize (E.r 0).i 4 = s
  generalize (E.r 65545).i 0 = x9_0
  generalize (E.r 65545).i 1 = x9_1
  generalize (E.r 65545).i 2 = x9_2
  generalize (E.r 65545).i 3 = x9_3
  generalize (E.r 65545).i 4 = x9_4
  generalize (E.r 65545).i 5 = x9_5
  generalize (E.r 65545).i 6 = x9_6
  generalize (E.r 65545).i 7 = x9_7
  generalize (E.r 65545).i 8 = x9_8
  generalize (E.r 65545).c 9 = x9_9
  generalize (E.r 65545).c 10 = x9_10
  try simp only [mxI, mnI]
  try simp only [ltb, leb, eqb, Int.lt_irrefl, decide_false, Int.le_refl, decide_true]
  intro hp
  repeat' (first | assumption | (intro (h : _ ∧ _); obtain ⟨h1, h2⟩ := h; (first | (subst h1; revert h2) | revert h1 h2)) | (intro h; (first | subst h | skip)) | refine And.intro ?_ ?_)
  all_goals try (show False; refine absurd ?_ ‹¬ _›)
  all_goals repeat' (first | assumption | refine And.intro ?_ ?_)
  all_goals first | omega | grind
end Go.Proofs.YtjemohphaeiaiaaGreatDoor.Fn
