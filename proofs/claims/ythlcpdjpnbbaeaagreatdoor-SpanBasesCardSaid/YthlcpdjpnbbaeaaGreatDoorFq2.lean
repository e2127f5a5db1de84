/- What is told of the functions, shown: (turnstone/wide.Int).Div, (turnstone/wide.Int).Small, (turnstone/vtime.Time).Add, (turnstone/mean.Mean).Floor, turnstone/span.Anchor, (turnstone/vtime.Time).Before, turnstone/vtime.First, (turnstone/pos.Pos).Shift, (turnstone/item.Item).Shift. -/
import Derived.Test.YthlcpdjpnbbaeaaGreatDoorFq1
namespace Go.Proofs.YthlcpdjpnbbaeaaGreatDoor.Fn
open Go Go.RowKit Go.Proofs.YthlcpdjpnbbaeaaGreatDoor.Sy
set_option linter.unusedVariables false
set_option linter.unusedSimpArgs false
set_option maxRecDepth 100000
def t59 : Tr :=
  .br (.f (.is (.eq (.v 0 2) (.n 0)) true) <|
   .ok [.num (.n 0), .num (.n 0), .num (.n 0), .tru (.lt (.n 0) (.n 0))])
  (.f (.is (.eq (.v 0 2) (.n 0)) false) <|
   .br (.f (.rel 92 [.num (.v 0 0), .num (.v 0 1)] 65543 [.int .u64, .int .u64]) <|
    .br (.f (.rel 97 [.num (.bin .rem (.v 65543 0) (.v 0 2)), .num (.v 65543 1), .num (.v 0 2)] 65560 [.int .u64, .int .u64]) <|
     .br (.f (.is (.le (.n 0) (.v 0 0)) true) <|
      .ok [.num (.wrap .i64 (.wrap .u64 (.bin .quo (.v 65543 0) (.v 0 2)))), .num (.v 65560 0), .num (.v 65560 1), .tru (.le (.n 0) (.n 0))])
     (.f (.is (.le (.n 0) (.v 0 0)) false) <|
      .br (.f (.is (.lt (.n 0) (.v 65560 1)) true) <|
       .br (.f (.rel 94 [.num (.v 65560 0), .num (.n 1), .num (.n 0)] 65573 [.int .u64, .int .u64]) <|
        .f (.is (.eq (.v 65587 0) (.wrap .u64 (.bin .add (.wrap .u64 (.bin .quo (.v 65543 0) (.v 0 2))) (.v 65573 1)))) true) <|
         .br (.f (.rel 98 [.num (.wrap .i64 (.v 65587 0)), .num (.v 65573 0)] 65592 [.int .i64, .int .u64]) <|
          .ok [.num (.v 65592 0), .num (.v 65592 1), .num (.wrap .u64 (.bin .sub (.v 0 2) (.v 65560 1))), .tru (.le (.n 0) (.n 0))])
         (.f (.npre 98 [.num (.wrap .i64 (.v 65587 0)), .num (.v 65573 0)]) <|
          .bad))
       (.f (.npre 94 [.num (.v 65560 0), .num (.n 1), .num (.n 0)]) <|
        .bad))
      (.f (.is (.lt (.n 0) (.v 65560 1)) false) <|
       .br (.f (.rel 98 [.num (.wrap .i64 (.wrap .u64 (.bin .quo (.v 65543 0) (.v 0 2)))), .num (.v 65560 0)] 65575 [.int .i64, .int .u64]) <|
        .ok [.num (.v 65575 0), .num (.v 65575 1), .num (.v 65560 1), .tru (.le (.n 0) (.n 0))])
       (.f (.npre 98 [.num (.wrap .i64 (.wrap .u64 (.bin .quo (.v 65543 0) (.v 0 2)))), .num (.v 65560 0)]) <|
        .bad))))
    (.f (.npre 97 [.num (.bin .rem (.v 65543 0) (.v 0 2)), .num (.v 65543 1), .num (.v 0 2)]) <|
     .bad))
   (.f (.npre 92 [.num (.v 0 0), .num (.v 0 1)]) <|
    .bad))
theorem c59 : ConS Tryz.prog T C59 := con_tr (cs := [C92, C94, C97, C98]) (lcs := []) (known := []) (cons_cons c92 (cons_cons c94 (cons_cons c97 (cons_cons c98 (cons_nil _ _))))) (Known.nil _) (N := 400) (d := 40) (t := t59) (by kernel_rfl) <| by
  intro E hl hp
  clear hl
  have hp := hp rfl
  simp only [C59, show T.pre 59 = Q59 from rfl, flatS, SP.flat, dvs, List.append_nil, List.cons_append, List.nil_append, Q59, U64, U32, I64, Big, W, wv, s64, WT, PR, MR, MB] at hp
  simp only [t59, C59, Tr.good, Fact.den, LX.den, DX.ls, DV.ls, DX.den, Bx.den, Ex.den, eo_add, eo_sub, eo_mul, eo_quo, eo_rem, eo_fdv, eo_mn, eo_mx, eo_land, eo_lor, eo_lxor, eo_landn, eo_shl, eo_shr, dvs, flatS, SP.flat, ST.flat, List.map_cons, List.map_nil, List.append_nil, List.cons_append, List.nil_append, ltb_t, ltb_f, leb_t, leb_f, eqb_t, eqb_f, decide_eq_true_eq, decide_eq_false_iff_not, Bool.not_eq_true', Bool.not_eq_false', Bool.and_eq_true, Bool.and_eq_false_imp, beq_iff_eq, beq_eq_false_iff_ne, bne_iff_ne, U64, U32, I64, Big, W, wv, Told, s64, WT, PR, MR, MB, Int.zero_mul, Int.zero_add, Int.add_zero, Int.mul_zero, IntKind.wrap_u64, IntKind.wrap_i64, IntKind.wrap_u32, ne_eq, forall_const, true_implies, show T.rel 59 = R59 from rfl, R59, show T.rel 92 = R92 from rfl, R92, show T.rel 94 = R94 from rfl, R94, show T.rel 97 = R97 from rfl, R97, show T.rel 98 = R98 from rfl, R98, show T.pre 59 = Q59 from rfl, Q59, show T.pre 92 = Q92 from rfl, Q92, show T.pre 94 = Q94 from rfl, Q94, show T.pre 97 = Q97 from rfl, Q97, show T.pre 98 = Q98 from rfl, Q98]
  revert hp
  generalize (E.r 0).i 0 = h
  generalize (E.r 0).i 1 = l
  generalize (E.r 0).i 2 = b
  generalize (E.r 65543).i 0 = x7_0
  generalize (E.r 65543).i 1 = x7_1
  generalize (E.r 65560).i 0 = x24_0
  generalize (E.r 65560).i 1 = x24_1
  generalize (E.r 65573).i 0 = x37_0
  generalize (E.r 65573).i 1 = x37_1
  generalize (E.r 65575).i 0 = x39_0
  generalize (E.r 65575).i 1 = x39_1
  generalize (E.r 65587).i 0 = x51_0
  generalize (E.r 65592).i 0 = x56_0
  generalize (E.r 65592).i 1 = x56_1
  try simp only [mxI, mnI]
  try simp only [ltb, leb, eqb, Int.lt_irrefl, decide_false, Int.le_refl, decide_true]
  intro hp
  by_cases b0 : b = 0
  · subst b0
    simp only [not_true_eq_false, false_imp_iff, and_true, true_imp_iff, true_and, iff_self]
    omega
  simp only [b0, not_false_eq_true, false_imp_iff, true_imp_iff, true_and, and_true, true_iff, iff_self]
  refine ⟨fun f1 => ?_, by omega⟩
  obtain ⟨a1, a2, a3, a4, a5, a6, a7, a8, a9, a10, a11, a12⟩ := div_of (s0 := x7_0) (s1 := x7_1) (b := b) (by omega) (by omega) (by omega) (by omega) (by omega)
  have hn := div_neg (v := h * 18446744073709551616 + l) (m := x7_0 * 18446744073709551616 + x7_1) (b := b) (by omega)
  have hq : 0 ≤ h → (x7_0 * 18446744073709551616 + x7_1) / b = (h * 18446744073709551616 + l) / b ∧ (x7_0 * 18446744073709551616 + x7_1) % b = (h * 18446744073709551616 + l) % b := by
    intro c; rw [f1.2.2.2 c]; exact ⟨rfl, rfl⟩
  have hs : x7_0 * 18446744073709551616 + x7_1 ≤ 170141183460469231731687303715884105728 := by omega
  generalize (x7_0.tmod b * 18446744073709551616 + x7_1) / b = q1 at *
  generalize (x7_0.tmod b * 18446744073709551616 + x7_1) % b = q2 at *
  generalize (x7_0 * 18446744073709551616 + x7_1) / b = q3 at *
  generalize (x7_0 * 18446744073709551616 + x7_1) % b = q4 at *
  generalize (h * 18446744073709551616 + l) / b = q5 at *
  generalize (h * 18446744073709551616 + l) % b = q6 at *
  generalize x7_0.tdiv b = q7 at *
  generalize x7_0.tmod b = q8 at *
  repeat' (first | intro _ | refine And.intro ?_ ?_ | refine Iff.intro ?_ ?_)
  all_goals first | omega | (simp_all; done) | (simp_all; omega)
end Go.Proofs.YthlcpdjpnbbaeaaGreatDoor.Fn
namespace Go.Proofs.YthlcpdjpnbbaeaaGreatDoor.Fn
open Go Go.RowKit Go.Proofs.YthlcpdjpnbbaeaaGreatDoor.Sy
set_option linter.unusedVariables false
set_option linter.unusedSimpArgs false
set_option maxRecDepth 100000
def t99 : Tr :=
  .br (.f (.rel 45 [.num (.wrap .i64 (.v 0 1))] 65544 [.int .i64, .int .u64]) <|
   .br (.f (.is (.and (.eq (.v 65544 0) (.v 0 0)) (.and (.eq (.v 65544 1) (.v 0 1)) (.le (.n 0) (.n 0)))) false) <|
    .ok [.num (.n 0), .tru (.lt (.n 0) (.n 0))])
   (.f (.is (.and (.eq (.v 65544 0) (.v 0 0)) (.and (.eq (.v 65544 1) (.v 0 1)) (.le (.n 0) (.n 0)))) true) <|
    .ok [.num (.wrap .i64 (.v 0 1)), .tru (.le (.n 0) (.n 0))]))
  (.f (.npre 45 [.num (.wrap .i64 (.v 0 1))]) <|
   .bad)
theorem c99 : ConS Tryz.prog T C99 := con_tr (cs := [C45]) (lcs := []) (known := []) (cons_cons c45 (cons_nil _ _)) (Known.nil _) (N := 400) (d := 40) (t := t99) (by kernel_rfl) <| by
  intro E hl hp
  clear hl
  have hp := hp rfl
  simp only [C99, show T.pre 99 = Q99 from rfl, flatS, SP.flat, dvs, List.append_nil, List.cons_append, List.nil_append, Q99, U64, U32, I64, Big, W, wv, s64, WT, PR, MR, MB] at hp
  simp only [t99, C99, Tr.good, Fact.den, LX.den, DX.ls, DV.ls, DX.den, Bx.den, Ex.den, eo_add, eo_sub, eo_mul, eo_quo, eo_rem, eo_fdv, eo_mn, eo_mx, eo_land, eo_lor, eo_lxor, eo_landn, eo_shl, eo_shr, dvs, flatS, SP.flat, ST.flat, List.map_cons, List.map_nil, List.append_nil, List.cons_append, List.nil_append, ltb_t, ltb_f, leb_t, leb_f, eqb_t, eqb_f, decide_eq_true_eq, decide_eq_false_iff_not, Bool.not_eq_true', Bool.not_eq_false', Bool.and_eq_true, Bool.and_eq_false_imp, beq_iff_eq, beq_eq_false_iff_ne, bne_iff_ne, U64, U32, I64, Big, W, wv, Told, s64, WT, PR, MR, MB, Int.zero_mul, Int.zero_add, Int.add_zero, Int.mul_zero, IntKind.wrap_u64, IntKind.wrap_i64, IntKind.wrap_u32, ne_eq, forall_const, true_implies, show T.rel 45 = R45 from rfl, R45, show T.rel 99 = R99 from rfl, R99, show T.pre 45 = Q45 from rfl, Q45, show T.pre 99 = Q99 from rfl, Q99]
  revert hp
  generalize (E.r 0).i 0 = h
  generalize (E.r 0).i 1 = l
  generalize (E.r 65544).i 0 = x8_0
  generalize (E.r 65544).i 1 = x8_1
  try simp only [mxI, mnI]
  try simp only [ltb, leb, eqb, Int.lt_irrefl, decide_false, Int.le_refl, decide_true]
  repeat' (first | intro _ | refine And.intro ?_ ?_ | refine Iff.intro ?_ ?_)
  all_goals first | omega | (simp_all; done) | (simp_all; omega)
end Go.Proofs.YthlcpdjpnbbaeaaGreatDoor.Fn
namespace Go.Proofs.YthlcpdjpnbbaeaaGreatDoor.Fn
open Go Go.RowKit Go.Proofs.YthlcpdjpnbbaeaaGreatDoor.Sy
set_option linter.unusedVariables false
set_option linter.unusedSimpArgs false
set_option maxRecDepth 100000
def t100 : Tr :=
  .ok [.num (.wrap .u64 (.bin .add (.v 0 0) (.wrap .u64 (.v 0 1))))]
theorem c100 : ConS Tryz.prog T C100 := con_tr (cs := []) (lcs := []) (known := []) (cons_nil _ _) (Known.nil _) (N := 400) (d := 40) (t := t100) (by kernel_rfl) <| by
  intro E hl hp
  clear hl
  clear hp
  simp only [t100, C100, Tr.good, Fact.den, LX.den, DX.ls, DV.ls, DX.den, Bx.den, Ex.den, eo_add, eo_sub, eo_mul, eo_quo, eo_rem, eo_fdv, eo_mn, eo_mx, eo_land, eo_lor, eo_lxor, eo_landn, eo_shl, eo_shr, dvs, flatS, SP.flat, ST.flat, List.map_cons, List.map_nil, List.append_nil, List.cons_append, List.nil_append, ltb_t, ltb_f, leb_t, leb_f, eqb_t, eqb_f, decide_eq_true_eq, decide_eq_false_iff_not, Bool.not_eq_true', Bool.not_eq_false', Bool.and_eq_true, Bool.and_eq_false_imp, beq_iff_eq, beq_eq_false_iff_ne, bne_iff_ne, U64, U32, I64, Big, W, wv, Told, s64, WT, PR, MR, MB, Int.zero_mul, Int.zero_add, Int.add_zero, Int.mul_zero, IntKind.wrap_u64, IntKind.wrap_i64, IntKind.wrap_u32, ne_eq, forall_const, true_implies, show T.rel 100 = R100 from rfl, R100]
  generalize (E.r 0).i 0 = t
  generalize (E.r 0).i 1 = d
  try simp only [mxI, mnI]
  try simp only [ltb, leb, eqb, Int.lt_irrefl, decide_false, Int.le_refl, decide_true]
  repeat' (first | intro _ | refine And.intro ?_ ?_ | refine Iff.intro ?_ ?_)
  all_goals first | omega | (simp_all; done) | (simp_all; omega)
end Go.Proofs.YthlcpdjpnbbaeaaGreatDoor.Fn
namespace Go.Proofs.YthlcpdjpnbbaeaaGreatDoor.Fn
open Go Go.RowKit Go.Proofs.YthlcpdjpnbbaeaaGreatDoor.Sy
set_option linter.unusedVariables false
set_option linter.unusedSimpArgs false
set_option maxRecDepth 100000
def t76 : Tr :=
  .br (.f (.rel 56 [.num (.v 0 0), .num (.v 0 1), .num (.v 0 2), .num (.v 0 3), .num (.v 0 4)] 65540 [.bool]) <|
   .br (.f (.is (.v 65540 0) false) <|
    .ok [.num (.n 0), .tru (.lt (.n 0) (.n 0))])
   (.f (.is (.v 65540 0) true) <|
    .br (.f (.is (.eq (.v 0 4) (.n 0)) true) <|
     .ok [.num (.n 0), .tru (.lt (.n 0) (.n 0))])
    (.f (.is (.eq (.v 0 4) (.n 0)) false) <|
     .br (.f (.rel 59 [.num (.v 0 1), .num (.v 0 2), .num (.v 0 3)] 65551 [.int .i64, .int .u64, .int .u64, .bool]) <|
      .br (.f (.rel 99 [.num (.v 65551 0), .num (.v 65551 1)] 65561 [.int .i64, .bool]) <|
       .br (.f (.is (.v 65561 1) false) <|
        .ok [.num (.n 0), .tru (.lt (.n 0) (.n 0))])
       (.f (.is (.v 65561 1) true) <|
        .f (.rel 100 [.num (.v 0 0), .num (.v 65561 0)] 65572 [.int .u64]) <|
         .ok [.num (.v 65572 0), .tru (.le (.n 0) (.n 0))]))
      (.f (.npre 99 [.num (.v 65551 0), .num (.v 65551 1)]) <|
       .bad))
     (.f (.npre 59 [.num (.v 0 1), .num (.v 0 2), .num (.v 0 3)]) <|
      .bad))))
  (.f (.npre 56 [.num (.v 0 0), .num (.v 0 1), .num (.v 0 2), .num (.v 0 3), .num (.v 0 4)]) <|
   .bad)
theorem c76 : ConS Tryz.prog T C76 := con_tr (cs := [C56, C59, C99, C100]) (lcs := []) (known := []) (cons_cons c56 (cons_cons c59 (cons_cons c99 (cons_cons c100 (cons_nil _ _))))) (Known.nil _) (N := 400) (d := 40) (t := t76) (by kernel_rfl) <| by
  intro E hl hp
  clear hl
  have hp := hp rfl
  simp only [C76, show T.pre 76 = Q76 from rfl, flatS, SP.flat, dvs, List.append_nil, List.cons_append, List.nil_append, Q76, U64, U32, I64, Big, W, wv, s64, WT, PR, MR, MB] at hp
  simp only [t76, C76, Tr.good, Fact.den, LX.den, DX.ls, DV.ls, DX.den, Bx.den, Ex.den, eo_add, eo_sub, eo_mul, eo_quo, eo_rem, eo_fdv, eo_mn, eo_mx, eo_land, eo_lor, eo_lxor, eo_landn, eo_shl, eo_shr, dvs, flatS, SP.flat, ST.flat, List.map_cons, List.map_nil, List.append_nil, List.cons_append, List.nil_append, ltb_t, ltb_f, leb_t, leb_f, eqb_t, eqb_f, decide_eq_true_eq, decide_eq_false_iff_not, Bool.not_eq_true', Bool.not_eq_false', Bool.and_eq_true, Bool.and_eq_false_imp, beq_iff_eq, beq_eq_false_iff_ne, bne_iff_ne, U64, U32, I64, Big, W, wv, Told, s64, WT, PR, MR, MB, Int.zero_mul, Int.zero_add, Int.add_zero, Int.mul_zero, IntKind.wrap_u64, IntKind.wrap_i64, IntKind.wrap_u32, ne_eq, forall_const, true_implies, show T.rel 56 = R56 from rfl, R56, show T.rel 59 = R59 from rfl, R59, show T.rel 76 = R76 from rfl, R76, show T.rel 99 = R99 from rfl, R99, show T.rel 100 = R100 from rfl, R100, show T.pre 56 = Q56 from rfl, Q56, show T.pre 59 = Q59 from rfl, Q59, show T.pre 76 = Q76 from rfl, Q76, show T.pre 99 = Q99 from rfl, Q99]
  revert hp
  generalize (E.r 0).i 0 = b
  generalize (E.r 0).i 1 = h
  generalize (E.r 0).i 2 = l
  generalize (E.r 0).i 3 = w
  generalize (E.r 0).i 4 = n
  generalize (E.r 65540).c 0 = x4_0
  generalize (E.r 65551).i 0 = x15_0
  generalize (E.r 65551).i 1 = x15_1
  generalize (E.r 65551).i 2 = x15_2
  generalize (E.r 65551).c 3 = x15_3
  generalize (E.r 65561).i 0 = x25_0
  generalize (E.r 65561).c 1 = x25_1
  generalize (E.r 65572).i 0 = x36_0
  try simp only [mxI, mnI]
  try simp only [ltb, leb, eqb, Int.lt_irrefl, decide_false, Int.le_refl, decide_true]
  repeat' (first | intro _ | refine And.intro ?_ ?_ | refine Iff.intro ?_ ?_)
  all_goals first | omega | (simp_all; done) | (simp_all; omega)
end Go.Proofs.YthlcpdjpnbbaeaaGreatDoor.Fn
namespace Go.Proofs.YthlcpdjpnbbaeaaGreatDoor.Fn
open Go Go.RowKit Go.Proofs.YthlcpdjpnbbaeaaGreatDoor.Sy
set_option linter.unusedVariables false
set_option linter.unusedSimpArgs false
set_option maxRecDepth 100000
def t33 : Tr :=
  .br (.f (.is (.eq (.len 0 0) (.n 0)) true) <|
   .ok [.num (.n 0), .tru (.lt (.n 0) (.n 0))])
  (.f (.is (.eq (.len 0 0) (.n 0)) false) <|
   .br (.f (.rel 103305 [.lst 0 0, .rows [], .num (.n 0)] 65545 [.list [.int .u64, .int .u32, .int .u32], .int .i64]) <|
    .br (.f (.is (.lt (.v 65545 1) (.len 0 0)) false) <|
     .br (.f (.is (.lt (.n 0) (.len 0 0)) true) <|
      .br (.f (.rel 16 [.num (.at 0 0 (.n 0) 0), .lst 65545 0] 65553 [.int .u64, .int .i64, .int .u64, .int .u64, .int .i64, .bool]) <|
       .br (.f (.is (.v 65553 5) false) <|
        .ok [.num (.n 0), .tru (.lt (.n 0) (.n 0))])
       (.f (.is (.v 65553 5) true) <|
        .br (.f (.rel 76 [.num (.v 65553 0), .num (.v 65553 1), .num (.v 65553 2), .num (.v 65553 3), .num (.v 65553 4)] 65563 [.int .u64, .bool]) <|
         .ok [.num (.v 65563 0), .tru (.v 65563 1)])
        (.f (.npre 76 [.num (.v 65553 0), .num (.v 65553 1), .num (.v 65553 2), .num (.v 65553 3), .num (.v 65553 4)]) <|
         .bad)))
      (.f (.npre 16 [.num (.at 0 0 (.n 0) 0), .lst 65545 0]) <|
       .bad))
     (.f (.is (.lt (.n 0) (.len 0 0)) false) <|
      .bad))
    (.f (.is (.lt (.v 65545 1) (.len 0 0)) true) <|
     .br (.f (.is (.lt (.v 65545 1) (.n 0)) true) <|
      .bad)
     (.f (.is (.lt (.v 65545 1) (.n 0)) false) <|
      .br (.f (.is (.le (.len 65545 0) (.n 1000000000)) false) <|
       .bad)
      (.f (.is (.le (.len 65545 0) (.n 1000000000)) true) <|
       .f (.lseq 65555 (.app (.lst 65545 0) (.rows [[.at 0 0 (.v 65545 1) 0, .at 0 0 (.v 65545 1) 1, .at 0 0 (.v 65545 1) 2]]))) <|
        .br (.f (.nrel 103305 [.lst 0 0, .rows [], .num (.n 0)] [.lst 65555 0, .num (.wrap .i64 (.bin .add (.v 65545 1) (.n 1)))]) <|
         .bad)
        (.f (.ndec 103305 [.lst 0 0, .rows [], .num (.n 0)] [.lst 65545 0, .num (.v 65545 1)] [.lst 65555 0, .num (.wrap .i64 (.bin .add (.v 65545 1) (.n 1)))]) <|
         .bad)))))
   (.f (.nrel 103305 [.lst 0 0, .rows [], .num (.n 0)] [.rows [], .num (.n 0)]) <|
    .bad))
theorem c33 : ConS Tryz.prog T C33 := con_tr (cs := [C16, C76]) (lcs := [L103305]) (known := []) (cons_cons c16 (cons_cons c76 (cons_nil _ _))) (Known.nil _) (N := 400) (d := 40) (t := t33) (by kernel_rfl) <| by
  intro E hl hp
  have hl0 := hl 0 _ rfl
  clear hl
  have hp := hp rfl
  simp only [C33, show T.pre 33 = Q33 from rfl, flatS, SP.flat, dvs, List.append_nil, List.cons_append, List.nil_append, Q33, U64, U32, I64, s64, WT, PR, MB] at hp
  simp only [t33, C33, Tr.good, Fact.den, LX.den, DX.ls, DV.ls, DX.den, Bx.den, Ex.den, eo_add, eo_sub, eo_mul, eo_quo, eo_rem, eo_fdv, eo_mn, eo_mx, eo_land, eo_lor, eo_lxor, eo_landn, eo_shl, eo_shr, dvs, flatS, SP.flat, ST.flat, List.map_cons, List.map_nil, List.append_nil, List.cons_append, List.nil_append, ltb_t, ltb_f, leb_t, leb_f, eqb_t, eqb_f, decide_eq_true_eq, decide_eq_false_iff_not, Bool.not_eq_true', Bool.not_eq_false', Bool.and_eq_true, Bool.and_eq_false_imp, beq_iff_eq, beq_eq_false_iff_ne, bne_iff_ne, U64, U32, I64, Told, s64, WT, PR, MB, Int.zero_mul, Int.zero_add, Int.add_zero, Int.mul_zero, IntKind.wrap_u64, IntKind.wrap_i64, IntKind.wrap_u32, ne_eq, forall_const, true_implies, show T.rel 16 = R16 from rfl, R16, show T.rel 33 = R33 from rfl, R33, show T.rel 76 = R76 from rfl, R76, show T.rel 103305 = R103305 from rfl, R103305, show T.mu 103305 = M103305 from rfl, M103305, show T.pre 16 = Q16 from rfl, Q16, show T.pre 33 = Q33 from rfl, Q33, show T.pre 76 = Q76 from rfl, Q76]
  revert hp hl0
  generalize (E.r 0).l 0 = xs
  generalize (E.r 65545).l 0 = x9_0
  generalize (E.r 65545).i 1 = x9_1
  generalize (E.r 65553).i 0 = x17_0
  generalize (E.r 65553).i 1 = x17_1
  generalize (E.r 65553).i 2 = x17_2
  generalize (E.r 65553).i 3 = x17_3
  generalize (E.r 65553).i 4 = x17_4
  generalize (E.r 65553).c 5 = x17_5
  generalize (E.r 65555).l 0 = x19_0
  generalize (E.r 65563).i 0 = x27_0
  generalize (E.r 65563).c 1 = x27_1
  try simp only [mxI, mnI]
  try simp only [ltb, leb, eqb, Int.lt_irrefl, decide_false, Int.le_refl, decide_true]
  intro hl hp
  obtain ⟨hk, hn⟩ := hp
  refine ⟨fun c => ⟨⟨fun f => f.elim, fun f => by omega⟩, fun f => f.elim, fun _ => trivial⟩, fun c => ⟨fun ⟨i0, i1, i2, i3⟩ => ?_, fun n => n ⟨trivial, by omega, rfl, PQ.nil _⟩⟩⟩
  obtain ⟨k, rfl⟩ := Int.eq_ofNat_of_zero_le i0
  have ew : ((k : Int) + 1 + 9223372036854775808) % 18446744073709551616 - 9223372036854775808 = ((k + 1 : Nat) : Int) := by omega
  simp only [ew]
  have l0 : x9_0.length = k := by omega
  refine ⟨fun c1 => ⟨fun c2 => ?_, fun h => by omega⟩, fun c1 => ⟨by omega, fun _ => ⟨by omega, fun _ e => ?_⟩⟩⟩
  · have e1 : x9_0.length = xs.length := by omega
    have s := PQ.sa (b := Sy.rowAt xs 0 0) i3 (k := x9_0.length) (Nat.le_refl _)
    have ap := PQ.ap i3 (k := x9_0.length) (Nat.le_refl _)
    rw [s.1, s.2, ap, e1]
    refine ⟨fun ⟨a1, a2, a3⟩ => ⟨fun t => ⟨⟨fun f => f.elim, fun f => ?_⟩, fun f => f.elim, fun _ => trivial⟩, fun t => ?_⟩, fun n => n (PQ.rk i3 hk.rk)⟩
    · have := a1.2 ⟨f.2.1, f.2.2.1⟩
      rw [t] at this
      cases this
    · obtain ⟨b1, b2, b3, b4, b5⟩ := a2 t
      obtain ⟨n2, ap⟩ := a1.1 t
      have sw := SW_le ap
      have hm : MR x17_1 x17_2 (SW xs xs.length) xs.length := by simp only [MR]; right; omega
      rw [b1, b3, b4, b5]
      exact ⟨fun ⟨d1, d2, d3⟩ => ⟨⟨fun f => ⟨by omega, n2, ap, (d1.1 f).2.2⟩, fun f => d1.2 ⟨hm, by omega, f.2.2.2⟩⟩, d2, d3⟩, fun n => n ⟨b2, by omega, by omega⟩⟩
  · subst e
    exact ⟨fun n => n ⟨by omega, by omega, by simp [l0], PQ.snoc i3 l0 (fun c hc => by rcases (show c = 0 ∨ c = 1 ∨ c = 2 by omega) with rfl | rfl | rfl <;> rfl)⟩, by omega⟩
end Go.Proofs.YthlcpdjpnbbaeaaGreatDoor.Fn
namespace Go.Proofs.YthlcpdjpnbbaeaaGreatDoor.Fn
open Go Go.RowKit Go.Proofs.YthlcpdjpnbbaeaaGreatDoor.Sy
set_option linter.unusedVariables false
set_option linter.unusedSimpArgs false
set_option maxRecDepth 100000
def t82 : Tr :=
  .f (.rel 14 [.num (.v 0 0), .num (.v 0 1)] 65539 [.int .i64]) <|
   .ok [.tru (.lt (.v 65539 0) (.n 0))]
theorem c82 : ConS Tryz.prog T C82 := con_tr (cs := [C14]) (lcs := []) (known := []) (cons_cons c14 (cons_nil _ _)) (Known.nil _) (N := 400) (d := 40) (t := t82) (by kernel_rfl) <| by
  intro E hl hp
  clear hl
  clear hp
  simp only [t82, C82, Tr.good, Fact.den, LX.den, DX.ls, DV.ls, DX.den, Bx.den, Ex.den, eo_add, eo_sub, eo_mul, eo_quo, eo_rem, eo_fdv, eo_mn, eo_mx, eo_land, eo_lor, eo_lxor, eo_landn, eo_shl, eo_shr, dvs, flatS, SP.flat, ST.flat, List.map_cons, List.map_nil, List.append_nil, List.cons_append, List.nil_append, ltb_t, ltb_f, leb_t, leb_f, eqb_t, eqb_f, decide_eq_true_eq, decide_eq_false_iff_not, Bool.not_eq_true', Bool.not_eq_false', Bool.and_eq_true, Bool.and_eq_false_imp, beq_iff_eq, beq_eq_false_iff_ne, bne_iff_ne, U64, U32, I64, Big, W, wv, Told, s64, WT, PR, MR, MB, Int.zero_mul, Int.zero_add, Int.add_zero, Int.mul_zero, IntKind.wrap_u64, IntKind.wrap_i64, IntKind.wrap_u32, ne_eq, forall_const, true_implies, show T.rel 14 = R14 from rfl, R14, show T.rel 82 = R82 from rfl, R82]
  generalize (E.r 0).i 0 = t
  generalize (E.r 0).i 1 = u
  generalize (E.r 65539).i 0 = x3_0
  try simp only [mxI, mnI]
  try simp only [ltb, leb, eqb, Int.lt_irrefl, decide_false, Int.le_refl, decide_true]
  repeat' (first | intro _ | refine And.intro ?_ ?_ | refine Iff.intro ?_ ?_)
  all_goals first | omega | (simp_all; done) | (simp_all; omega)
end Go.Proofs.YthlcpdjpnbbaeaaGreatDoor.Fn
namespace Go.Proofs.YthlcpdjpnbbaeaaGreatDoor.Fn
open Go Go.RowKit Go.Proofs.YthlcpdjpnbbaeaaGreatDoor.Sy
set_option linter.unusedVariables false
set_option linter.unusedSimpArgs false
set_option maxRecDepth 100000
def t40 : Tr :=
  .br (.f (.rel 104002 [.lst 0 1, .num (.v 0 0), .num (.n 0)] 65540 [.int .u64, .int .i64]) <|
   .br (.f (.is (.lt (.v 65540 1) (.len 0 1)) false) <|
    .ok [.num (.v 65540 0)])
   (.f (.is (.lt (.v 65540 1) (.len 0 1)) true) <|
    .br (.f (.is (.lt (.v 65540 1) (.n 0)) true) <|
     .bad)
    (.f (.is (.lt (.v 65540 1) (.n 0)) false) <|
     .f (.rel 82 [.num (.at 0 1 (.v 65540 1) 0), .num (.v 65540 0)] 65547 [.bool]) <|
      .br (.f (.is (.v 65547 0) true) <|
       .br (.f (.nrel 104002 [.lst 0 1, .num (.v 0 0), .num (.n 0)] [.num (.at 0 1 (.v 65540 1) 0), .num (.wrap .i64 (.bin .add (.v 65540 1) (.n 1)))]) <|
        .bad)
       (.f (.ndec 104002 [.lst 0 1, .num (.v 0 0), .num (.n 0)] [.num (.v 65540 0), .num (.v 65540 1)] [.num (.at 0 1 (.v 65540 1) 0), .num (.wrap .i64 (.bin .add (.v 65540 1) (.n 1)))]) <|
        .bad))
      (.f (.is (.v 65547 0) false) <|
       .br (.f (.nrel 104002 [.lst 0 1, .num (.v 0 0), .num (.n 0)] [.num (.v 65540 0), .num (.wrap .i64 (.bin .add (.v 65540 1) (.n 1)))]) <|
        .bad)
       (.f (.ndec 104002 [.lst 0 1, .num (.v 0 0), .num (.n 0)] [.num (.v 65540 0), .num (.v 65540 1)] [.num (.v 65540 0), .num (.wrap .i64 (.bin .add (.v 65540 1) (.n 1)))]) <|
        .bad)))))
  (.f (.nrel 104002 [.lst 0 1, .num (.v 0 0), .num (.n 0)] [.num (.v 0 0), .num (.n 0)]) <|
   .bad)
theorem c40 : ConS Tryz.prog T C40 := con_tr (cs := [C82]) (lcs := [L104002]) (known := []) (cons_cons c82 (cons_nil _ _)) (Known.nil _) (N := 400) (d := 40) (t := t40) (by kernel_rfl) <| by
  intro E hl hp
  have hl1 := hl 1 _ rfl
  clear hl
  clear hp
  simp only [t40, C40, Tr.good, Fact.den, LX.den, DX.ls, DV.ls, DX.den, Bx.den, Ex.den, eo_add, eo_sub, eo_mul, eo_quo, eo_rem, eo_fdv, eo_mn, eo_mx, eo_land, eo_lor, eo_lxor, eo_landn, eo_shl, eo_shr, dvs, flatS, SP.flat, ST.flat, List.map_cons, List.map_nil, List.append_nil, List.cons_append, List.nil_append, ltb_t, ltb_f, leb_t, leb_f, eqb_t, eqb_f, decide_eq_true_eq, decide_eq_false_iff_not, Bool.not_eq_true', Bool.not_eq_false', Bool.and_eq_true, Bool.and_eq_false_imp, beq_iff_eq, beq_eq_false_iff_ne, bne_iff_ne, U64, U32, I64, Big, W, wv, Told, s64, WT, PR, MR, MB, Int.zero_mul, Int.zero_add, Int.add_zero, Int.mul_zero, IntKind.wrap_u64, IntKind.wrap_i64, IntKind.wrap_u32, ne_eq, forall_const, true_implies, show T.rel 40 = R40 from rfl, R40, show T.rel 82 = R82 from rfl, R82, show T.rel 104002 = R104002 from rfl, R104002, show T.mu 104002 = M104002 from rfl, M104002]
  revert hl1
  generalize (E.r 0).i 0 = t
  generalize (E.r 0).l 1 = us
  generalize (E.r 65540).i 0 = x4_0
  generalize (E.r 65540).i 1 = x4_1
  generalize (E.r 65547).c 0 = x11_0
  try simp only [mxI, mnI]
  try simp only [ltb, leb, eqb, Int.lt_irrefl, decide_false, Int.le_refl, decide_true]
  intro hl
  have m1 := hl.2
  simp only [maxLen] at m1
  refine ⟨fun ⟨i0, i1, i2⟩ => ⟨fun c => ?_, fun c => ⟨by omega, fun _ e => ?_⟩⟩, fun n => n ⟨trivial, by omega, rfl⟩⟩
  · rw [i2, show x4_1.toNat = us.length by omega]
  · obtain ⟨k, rfl⟩ := Int.eq_ofNat_of_zero_le i0
    have ew : ((k : Int) + 1 + 9223372036854775808) % 18446744073709551616 - 9223372036854775808 = ((k + 1 : Nat) : Int) := by omega
    simp only [Int.toNat_natCast] at i2
    simp only [ew, Int.toNat_natCast]
    have st : fstL t us (k + 1) = if s64 (Sy.rowAt us k 0 - fstL t us k) < 0 then Sy.rowAt us k 0 else fstL t us k := rfl
    rw [st, ← i2]
    refine ⟨fun h => ⟨fun n => n ⟨by omega, by omega, ?_⟩, by omega⟩, fun h => ⟨fun n => n ⟨by omega, by omega, ?_⟩, by omega⟩⟩
    · rw [if_pos (e.1 h)]
    · rw [if_neg (fun g => by have := e.2 g; rw [h] at this; cases this)]
end Go.Proofs.YthlcpdjpnbbaeaaGreatDoor.Fn
namespace Go.Proofs.YthlcpdjpnbbaeaaGreatDoor.Fn
open Go Go.RowKit Go.Proofs.YthlcpdjpnbbaeaaGreatDoor.Sy
set_option linter.unusedVariables false
set_option linter.unusedSimpArgs false
set_option maxRecDepth 100000
def t74 : Tr :=
  .ok [.num (.wrap .u64 (.bin .add (.v 0 0) (.v 0 3))), .num (.v 0 1), .num (.v 0 2)]
theorem c74 : ConS Tryz.prog T C74 := con_tr (cs := []) (lcs := []) (known := []) (cons_nil _ _) (Known.nil _) (N := 400) (d := 40) (t := t74) (by kernel_rfl) <| by
  intro E hl hp
  clear hl
  clear hp
  simp only [t74, C74, Tr.good, Fact.den, LX.den, DX.ls, DV.ls, DX.den, Bx.den, Ex.den, eo_add, eo_sub, eo_mul, eo_quo, eo_rem, eo_fdv, eo_mn, eo_mx, eo_land, eo_lor, eo_lxor, eo_landn, eo_shl, eo_shr, dvs, flatS, SP.flat, ST.flat, List.map_cons, List.map_nil, List.append_nil, List.cons_append, List.nil_append, ltb_t, ltb_f, leb_t, leb_f, eqb_t, eqb_f, decide_eq_true_eq, decide_eq_false_iff_not, Bool.not_eq_true', Bool.not_eq_false', Bool.and_eq_true, Bool.and_eq_false_imp, beq_iff_eq, beq_eq_false_iff_ne, bne_iff_ne, U64, U32, I64, Big, W, wv, Told, s64, WT, PR, MR, MB, Int.zero_mul, Int.zero_add, Int.add_zero, Int.mul_zero, IntKind.wrap_u64, IntKind.wrap_i64, IntKind.wrap_u32, ne_eq, forall_const, true_implies, show T.rel 74 = R74 from rfl, R74]
  generalize (E.r 0).i 0 = t
  generalize (E.r 0).i 1 = r
  generalize (E.r 0).i 2 = w
  generalize (E.r 0).i 3 = by_
  try simp only [mxI, mnI]
  try simp only [ltb, leb, eqb, Int.lt_irrefl, decide_false, Int.le_refl, decide_true]
  repeat' (first | intro _ | refine And.intro ?_ ?_ | refine Iff.intro ?_ ?_)
  all_goals first | omega | (simp_all; done) | (simp_all; omega)
end Go.Proofs.YthlcpdjpnbbaeaaGreatDoor.Fn
namespace Go.Proofs.YthlcpdjpnbbaeaaGreatDoor.Fn
open Go Go.RowKit Go.Proofs.YthlcpdjpnbbaeaaGreatDoor.Sy
set_option linter.unusedVariables false
set_option linter.unusedSimpArgs false
set_option maxRecDepth 100000
def t42 : Tr :=
  .f (.rel 74 [.num (.v 0 0), .num (.v 0 1), .num (.v 0 2), .num (.v 0 7)] 65541 [.int .u64, .int .u32, .int .u32]) <|
   .f (.rel 74 [.num (.v 0 4), .num (.v 0 5), .num (.v 0 6), .num (.v 0 7)] 65545 [.int .u64, .int .u32, .int .u32]) <|
    .ok [.num (.v 65541 0), .num (.v 65541 1), .num (.v 65541 2), .num (.v 0 3), .num (.v 65545 0), .num (.v 65545 1), .num (.v 65545 2)]
theorem c42 : ConS Tryz.prog T C42 := con_tr (cs := [C74]) (lcs := []) (known := []) (cons_cons c74 (cons_nil _ _)) (Known.nil _) (N := 400) (d := 40) (t := t42) (by kernel_rfl) <| by
  intro E hl hp
  clear hl
  clear hp
  simp only [t42, C42, Tr.good, Fact.den, LX.den, DX.ls, DV.ls, DX.den, Bx.den, Ex.den, eo_add, eo_sub, eo_mul, eo_quo, eo_rem, eo_fdv, eo_mn, eo_mx, eo_land, eo_lor, eo_lxor, eo_landn, eo_shl, eo_shr, dvs, flatS, SP.flat, ST.flat, List.map_cons, List.map_nil, List.append_nil, List.cons_append, List.nil_append, ltb_t, ltb_f, leb_t, leb_f, eqb_t, eqb_f, decide_eq_true_eq, decide_eq_false_iff_not, Bool.not_eq_true', Bool.not_eq_false', Bool.and_eq_true, Bool.and_eq_false_imp, beq_iff_eq, beq_eq_false_iff_ne, bne_iff_ne, U64, U32, I64, Big, W, wv, Told, s64, WT, PR, MR, MB, Int.zero_mul, Int.zero_add, Int.add_zero, Int.mul_zero, IntKind.wrap_u64, IntKind.wrap_i64, IntKind.wrap_u32, ne_eq, forall_const, true_implies, show T.rel 42 = R42 from rfl, R42, show T.rel 74 = R74 from rfl, R74]
  generalize (E.r 0).i 0 = t
  generalize (E.r 0).i 1 = r
  generalize (E.r 0).i 2 = w
  generalize (E.r 0).i 3 = id
  generalize (E.r 0).i 4 = dt
  generalize (E.r 0).i 5 = dr
  generalize (E.r 0).i 6 = dw
  generalize (E.r 0).i 7 = y
  generalize (E.r 65541).i 0 = x5_0
  generalize (E.r 65541).i 1 = x5_1
  generalize (E.r 65541).i 2 = x5_2
  generalize (E.r 65545).i 0 = x9_0
  generalize (E.r 65545).i 1 = x9_1
  generalize (E.r 65545).i 2 = x9_2
  try simp only [mxI, mnI]
  try simp only [ltb, leb, eqb, Int.lt_irrefl, decide_false, Int.le_refl, decide_true]
  repeat' (first | intro _ | refine And.intro ?_ ?_ | refine Iff.intro ?_ ?_)
  all_goals first | omega | (simp_all; done) | (simp_all; omega)
end Go.Proofs.YthlcpdjpnbbaeaaGreatDoor.Fn
