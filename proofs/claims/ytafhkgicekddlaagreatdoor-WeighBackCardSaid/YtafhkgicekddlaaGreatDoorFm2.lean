/- What is told of the functions, shown: (turnstone/mean.Mean).Take, turnstone/weigh.Shifted, turnstone/lag.over, turnstone/lag.Read. -/
import Derived.Test.YtafhkgicekddlaaGreatDoorFm1
namespace Go.Proofs.YtafhkgicekddlaaGreatDoor.Fn
open Go Go.RowKit Go.Proofs.YtafhkgicekddlaaGreatDoor.Sy
set_option linter.unusedVariables false
set_option linter.unusedSimpArgs false
set_option maxRecDepth 100000
def t33 : Tr :=
  .br (.f (.rel 46 [.num (.v 0 0), .num (.v 0 1), .num (.v 0 2), .num (.v 0 3), .num (.v 0 4)] 65541 [.bool]) <|
   .br (.f (.is (.v 65541 0) false) <|
    .ok [.num (.n 0), .num (.n 0), .num (.n 0), .num (.n 0), .num (.n 0), .tru (.lt (.n 0) (.n 0))])
   (.f (.is (.v 65541 0) true) <|
    .f (.rel 11 [.num (.v 0 5), .num (.v 0 6), .num (.v 0 7)] 65545 [.bool]) <|
     .br (.f (.is (.v 65545 0) false) <|
      .ok [.num (.n 0), .num (.n 0), .num (.n 0), .num (.n 0), .num (.n 0), .tru (.lt (.n 0) (.n 0))])
     (.f (.is (.v 65545 0) true) <|
      .br (.f (.is (.eq (.v 0 4) (.n 0)) true) <|
       .ok [.num (.n 0), .num (.n 0), .num (.n 0), .num (.n 0), .num (.n 0), .tru (.lt (.n 0) (.n 0))])
      (.f (.is (.eq (.v 0 4) (.n 0)) false) <|
       .br (.f (.is (.lt (.v 0 3) (.wrap .u64 (.v 0 7))) true) <|
        .ok [.num (.n 0), .num (.n 0), .num (.n 0), .num (.n 0), .num (.n 0), .tru (.lt (.n 0) (.n 0))])
       (.f (.is (.lt (.v 0 3) (.wrap .u64 (.v 0 7))) false) <|
        .br (.f (.rel 49 [.num (.v 0 5), .num (.v 0 6), .num (.v 0 7), .num (.v 0 0)] 65566 [.int .i64, .int .u64]) <|
         .br (.f (.rel 16 [.num (.v 0 1), .num (.v 0 2), .num (.v 65566 0), .num (.v 65566 1)] 65567 [.int .i64, .int .u64, .bool]) <|
          .br (.f (.is (.v 65567 2) false) <|
           .ok [.num (.n 0), .num (.n 0), .num (.n 0), .num (.n 0), .num (.n 0), .tru (.lt (.n 0) (.n 0))])
          (.f (.is (.v 65567 2) true) <|
           .br (.f (.rel 46 [.num (.v 0 0), .num (.v 65567 0), .num (.v 65567 1), .num (.wrap .u64 (.bin .sub (.v 0 3) (.wrap .u64 (.v 0 7)))), .num (.wrap .i64 (.bin .sub (.v 0 4) (.n 1)))] 65593 [.bool]) <|
            .br (.f (.is (.v 65593 0) false) <|
             .ok [.num (.n 0), .num (.n 0), .num (.n 0), .num (.n 0), .num (.n 0), .tru (.lt (.n 0) (.n 0))])
            (.f (.is (.v 65593 0) true) <|
             .ok [.num (.v 0 0), .num (.v 65567 0), .num (.v 65567 1), .num (.wrap .u64 (.bin .sub (.v 0 3) (.wrap .u64 (.v 0 7)))), .num (.wrap .i64 (.bin .sub (.v 0 4) (.n 1))), .tru (.le (.n 0) (.n 0))]))
           (.f (.npre 46 [.num (.v 0 0), .num (.v 65567 0), .num (.v 65567 1), .num (.wrap .u64 (.bin .sub (.v 0 3) (.wrap .u64 (.v 0 7)))), .num (.wrap .i64 (.bin .sub (.v 0 4) (.n 1)))]) <|
            .bad)))
         (.f (.npre 16 [.num (.v 0 1), .num (.v 0 2), .num (.v 65566 0), .num (.v 65566 1)]) <|
          .bad))
        (.f (.npre 49 [.num (.v 0 5), .num (.v 0 6), .num (.v 0 7), .num (.v 0 0)]) <|
         .bad))))))
  (.f (.npre 46 [.num (.v 0 0), .num (.v 0 1), .num (.v 0 2), .num (.v 0 3), .num (.v 0 4)]) <|
   .bad)
theorem c33 : ConS Tryz.prog T C33 := con_tr (cs := [C11, C16, C46, C49]) (lcs := []) (known := []) (cons_cons c11 (cons_cons c16 (cons_cons c46 (cons_cons c49 (cons_nil _ _))))) (Known.nil _) (N := 400) (d := 40) (t := t33) (by kernel_rfl) <| by
  intro E hl hp
  clear hl
  have hp := hp rfl
  simp only [C33, show T.pre 33 = Q33 from rfl, flatS, SP.flat, dvs, List.append_nil, List.cons_append, List.nil_append, Q33, U64, U32, I64, Big, W, wv, s64, WT, PR, MR] at hp
  simp only [t33, C33, Tr.good, Fact.den, LX.den, DX.ls, DV.ls, DX.den, Bx.den, Ex.den, EO.den, dvs, flatS, SP.flat, ST.flat, List.map_cons, List.map_nil, List.append_nil, List.cons_append, List.nil_append, ltb_t, ltb_f, leb_t, leb_f, eqb_t, eqb_f, decide_eq_true_eq, decide_eq_false_iff_not, Bool.not_eq_true', Bool.not_eq_false', Bool.and_eq_true, Bool.and_eq_false_imp, beq_iff_eq, beq_eq_false_iff_ne, bne_iff_ne, U64, U32, I64, Big, W, wv, Told, s64, WT, PR, MR, Int.zero_mul, Int.zero_add, Int.add_zero, Int.mul_zero, IntKind.wrap_u64, IntKind.wrap_i64, IntKind.wrap_u32, ne_eq, forall_const, true_implies, show T.rel 11 = R11 from rfl, R11, show T.rel 16 = R16 from rfl, R16, show T.rel 33 = R33 from rfl, R33, show T.rel 46 = R46 from rfl, R46, show T.rel 49 = R49 from rfl, R49, show T.pre 16 = Q16 from rfl, Q16, show T.pre 33 = Q33 from rfl, Q33, show T.pre 46 = Q46 from rfl, Q46, show T.pre 49 = Q49 from rfl, Q49]
  revert hp
  generalize (E.r 0).i 0 = b
  generalize (E.r 0).i 1 = h
  generalize (E.r 0).i 2 = l
  generalize (E.r 0).i 3 = w
  generalize (E.r 0).i 4 = n
  generalize (E.r 0).i 5 = t
  generalize (E.r 0).i 6 = r
  generalize (E.r 0).i 7 = v
  generalize (E.r 65541).c 0 = x5_0
  generalize (E.r 65545).c 0 = x9_0
  generalize (E.r 65566).i 0 = x30_0
  generalize (E.r 65566).i 1 = x30_1
  generalize (E.r 65567).i 0 = x31_0
  generalize (E.r 65567).i 1 = x31_1
  generalize (E.r 65567).c 2 = x31_2
  generalize (E.r 65593).c 0 = x57_0
  try simp only [ltb, leb, eqb, Int.lt_irrefl, decide_false, Int.le_refl, decide_true]
  repeat' (first | intro _ | refine And.intro ?_ ?_ | refine Iff.intro ?_ ?_)
  all_goals first | omega | (simp_all; done) | (simp_all; omega)
end Go.Proofs.YtafhkgicekddlaaGreatDoor.Fn
namespace Go.Proofs.YtafhkgicekddlaaGreatDoor.Fn
open Go Go.RowKit Go.Proofs.YtafhkgicekddlaaGreatDoor.Sy
set_option linter.unusedVariables false
set_option linter.unusedSimpArgs false
set_option maxRecDepth 100000
def t14 : Tr :=
  .br (.f (.rel 33 [.num (.v 0 0), .num (.v 0 1), .num (.v 0 2), .num (.v 0 3), .num (.v 0 4), .num (.v 0 5), .num (.v 0 6), .num (.v 0 7)] 65543 [.int .u64, .int .i64, .int .u64, .int .u64, .int .i64, .bool]) <|
   .br (.f (.is (.v 65543 5) false) <|
    .ok [.num (.n 0), .num (.n 0), .num (.n 0), .num (.n 0), .num (.n 0), .tru (.lt (.n 0) (.n 0))])
   (.f (.is (.v 65543 5) true) <|
    .br (.f (.rel 45 [.num (.v 65543 0), .num (.v 65543 1), .num (.v 65543 2), .num (.v 65543 3), .num (.v 65543 4), .num (.v 0 8), .num (.v 0 9), .num (.v 0 10)] 65554 [.int .u64, .int .i64, .int .u64, .int .u64, .int .i64, .bool]) <|
     .ok [.num (.v 65554 0), .num (.v 65554 1), .num (.v 65554 2), .num (.v 65554 3), .num (.v 65554 4), .tru (.v 65554 5)])
    (.f (.npre 45 [.num (.v 65543 0), .num (.v 65543 1), .num (.v 65543 2), .num (.v 65543 3), .num (.v 65543 4), .num (.v 0 8), .num (.v 0 9), .num (.v 0 10)]) <|
     .bad)))
  (.f (.npre 33 [.num (.v 0 0), .num (.v 0 1), .num (.v 0 2), .num (.v 0 3), .num (.v 0 4), .num (.v 0 5), .num (.v 0 6), .num (.v 0 7)]) <|
   .bad)
theorem c14 : ConS Tryz.prog T C14 := con_tr (cs := [C33, C45]) (lcs := []) (known := []) (cons_cons c33 (cons_cons c45 (cons_nil _ _))) (Known.nil _) (N := 400) (d := 40) (t := t14) (by kernel_rfl) <| by
  intro E hl hp
  clear hl
  have hp := hp rfl
  simp only [C14, show T.pre 14 = Q14 from rfl, flatS, SP.flat, dvs, List.append_nil, List.cons_append, List.nil_append, Q14, U64, U32, I64, Big, W, wv, s64, WT, PR, MR] at hp
  simp only [t14, C14, Tr.good, Fact.den, LX.den, DX.ls, DV.ls, DX.den, Bx.den, Ex.den, EO.den, dvs, flatS, SP.flat, ST.flat, List.map_cons, List.map_nil, List.append_nil, List.cons_append, List.nil_append, ltb_t, ltb_f, leb_t, leb_f, eqb_t, eqb_f, decide_eq_true_eq, decide_eq_false_iff_not, Bool.not_eq_true', Bool.not_eq_false', Bool.and_eq_true, Bool.and_eq_false_imp, beq_iff_eq, beq_eq_false_iff_ne, bne_iff_ne, U64, U32, I64, Big, W, wv, Told, s64, WT, PR, MR, Int.zero_mul, Int.zero_add, Int.add_zero, Int.mul_zero, IntKind.wrap_u64, IntKind.wrap_i64, IntKind.wrap_u32, ne_eq, forall_const, true_implies, show T.rel 14 = R14 from rfl, R14, show T.rel 33 = R33 from rfl, R33, show T.rel 45 = R45 from rfl, R45, show T.pre 14 = Q14 from rfl, Q14, show T.pre 33 = Q33 from rfl, Q33, show T.pre 45 = Q45 from rfl, Q45]
  revert hp
  generalize (E.r 0).i 0 = b
  generalize (E.r 0).i 1 = h
  generalize (E.r 0).i 2 = l
  generalize (E.r 0).i 3 = w
  generalize (E.r 0).i 4 = n
  generalize (E.r 0).i 5 = t
  generalize (E.r 0).i 6 = r
  generalize (E.r 0).i 7 = v
  generalize (E.r 0).i 8 = u
  generalize (E.r 0).i 9 = q
  generalize (E.r 0).i 10 = x
  generalize (E.r 65543).i 0 = x7_0
  generalize (E.r 65543).i 1 = x7_1
  generalize (E.r 65543).i 2 = x7_2
  generalize (E.r 65543).i 3 = x7_3
  generalize (E.r 65543).i 4 = x7_4
  generalize (E.r 65543).c 5 = x7_5
  generalize (E.r 65554).i 0 = x18_0
  generalize (E.r 65554).i 1 = x18_1
  generalize (E.r 65554).i 2 = x18_2
  generalize (E.r 65554).i 3 = x18_3
  generalize (E.r 65554).i 4 = x18_4
  generalize (E.r 65554).c 5 = x18_5
  try simp only [ltb, leb, eqb, Int.lt_irrefl, decide_false, Int.le_refl, decide_true]
  repeat' (first | intro _ | refine And.intro ?_ ?_ | refine Iff.intro ?_ ?_)
  all_goals first | omega | (simp_all; done) | (simp_all; omega)
end Go.Proofs.YtafhkgicekddlaaGreatDoor.Fn
namespace Go.Proofs.YtafhkgicekddlaaGreatDoor.Fn
open Go Go.RowKit Go.Proofs.YtafhkgicekddlaaGreatDoor.Sy
set_option linter.unusedVariables false
set_option linter.unusedSimpArgs false
set_option maxRecDepth 100000
def t52 : Tr :=
  .br (.f (.rel 46 [.num (.v 0 0), .num (.v 0 1), .num (.v 0 2), .num (.v 0 3), .num (.v 0 4)] 65541 [.bool]) <|
   .br (.f (.is (.v 65541 0) false) <|
    .ok [.num (.n 0), .num (.n 0), .tru (.lt (.n 0) (.n 0))])
   (.f (.is (.v 65541 0) true) <|
    .br (.f (.is (.eq (.v 0 4) (.n 0)) true) <|
     .ok [.num (.n 0), .num (.n 0), .tru (.lt (.n 0) (.n 0))])
    (.f (.is (.eq (.v 0 4) (.n 0)) false) <|
     .f (.rel 11 [.num (.v 0 5), .num (.v 0 6), .num (.v 0 7)] 65550 [.bool]) <|
      .br (.f (.is (.v 65550 0) false) <|
       .ok [.num (.n 0), .num (.n 0), .tru (.lt (.n 0) (.n 0))])
      (.f (.is (.v 65550 0) true) <|
       .br (.f (.rel 47 [.num (.v 0 1), .num (.v 0 2), .num (.wrap .i64 (.v 0 7))] 65558 [.int .i64, .int .u64, .bool]) <|
        .br (.f (.rel 49 [.num (.v 0 5), .num (.v 0 6), .num (.v 0 7), .num (.v 0 0)] 65568 [.int .i64, .int .u64]) <|
         .br (.f (.rel 47 [.num (.v 65568 0), .num (.v 65568 1), .num (.wrap .i64 (.v 0 3))] 65572 [.int .i64, .int .u64, .bool]) <|
          .br (.f (.rel 16 [.num (.v 65558 0), .num (.v 65558 1), .num (.v 65572 0), .num (.v 65572 1)] 65581 [.int .i64, .int .u64, .bool]) <|
           .br (.f (.is (.v 65558 2) false) <|
            .ok [.num (.n 0), .num (.n 0), .tru (.lt (.n 0) (.n 0))])
           (.f (.is (.v 65558 2) true) <|
            .br (.f (.is (.v 65572 2) false) <|
             .ok [.num (.n 0), .num (.n 0), .tru (.lt (.n 0) (.n 0))])
            (.f (.is (.v 65572 2) true) <|
             .br (.f (.is (.v 65581 2) false) <|
              .ok [.num (.n 0), .num (.n 0), .tru (.lt (.n 0) (.n 0))])
             (.f (.is (.v 65581 2) true) <|
              .ok [.num (.v 65581 0), .num (.v 65581 1), .tru (.le (.n 0) (.n 0))]))))
          (.f (.npre 16 [.num (.v 65558 0), .num (.v 65558 1), .num (.v 65572 0), .num (.v 65572 1)]) <|
           .bad))
         (.f (.npre 47 [.num (.v 65568 0), .num (.v 65568 1), .num (.wrap .i64 (.v 0 3))]) <|
          .bad))
        (.f (.npre 49 [.num (.v 0 5), .num (.v 0 6), .num (.v 0 7), .num (.v 0 0)]) <|
         .bad))
       (.f (.npre 47 [.num (.v 0 1), .num (.v 0 2), .num (.wrap .i64 (.v 0 7))]) <|
        .bad)))))
  (.f (.npre 46 [.num (.v 0 0), .num (.v 0 1), .num (.v 0 2), .num (.v 0 3), .num (.v 0 4)]) <|
   .bad)
theorem c52 : ConS Tryz.prog T C52 := con_tr (cs := [C11, C16, C46, C47, C49]) (lcs := []) (known := []) (cons_cons c11 (cons_cons c16 (cons_cons c46 (cons_cons c47 (cons_cons c49 (cons_nil _ _)))))) (Known.nil _) (N := 400) (d := 40) (t := t52) (by kernel_rfl) <| by
  intro E hl hp
  clear hl
  have hp := hp rfl
  simp only [C52, show T.pre 52 = Q52 from rfl, flatS, SP.flat, dvs, List.append_nil, List.cons_append, List.nil_append, Q52, U64, U32, I64, s64, WT, PR] at hp
  simp only [t52, C52, Tr.good, Fact.den, LX.den, DX.ls, DV.ls, DX.den, Bx.den, Ex.den, EO.den, dvs, flatS, SP.flat, ST.flat, List.map_cons, List.map_nil, List.append_nil, List.cons_append, List.nil_append, ltb_t, ltb_f, leb_t, leb_f, eqb_t, eqb_f, decide_eq_true_eq, decide_eq_false_iff_not, Bool.not_eq_true', Bool.not_eq_false', Bool.and_eq_true, Bool.and_eq_false_imp, beq_iff_eq, beq_eq_false_iff_ne, bne_iff_ne, U64, U32, I64, Told, s64, WT, PR, Int.zero_mul, Int.zero_add, Int.add_zero, Int.mul_zero, IntKind.wrap_u64, IntKind.wrap_i64, IntKind.wrap_u32, ne_eq, forall_const, true_implies, show T.rel 11 = R11 from rfl, R11, show T.rel 16 = R16 from rfl, R16, show T.rel 46 = R46 from rfl, R46, show T.rel 47 = R47 from rfl, R47, show T.rel 49 = R49 from rfl, R49, show T.rel 52 = R52 from rfl, R52, show T.pre 16 = Q16 from rfl, Q16, show T.pre 46 = Q46 from rfl, Q46, show T.pre 47 = Q47 from rfl, Q47, show T.pre 49 = Q49 from rfl, Q49, show T.pre 52 = Q52 from rfl, Q52]
  revert hp
  generalize (E.r 0).i 0 = b
  generalize (E.r 0).i 1 = h
  generalize (E.r 0).i 2 = l
  generalize (E.r 0).i 3 = w
  generalize (E.r 0).i 4 = n
  generalize (E.r 0).i 5 = t
  generalize (E.r 0).i 6 = r
  generalize (E.r 0).i 7 = v
  generalize (E.r 65541).c 0 = x5_0
  generalize (E.r 65550).c 0 = x14_0
  generalize (E.r 65558).i 0 = x22_0
  generalize (E.r 65558).i 1 = x22_1
  generalize (E.r 65558).c 2 = x22_2
  generalize (E.r 65568).i 0 = x32_0
  generalize (E.r 65568).i 1 = x32_1
  generalize (E.r 65572).i 0 = x36_0
  generalize (E.r 65572).i 1 = x36_1
  generalize (E.r 65572).c 2 = x36_2
  generalize (E.r 65581).i 0 = x45_0
  generalize (E.r 65581).i 1 = x45_1
  generalize (E.r 65581).c 2 = x45_2
  try simp only [ltb, leb, eqb, Int.lt_irrefl, decide_false, Int.le_refl, decide_true]
  intro hp
  have e1 : (v + 9223372036854775808) % 18446744073709551616 - 9223372036854775808 = v := by omega
  have W0 : W 0 0 := by omega
  simp only [e1]
  clear e1
  by_cases c : MR h l w n
  · have e2 : (w + 9223372036854775808) % 18446744073709551616 - 9223372036854775808 = w := by omega
    have hn : 0 < n ↔ ¬ n = 0 := by omega
    simp only [e2, hn, eq_true c]
    have r1 : -9223372036854775808 ≤ v ∧ v < 9223372036854775808 := by omega
    have r2 : -9223372036854775808 ≤ w ∧ w < 9223372036854775808 := by omega
    clear e2 hn c
    repeat' (first | intro _ | refine And.intro ?_ ?_)
    all_goals first | (simp_all; done) | omega | (simp_all; omega)
  · simp only [eq_false c]
    clear c
    repeat' (first | intro _ | refine And.intro ?_ ?_)
    all_goals first | (simp_all; done) | omega | (simp_all; omega)
end Go.Proofs.YtafhkgicekddlaaGreatDoor.Fn
namespace Go.Proofs.YtafhkgicekddlaaGreatDoor.Fn
open Go Go.RowKit Go.Proofs.YtafhkgicekddlaaGreatDoor.Sy
set_option linter.unusedVariables false
set_option linter.unusedSimpArgs false
set_option maxRecDepth 100000
def t15 : Tr :=
  .br (.f (.rel 52 [.num (.v 0 0), .num (.v 0 1), .num (.v 0 2), .num (.v 0 3), .num (.v 0 4), .num (.v 0 5), .num (.v 0 6), .num (.v 0 7)] 65542 [.int .i64, .int .u64, .bool]) <|
   .br (.f (.is (.v 65542 2) false) <|
    .ok [.num (.n 0), .num (.n 0), .tru (.lt (.n 0) (.n 0))])
   (.f (.is (.v 65542 2) true) <|
    .br (.f (.rel 48 [.num (.v 65542 0), .num (.v 65542 1), .num (.v 0 3)] 65554 [.int .i64, .int .u64, .int .u64, .bool]) <|
     .ok [.num (.v 65554 0), .num (.v 65554 1), .tru (.le (.n 0) (.n 0))])
    (.f (.npre 48 [.num (.v 65542 0), .num (.v 65542 1), .num (.v 0 3)]) <|
     .bad)))
  (.f (.npre 52 [.num (.v 0 0), .num (.v 0 1), .num (.v 0 2), .num (.v 0 3), .num (.v 0 4), .num (.v 0 5), .num (.v 0 6), .num (.v 0 7)]) <|
   .bad)
theorem c15 : ConS Tryz.prog T C15 := con_tr (cs := [C48, C52]) (lcs := []) (known := []) (cons_cons c48 (cons_cons c52 (cons_nil _ _))) (Known.nil _) (N := 400) (d := 40) (t := t15) (by kernel_rfl) <| by
  intro E hl hp
  clear hl
  have hp := hp rfl
  simp only [C15, show T.pre 15 = Q15 from rfl, flatS, SP.flat, dvs, List.append_nil, List.cons_append, List.nil_append, Q15, U64, U32, I64, s64, WT] at hp
  simp only [t15, C15, Tr.good, Fact.den, LX.den, DX.ls, DV.ls, DX.den, Bx.den, Ex.den, EO.den, dvs, flatS, SP.flat, ST.flat, List.map_cons, List.map_nil, List.append_nil, List.cons_append, List.nil_append, ltb_t, ltb_f, leb_t, leb_f, eqb_t, eqb_f, decide_eq_true_eq, decide_eq_false_iff_not, Bool.not_eq_true', Bool.not_eq_false', Bool.and_eq_true, Bool.and_eq_false_imp, beq_iff_eq, beq_eq_false_iff_ne, bne_iff_ne, U64, U32, I64, Told, s64, WT, Int.zero_mul, Int.zero_add, Int.add_zero, Int.mul_zero, IntKind.wrap_u64, IntKind.wrap_i64, IntKind.wrap_u32, ne_eq, forall_const, true_implies, show T.rel 15 = R15 from rfl, R15, show T.rel 48 = R48 from rfl, R48, show T.rel 52 = R52 from rfl, R52, show T.pre 15 = Q15 from rfl, Q15, show T.pre 48 = Q48 from rfl, Q48, show T.pre 52 = Q52 from rfl, Q52]
  revert hp
  generalize (E.r 0).i 0 = b
  generalize (E.r 0).i 1 = h
  generalize (E.r 0).i 2 = l
  generalize (E.r 0).i 3 = w
  generalize (E.r 0).i 4 = n
  generalize (E.r 0).i 5 = t
  generalize (E.r 0).i 6 = r
  generalize (E.r 0).i 7 = v
  generalize (E.r 65542).i 0 = x6_0
  generalize (E.r 65542).i 1 = x6_1
  generalize (E.r 65542).c 2 = x6_2
  generalize (E.r 65554).i 0 = x18_0
  generalize (E.r 65554).i 1 = x18_1
  generalize (E.r 65554).i 2 = x18_2
  generalize (E.r 65554).c 3 = x18_3
  try simp only [ltb, leb, eqb, Int.lt_irrefl, decide_false, Int.le_refl, decide_true]
  intro hp
  have W0 : W 0 0 := by omega
  have hw : MR h l w n → 0 < n → ¬ w = 0 := by omega
  repeat' (first | intro _ | refine And.intro ?_ ?_)
  all_goals first | (simp_all; done) | omega | (simp_all; omega)
end Go.Proofs.YtafhkgicekddlaaGreatDoor.Fn
