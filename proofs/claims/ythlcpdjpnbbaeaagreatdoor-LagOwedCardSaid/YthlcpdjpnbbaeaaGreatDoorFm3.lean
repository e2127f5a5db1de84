/- What is told of the functions, shown: (turnstone/wide.Int).Sub, turnstone/lag.over, turnstone/lag.Sign, turnstone/lag.Eligible, turnstone/lag.Owed. -/
import Derived.Test.YthlcpdjpnbbaeaaGreatDoorFm2
namespace Go.Proofs.YthlcpdjpnbbaeaaGreatDoor.Fn
open Go Go.RowKit Go.Proofs.YthlcpdjpnbbaeaaGreatDoor.Sy
set_option linter.unusedVariables false
set_option linter.unusedSimpArgs false
set_option maxRecDepth 100000
def t58 : Tr :=
  .br (.f (.rel 96 [.num (.v 0 1), .num (.v 0 3), .num (.n 0)] 65544 [.int .u64, .int .u64]) <|
   .br (.f (.rel 96 [.num (.wrap .u64 (.v 0 0)), .num (.wrap .u64 (.v 0 2)), .num (.v 65544 1)] 65557 [.int .u64, .int .u64]) <|
    .br (.f (.is (.beq (.lt (.v 0 0) (.n 0)) (.lt (.v 0 2) (.n 0))) false) <|
     .br (.f (.is (.beq (.lt (.v 0 0) (.n 0)) (.lt (.wrap .i64 (.v 65557 0)) (.n 0))) false) <|
      .ok [.num (.n 0), .num (.n 0), .tru (.lt (.n 0) (.n 0))])
     (.f (.is (.beq (.lt (.v 0 0) (.n 0)) (.lt (.wrap .i64 (.v 65557 0)) (.n 0))) true) <|
      .ok [.num (.wrap .i64 (.v 65557 0)), .num (.v 65544 0), .tru (.le (.n 0) (.n 0))]))
    (.f (.is (.beq (.lt (.v 0 0) (.n 0)) (.lt (.v 0 2) (.n 0))) true) <|
     .ok [.num (.wrap .i64 (.v 65557 0)), .num (.v 65544 0), .tru (.le (.n 0) (.n 0))]))
   (.f (.npre 96 [.num (.wrap .u64 (.v 0 0)), .num (.wrap .u64 (.v 0 2)), .num (.v 65544 1)]) <|
    .bad))
  (.f (.npre 96 [.num (.v 0 1), .num (.v 0 3), .num (.n 0)]) <|
   .bad)
theorem c58 : ConS Tryz.prog T C58 := con_tr (cs := [C96]) (lcs := []) (known := []) (cons_cons c96 (cons_nil _ _)) (Known.nil _) (N := 400) (d := 40) (t := t58) (by kernel_rfl) <| by
  intro E hl hp
  clear hl
  have hp := hp rfl
  simp only [C58, show T.pre 58 = Q58 from rfl, flatS, SP.flat, dvs, List.append_nil, List.cons_append, List.nil_append, Q58, U64, U32, I64, Big, W, wv, s64, WT, PR, MR, MB] at hp
  simp only [t58, C58, Tr.good, Fact.den, LX.den, DX.ls, DV.ls, DX.den, Bx.den, Ex.den, eo_add, eo_sub, eo_mul, eo_quo, eo_rem, eo_fdv, eo_mn, eo_mx, eo_land, eo_lor, eo_lxor, eo_landn, eo_shl, eo_shr, dvs, flatS, SP.flat, ST.flat, List.map_cons, List.map_nil, List.append_nil, List.cons_append, List.nil_append, ltb_t, ltb_f, leb_t, leb_f, eqb_t, eqb_f, decide_eq_true_eq, decide_eq_false_iff_not, Bool.not_eq_true', Bool.not_eq_false', Bool.and_eq_true, Bool.and_eq_false_imp, beq_iff_eq, beq_eq_false_iff_ne, bne_iff_ne, U64, U32, I64, Big, W, wv, Told, s64, WT, PR, MR, MB, Int.zero_mul, Int.zero_add, Int.add_zero, Int.mul_zero, IntKind.wrap_u64, IntKind.wrap_i64, IntKind.wrap_u32, ne_eq, forall_const, true_implies, show T.rel 58 = R58 from rfl, R58, show T.rel 96 = R96 from rfl, R96, show T.pre 58 = Q58 from rfl, Q58, show T.pre 96 = Q96 from rfl, Q96]
  revert hp
  generalize (E.r 0).i 0 = ah
  generalize (E.r 0).i 1 = al
  generalize (E.r 0).i 2 = bh
  generalize (E.r 0).i 3 = bl
  generalize (E.r 65544).i 0 = x8_0
  generalize (E.r 65544).i 1 = x8_1
  generalize (E.r 65557).i 0 = x21_0
  generalize (E.r 65557).i 1 = x21_1
  try simp only [mxI, mnI]
  try simp only [ltb, leb, eqb, Int.lt_irrefl, decide_false, Int.le_refl, decide_true]
  repeat' (first | intro _ | refine And.intro ?_ ?_ | refine Iff.intro ?_ ?_)
  all_goals first | omega | (simp_all; done) | (simp_all; omega)
end Go.Proofs.YthlcpdjpnbbaeaaGreatDoor.Fn
namespace Go.Proofs.YthlcpdjpnbbaeaaGreatDoor.Fn
open Go Go.RowKit Go.Proofs.YthlcpdjpnbbaeaaGreatDoor.Sy
set_option linter.unusedVariables false
set_option linter.unusedSimpArgs false
set_option maxRecDepth 100000
def t84 : Tr :=
  .br (.f (.rel 56 [.num (.v 0 0), .num (.v 0 1), .num (.v 0 2), .num (.v 0 3), .num (.v 0 4)] 65541 [.bool]) <|
   .br (.f (.is (.v 65541 0) false) <|
    .ok [.num (.n 0), .num (.n 0), .tru (.lt (.n 0) (.n 0))])
   (.f (.is (.v 65541 0) true) <|
    .br (.f (.is (.eq (.v 0 4) (.n 0)) true) <|
     .ok [.num (.n 0), .num (.n 0), .tru (.lt (.n 0) (.n 0))])
    (.f (.is (.eq (.v 0 4) (.n 0)) false) <|
     .f (.rel 15 [.num (.v 0 5), .num (.v 0 6), .num (.v 0 7)] 65550 [.bool]) <|
      .br (.f (.is (.v 65550 0) false) <|
       .ok [.num (.n 0), .num (.n 0), .tru (.lt (.n 0) (.n 0))])
      (.f (.is (.v 65550 0) true) <|
       .br (.f (.rel 57 [.num (.v 0 1), .num (.v 0 2), .num (.wrap .i64 (.v 0 7))] 65558 [.int .i64, .int .u64, .bool]) <|
        .br (.f (.rel 91 [.num (.v 0 5), .num (.v 0 6), .num (.v 0 7), .num (.v 0 0)] 65568 [.int .i64, .int .u64]) <|
         .br (.f (.rel 57 [.num (.v 65568 0), .num (.v 65568 1), .num (.wrap .i64 (.v 0 3))] 65572 [.int .i64, .int .u64, .bool]) <|
          .br (.f (.rel 58 [.num (.v 65558 0), .num (.v 65558 1), .num (.v 65572 0), .num (.v 65572 1)] 65581 [.int .i64, .int .u64, .bool]) <|
           .br (.f (.is (.v 65558 2) false) <|
            .ok [.num (.n 0), .num (.n 0), .tru (.lt (.n 0) (.n 0))])
           (.f (.is (.v 65558 2) true) <|
            .br (.f (.is (.v 65572 2) false) <|
             .ok [.num (.n 0), .num (.n 0), .tru (.lt (.n 0) (.n 0))])
            (.f (.is (.v 65572 2) true) <|
             .br (.f (.is (.v 65581 2) false) <|
              .ok [.num (.n 0), .num (.n 0), .tru (.lt (.n 0) (.n 0))])
             (.f (.is (.v 65581 2) true) <|
              .ok [.num (.v 65581 0), .num (.v 65581 1), .tru (.le (.n 0) (.n 0))]))))
          (.f (.npre 58 [.num (.v 65558 0), .num (.v 65558 1), .num (.v 65572 0), .num (.v 65572 1)]) <|
           .bad))
         (.f (.npre 57 [.num (.v 65568 0), .num (.v 65568 1), .num (.wrap .i64 (.v 0 3))]) <|
          .bad))
        (.f (.npre 91 [.num (.v 0 5), .num (.v 0 6), .num (.v 0 7), .num (.v 0 0)]) <|
         .bad))
       (.f (.npre 57 [.num (.v 0 1), .num (.v 0 2), .num (.wrap .i64 (.v 0 7))]) <|
        .bad)))))
  (.f (.npre 56 [.num (.v 0 0), .num (.v 0 1), .num (.v 0 2), .num (.v 0 3), .num (.v 0 4)]) <|
   .bad)
theorem c84 : ConS Tryz.prog T C84 := con_tr (cs := [C15, C56, C57, C58, C91]) (lcs := []) (known := []) (cons_cons c15 (cons_cons c56 (cons_cons c57 (cons_cons c58 (cons_cons c91 (cons_nil _ _)))))) (Known.nil _) (N := 400) (d := 40) (t := t84) (by kernel_rfl) <| by
  intro E hl hp
  clear hl
  have hp := hp rfl
  simp only [C84, show T.pre 84 = Q84 from rfl, flatS, SP.flat, dvs, List.append_nil, List.cons_append, List.nil_append, Q84, U64, U32, I64, s64, WT, PR, MB] at hp
  simp only [t84, C84, Tr.good, Fact.den, LX.den, DX.ls, DV.ls, DX.den, Bx.den, Ex.den, eo_add, eo_sub, eo_mul, eo_quo, eo_rem, eo_fdv, eo_mn, eo_mx, eo_land, eo_lor, eo_lxor, eo_landn, eo_shl, eo_shr, dvs, flatS, SP.flat, ST.flat, List.map_cons, List.map_nil, List.append_nil, List.cons_append, List.nil_append, ltb_t, ltb_f, leb_t, leb_f, eqb_t, eqb_f, decide_eq_true_eq, decide_eq_false_iff_not, Bool.not_eq_true', Bool.not_eq_false', Bool.and_eq_true, Bool.and_eq_false_imp, beq_iff_eq, beq_eq_false_iff_ne, bne_iff_ne, U64, U32, I64, Told, s64, WT, PR, MB, Int.zero_mul, Int.zero_add, Int.add_zero, Int.mul_zero, IntKind.wrap_u64, IntKind.wrap_i64, IntKind.wrap_u32, ne_eq, forall_const, true_implies, show T.rel 15 = R15 from rfl, R15, show T.rel 56 = R56 from rfl, R56, show T.rel 57 = R57 from rfl, R57, show T.rel 58 = R58 from rfl, R58, show T.rel 84 = R84 from rfl, R84, show T.rel 91 = R91 from rfl, R91, show T.pre 56 = Q56 from rfl, Q56, show T.pre 57 = Q57 from rfl, Q57, show T.pre 58 = Q58 from rfl, Q58, show T.pre 84 = Q84 from rfl, Q84, show T.pre 91 = Q91 from rfl, Q91]
  revert hp
  generalize (E.r 0).i 0 = b
  generalize (E.r 0).i 1 = h
  generalize (E.r 0).i 2 = l
  generalize (E.r 0).i 3 = w
  generalize (E.r 0).i 4 = n
  generalize (E.r 0).i 5 = t
  generalize (E.r 0).i 6 = r
  generalize (E.r 0).i 7 = v
  generalize (E.r 65541).c 0 = x5_0
  generalize (E.r 65550).c 0 = x14_0
  generalize (E.r 65558).i 0 = x22_0
  generalize (E.r 65558).i 1 = x22_1
  generalize (E.r 65558).c 2 = x22_2
  generalize (E.r 65568).i 0 = x32_0
  generalize (E.r 65568).i 1 = x32_1
  generalize (E.r 65572).i 0 = x36_0
  generalize (E.r 65572).i 1 = x36_1
  generalize (E.r 65572).c 2 = x36_2
  generalize (E.r 65581).i 0 = x45_0
  generalize (E.r 65581).i 1 = x45_1
  generalize (E.r 65581).c 2 = x45_2
  try simp only [mxI, mnI]
  try simp only [ltb, leb, eqb, Int.lt_irrefl, decide_false, Int.le_refl, decide_true]
  intro hp
  have e1 : (v + 9223372036854775808) % 18446744073709551616 - 9223372036854775808 = v := by omega
  have W0 : W 0 0 := by omega
  simp only [e1]
  clear e1
  by_cases c : MR h l w n
  · have e2 : (w + 9223372036854775808) % 18446744073709551616 - 9223372036854775808 = w := by omega
    have hn : 0 < n ↔ ¬ n = 0 := by omega
    simp only [e2, hn, eq_true c]
    have r1 : -9223372036854775808 ≤ v ∧ v < 9223372036854775808 := by omega
    have r2 : -9223372036854775808 ≤ w ∧ w < 9223372036854775808 := by omega
    clear e2 hn c
    repeat' (first | intro _ | refine And.intro ?_ ?_)
    all_goals first | (simp_all; done) | omega | (simp_all; omega)
  · simp only [eq_false c]
    clear c
    repeat' (first | intro _ | refine And.intro ?_ ?_)
    all_goals first | (simp_all; done) | omega | (simp_all; omega)
end Go.Proofs.YthlcpdjpnbbaeaaGreatDoor.Fn
namespace Go.Proofs.YthlcpdjpnbbaeaaGreatDoor.Fn
open Go Go.RowKit Go.Proofs.YthlcpdjpnbbaeaaGreatDoor.Sy
set_option linter.unusedVariables false
set_option linter.unusedSimpArgs false
set_option maxRecDepth 100000
def t86 : Tr :=
  .br (.f (.rel 84 [.num (.v 0 0), .num (.v 0 1), .num (.v 0 2), .num (.v 0 3), .num (.v 0 4), .num (.v 0 5), .num (.v 0 6), .num (.v 0 7)] 65542 [.int .i64, .int .u64, .bool]) <|
   .br (.f (.rel 67 [.num (.v 65542 0), .num (.v 65542 1)] 65550 [.int .i64]) <|
    .ok [.num (.v 65550 0), .tru (.v 65542 2)])
   (.f (.npre 67 [.num (.v 65542 0), .num (.v 65542 1)]) <|
    .bad))
  (.f (.npre 84 [.num (.v 0 0), .num (.v 0 1), .num (.v 0 2), .num (.v 0 3), .num (.v 0 4), .num (.v 0 5), .num (.v 0 6), .num (.v 0 7)]) <|
   .bad)
theorem c86 : ConS Tryz.prog T C86 := con_tr (cs := [C67, C84]) (lcs := []) (known := []) (cons_cons c67 (cons_cons c84 (cons_nil _ _))) (Known.nil _) (N := 400) (d := 40) (t := t86) (by kernel_rfl) <| by
  intro E hl hp
  clear hl
  have hp := hp rfl
  simp only [C86, show T.pre 86 = Q86 from rfl, flatS, SP.flat, dvs, List.append_nil, List.cons_append, List.nil_append, Q86, U64, U32, I64, s64, WT, MB] at hp
  simp only [t86, C86, Tr.good, Fact.den, LX.den, DX.ls, DV.ls, DX.den, Bx.den, Ex.den, eo_add, eo_sub, eo_mul, eo_quo, eo_rem, eo_fdv, eo_mn, eo_mx, eo_land, eo_lor, eo_lxor, eo_landn, eo_shl, eo_shr, dvs, flatS, SP.flat, ST.flat, List.map_cons, List.map_nil, List.append_nil, List.cons_append, List.nil_append, ltb_t, ltb_f, leb_t, leb_f, eqb_t, eqb_f, decide_eq_true_eq, decide_eq_false_iff_not, Bool.not_eq_true', Bool.not_eq_false', Bool.and_eq_true, Bool.and_eq_false_imp, beq_iff_eq, beq_eq_false_iff_ne, bne_iff_ne, U64, U32, I64, Told, s64, WT, MB, Int.zero_mul, Int.zero_add, Int.add_zero, Int.mul_zero, IntKind.wrap_u64, IntKind.wrap_i64, IntKind.wrap_u32, ne_eq, forall_const, true_implies, show T.rel 67 = R67 from rfl, R67, show T.rel 84 = R84 from rfl, R84, show T.rel 86 = R86 from rfl, R86, show T.pre 67 = Q67 from rfl, Q67, show T.pre 84 = Q84 from rfl, Q84, show T.pre 86 = Q86 from rfl, Q86]
  revert hp
  generalize (E.r 0).i 0 = b
  generalize (E.r 0).i 1 = h
  generalize (E.r 0).i 2 = l
  generalize (E.r 0).i 3 = w
  generalize (E.r 0).i 4 = n
  generalize (E.r 0).i 5 = t
  generalize (E.r 0).i 6 = r
  generalize (E.r 0).i 7 = v
  generalize (E.r 65542).i 0 = x6_0
  generalize (E.r 65542).i 1 = x6_1
  generalize (E.r 65542).c 2 = x6_2
  generalize (E.r 65550).i 0 = x14_0
  try simp only [mxI, mnI]
  try simp only [ltb, leb, eqb, Int.lt_irrefl, decide_false, Int.le_refl, decide_true]
  intro hp
  have W0 : W 0 0 := by omega
  have hw : MR h l w n → 0 < n → ¬ w = 0 := by omega
  repeat' (first | intro _ | refine And.intro ?_ ?_)
  all_goals first | (simp_all; done) | omega | (simp_all; omega)
end Go.Proofs.YthlcpdjpnbbaeaaGreatDoor.Fn
namespace Go.Proofs.YthlcpdjpnbbaeaaGreatDoor.Fn
open Go Go.RowKit Go.Proofs.YthlcpdjpnbbaeaaGreatDoor.Sy
set_option linter.unusedVariables false
set_option linter.unusedSimpArgs false
set_option maxRecDepth 100000
def t46 : Tr :=
  .br (.f (.rel 86 [.num (.v 0 0), .num (.v 0 1), .num (.v 0 2), .num (.v 0 3), .num (.v 0 4), .num (.v 0 5), .num (.v 0 6), .num (.v 0 7)] 65541 [.int .i64, .bool]) <|
   .br (.f (.is (.v 65541 1) true) <|
    .ok [.tru (.le (.n 0) (.v 65541 0))])
   (.f (.is (.v 65541 1) false) <|
    .ok [.tru (.lt (.n 0) (.n 0))]))
  (.f (.npre 86 [.num (.v 0 0), .num (.v 0 1), .num (.v 0 2), .num (.v 0 3), .num (.v 0 4), .num (.v 0 5), .num (.v 0 6), .num (.v 0 7)]) <|
   .bad)
theorem c46 : ConS Tryz.prog T C46 := con_tr (cs := [C86]) (lcs := []) (known := []) (cons_cons c86 (cons_nil _ _)) (Known.nil _) (N := 400) (d := 40) (t := t46) (by kernel_rfl) <| by
  intro E hl hp
  clear hl
  have hp := hp rfl
  simp only [C46, show T.pre 46 = Q46 from rfl, flatS, SP.flat, dvs, List.append_nil, List.cons_append, List.nil_append, Q46, U64, U32, I64, s64, WT, MB] at hp
  simp only [t46, C46, Tr.good, Fact.den, LX.den, DX.ls, DV.ls, DX.den, Bx.den, Ex.den, eo_add, eo_sub, eo_mul, eo_quo, eo_rem, eo_fdv, eo_mn, eo_mx, eo_land, eo_lor, eo_lxor, eo_landn, eo_shl, eo_shr, dvs, flatS, SP.flat, ST.flat, List.map_cons, List.map_nil, List.append_nil, List.cons_append, List.nil_append, ltb_t, ltb_f, leb_t, leb_f, eqb_t, eqb_f, decide_eq_true_eq, decide_eq_false_iff_not, Bool.not_eq_true', Bool.not_eq_false', Bool.and_eq_true, Bool.and_eq_false_imp, beq_iff_eq, beq_eq_false_iff_ne, bne_iff_ne, U64, U32, I64, Told, s64, WT, MB, Int.zero_mul, Int.zero_add, Int.add_zero, Int.mul_zero, IntKind.wrap_u64, IntKind.wrap_i64, IntKind.wrap_u32, ne_eq, forall_const, true_implies, show T.rel 46 = R46 from rfl, R46, show T.rel 86 = R86 from rfl, R86, show T.pre 46 = Q46 from rfl, Q46, show T.pre 86 = Q86 from rfl, Q86]
  revert hp
  generalize (E.r 0).i 0 = b
  generalize (E.r 0).i 1 = h
  generalize (E.r 0).i 2 = l
  generalize (E.r 0).i 3 = w
  generalize (E.r 0).i 4 = n
  generalize (E.r 0).i 5 = t
  generalize (E.r 0).i 6 = r
  generalize (E.r 0).i 7 = v
  generalize (E.r 65541).i 0 = x5_0
  generalize (E.r 65541).c 1 = x5_1
  try simp only [mxI, mnI]
  try simp only [ltb, leb, eqb, Int.lt_irrefl, decide_false, Int.le_refl, decide_true]
  intro hp
  have W0 : W 0 0 := by omega
  have hw : MR h l w n → 0 < n → ¬ w = 0 := by omega
  repeat' (first | intro _ | refine And.intro ?_ ?_)
  all_goals first | (simp_all; done) | omega | (simp_all; omega)
end Go.Proofs.YthlcpdjpnbbaeaaGreatDoor.Fn
namespace Go.Proofs.YthlcpdjpnbbaeaaGreatDoor.Fn
open Go Go.RowKit Go.Proofs.YthlcpdjpnbbaeaaGreatDoor.Sy
set_option linter.unusedVariables false
set_option linter.unusedSimpArgs false
set_option maxRecDepth 100000
def t18 : Tr :=
  .br (.f (.rel 101803 [.num (.v 0 0), .num (.v 0 1), .num (.v 0 2), .num (.v 0 3), .num (.v 0 4), .lst 0 5, .rows [], .num (.n 0)] 65542 [.list [.int .i64], .int .i64]) <|
   .br (.f (.is (.lt (.v 65542 1) (.len 0 5)) false) <|
    .ok [.lst 65542 0])
   (.f (.is (.lt (.v 65542 1) (.len 0 5)) true) <|
    .br (.f (.is (.lt (.v 65542 1) (.n 0)) true) <|
     .bad)
    (.f (.is (.lt (.v 65542 1) (.n 0)) false) <|
     .br (.f (.npre 46 [.num (.v 0 0), .num (.v 0 1), .num (.v 0 2), .num (.v 0 3), .num (.v 0 4), .num (.at 0 5 (.v 65542 1) 0), .num (.at 0 5 (.v 65542 1) 1), .num (.at 0 5 (.v 65542 1) 2)]) <|
      .bad)
     (.f (.rel 46 [.num (.v 0 0), .num (.v 0 1), .num (.v 0 2), .num (.v 0 3), .num (.v 0 4), .num (.at 0 5 (.v 65542 1) 0), .num (.at 0 5 (.v 65542 1) 1), .num (.at 0 5 (.v 65542 1) 2)] 65552 [.bool]) <|
      .br (.f (.is (.v 65552 0) true) <|
       .br (.f (.is (.le (.len 65542 0) (.n 1000000000)) false) <|
        .bad)
       (.f (.is (.le (.len 65542 0) (.n 1000000000)) true) <|
        .f (.lseq 65556 (.app (.lst 65542 0) (.rows [[.v 65542 1]]))) <|
         .br (.f (.nrel 101803 [.num (.v 0 0), .num (.v 0 1), .num (.v 0 2), .num (.v 0 3), .num (.v 0 4), .lst 0 5, .rows [], .num (.n 0)] [.lst 65556 0, .num (.wrap .i64 (.bin .add (.v 65542 1) (.n 1)))]) <|
          .bad)
         (.f (.ndec 101803 [.num (.v 0 0), .num (.v 0 1), .num (.v 0 2), .num (.v 0 3), .num (.v 0 4), .lst 0 5, .rows [], .num (.n 0)] [.lst 65542 0, .num (.v 65542 1)] [.lst 65556 0, .num (.wrap .i64 (.bin .add (.v 65542 1) (.n 1)))]) <|
          .bad)))
      (.f (.is (.v 65552 0) false) <|
       .br (.f (.nrel 101803 [.num (.v 0 0), .num (.v 0 1), .num (.v 0 2), .num (.v 0 3), .num (.v 0 4), .lst 0 5, .rows [], .num (.n 0)] [.lst 65542 0, .num (.wrap .i64 (.bin .add (.v 65542 1) (.n 1)))]) <|
        .bad)
       (.f (.ndec 101803 [.num (.v 0 0), .num (.v 0 1), .num (.v 0 2), .num (.v 0 3), .num (.v 0 4), .lst 0 5, .rows [], .num (.n 0)] [.lst 65542 0, .num (.v 65542 1)] [.lst 65542 0, .num (.wrap .i64 (.bin .add (.v 65542 1) (.n 1)))]) <|
        .bad))))))
  (.f (.nrel 101803 [.num (.v 0 0), .num (.v 0 1), .num (.v 0 2), .num (.v 0 3), .num (.v 0 4), .lst 0 5, .rows [], .num (.n 0)] [.rows [], .num (.n 0)]) <|
   .bad)
theorem c18 : ConS Tryz.prog T C18 := con_tr (cs := [C46]) (lcs := [L101803]) (known := []) (cons_cons c46 (cons_nil _ _)) (Known.nil _) (N := 400) (d := 40) (t := t18) (by kernel_rfl) <| by
  intro E hl hp
  have hl5 := hl 5 _ rfl
  clear hl
  have hp := hp rfl
  simp only [C18, show T.pre 18 = Q18 from rfl, flatS, SP.flat, dvs, List.append_nil, List.cons_append, List.nil_append, Q18, U64, U32, I64, s64, WT, MB] at hp
  simp only [t18, C18, Tr.good, Fact.den, LX.den, DX.ls, DV.ls, DX.den, Bx.den, Ex.den, eo_add, eo_sub, eo_mul, eo_quo, eo_rem, eo_fdv, eo_mn, eo_mx, eo_land, eo_lor, eo_lxor, eo_landn, eo_shl, eo_shr, dvs, flatS, SP.flat, ST.flat, List.map_cons, List.map_nil, List.append_nil, List.cons_append, List.nil_append, ltb_t, ltb_f, leb_t, leb_f, eqb_t, eqb_f, decide_eq_true_eq, decide_eq_false_iff_not, Bool.not_eq_true', Bool.not_eq_false', Bool.and_eq_true, Bool.and_eq_false_imp, beq_iff_eq, beq_eq_false_iff_ne, bne_iff_ne, U64, U32, I64, Told, s64, WT, MB, Int.zero_mul, Int.zero_add, Int.add_zero, Int.mul_zero, IntKind.wrap_u64, IntKind.wrap_i64, IntKind.wrap_u32, ne_eq, forall_const, true_implies, show T.rel 18 = R18 from rfl, R18, show T.rel 46 = R46 from rfl, R46, show T.rel 101803 = R101803 from rfl, R101803, show T.mu 101803 = M101803 from rfl, M101803, show T.pre 18 = Q18 from rfl, Q18, show T.pre 46 = Q46 from rfl, Q46]
  revert hp hl5
  generalize (E.r 0).i 0 = b
  generalize (E.r 0).i 1 = h
  generalize (E.r 0).i 2 = l
  generalize (E.r 0).i 3 = w
  generalize (E.r 0).i 4 = n
  generalize (E.r 0).l 5 = xs
  generalize (E.r 65542).l 0 = x6_0
  generalize (E.r 65542).i 1 = x6_1
  generalize (E.r 65552).c 0 = x16_0
  generalize (E.r 65556).l 0 = x20_0
  try simp only [mxI, mnI]
  try simp only [ltb, leb, eqb, Int.lt_irrefl, decide_false, Int.le_refl, decide_true]
  intro hl hp
  obtain ⟨hw, w0, n0, hk, hn⟩ := hp
  refine ⟨fun ⟨i0, i1, i2⟩ => ⟨fun c => ?_, fun c => ⟨by omega, fun _ => ?_⟩⟩, fun z => z ⟨trivial, by omega, rfl⟩⟩
  · have e : x6_1.toNat = xs.length := by omega
    rw [e] at i2
    exact i2
  · obtain ⟨k, rfl⟩ := Int.eq_ofNat_of_zero_le i0
    have ew : ((k : Int) + 1 + 9223372036854775808) % 18446744073709551616 - 9223372036854775808 = ((k + 1 : Nat) : Int) := by omega
    simp only [ew, Int.toNat_natCast] at *
    have hkk := hk k
    have ll := OW_len i2
    refine ⟨fun z => z ⟨hw, w0, n0, hkk.2.1, hkk.2.2⟩, fun e => ⟨fun t => ⟨by omega, fun _ f => ⟨fun z => z ⟨by omega, by omega, ?_⟩, by omega⟩⟩, fun t => ⟨fun z => z ⟨by omega, by omega, ?_⟩, by omega⟩⟩⟩
    · subst f
      simp only [OW]
      exact Or.inl ⟨e.1 t, x6_0, i2, rfl⟩
    · simp only [OW]
      refine Or.inr ⟨fun q => ?_, i2⟩
      have := e.2 q
      simp [t] at this
end Go.Proofs.YthlcpdjpnbbaeaaGreatDoor.Fn
