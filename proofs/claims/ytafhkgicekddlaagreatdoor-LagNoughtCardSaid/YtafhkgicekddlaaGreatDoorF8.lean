/- What is told of turnstone/turnstonelaw09.LagNought, shown. -/
import Derived.Test.YtafhkgicekddlaaGreatDoorTab
import Derived.Test.YtafhkgicekddlaaGreatDoorFm4
import Derived.Test.YtafhkgicekddlaaGreatDoorSyAwake5
namespace Go.Proofs.YtafhkgicekddlaaGreatDoor.Fn
open Go Go.RowKit Go.Proofs.YtafhkgicekddlaaGreatDoor.Sy
set_option linter.unusedVariables false
set_option linter.unusedSimpArgs false
set_option maxRecDepth 100000
open Go.Proofs.YtafhkgicekddlaaGreatDoor.Awake
def t8 : Tr :=
  .br (.f (.is (.lt (.n 32) (.len 0 1)) true) <|
   .ok [.tru (.le (.n 0) (.n 0))])
  (.f (.is (.lt (.n 32) (.len 0 1)) false) <|
   .br (.f (.is (.eq (.len 0 1) (.n 0)) true) <|
    .ok [.tru (.le (.n 0) (.n 0))])
   (.f (.is (.eq (.len 0 1) (.n 0)) false) <|
    .br (.f (.rel 100806 [.num (.v 0 0), .lst 0 1, .num (.n 0)] 65550 [.int .i64]) <|
     .br (.f (.is (.lt (.v 65550 0) (.len 0 1)) true) <|
      .br (.f (.is (.lt (.v 65550 0) (.n 0)) false) <|
       .f (.rel 10 [.num (.at 0 1 (.v 65550 0) 0), .num (.v 0 0)] 65559 [.int .i64]) <|
        .f (.rel 11 [.num (.at 0 1 (.v 65550 0) 0), .num (.at 0 1 (.v 65550 0) 1), .num (.at 0 1 (.v 65550 0) 2)] 65562 [.bool]) <|
         .br (.f (.is (.v 65562 0) false) <|
          .ok [.tru (.le (.n 0) (.n 0))])
         (.f (.is (.v 65562 0) true) <|
          .br (.f (.is (.le (.v 65559 0) (.n (-1152921504606846976))) true) <|
           .ok [.tru (.le (.n 0) (.n 0))])
          (.f (.is (.le (.v 65559 0) (.n (-1152921504606846976))) false) <|
           .br (.f (.is (.le (.n 1152921504606846976) (.v 65559 0)) true) <|
            .ok [.tru (.le (.n 0) (.n 0))])
           (.f (.is (.le (.n 1152921504606846976) (.v 65559 0)) false) <|
            .br (.f (.nrel 100806 [.num (.v 0 0), .lst 0 1, .num (.n 0)] [.num (.wrap .i64 (.bin .add (.v 65550 0) (.n 1)))]) <|
             .bad)
            (.f (.ndec 100806 [.num (.v 0 0), .lst 0 1, .num (.n 0)] [.num (.v 65550 0)] [.num (.wrap .i64 (.bin .add (.v 65550 0) (.n 1)))]) <|
             .bad)))))
      (.f (.is (.lt (.v 65550 0) (.n 0)) true) <|
       .bad))
     (.f (.is (.lt (.v 65550 0) (.len 0 1)) false) <|
      .br (.f (.rel 12 [.num (.v 0 0), .lst 0 1] 65554 [.int .u64, .int .i64, .int .u64, .int .u64, .int .i64, .bool]) <|
       .br (.f (.rel 100816 [.num (.v 0 0), .lst 0 1, .num (.v 65554 1), .num (.v 65554 2), .num (.v 65554 3), .tru (.lt (.n 0) (.n 0)), .rows [], .tru (.lt (.n 0) (.n 0)), .rows [], .num (.n 0), .num (.n 0), .num (.n 0)] 65568 [.bool, .list [.int .i64], .bool, .list [.int .i64], .int .i64, .int .i64, .int .i64]) <|
        .br (.f (.is (.lt (.v 65568 6) (.len 0 1)) true) <|
         .br (.f (.is (.lt (.v 65568 6) (.n 0)) false) <|
          .br (.f (.rel 38 [.num (.v 65554 0), .num (.v 65554 1), .num (.v 65554 2), .num (.v 65554 3), .num (.v 65554 4)] 65575 [.int .u64, .bool, .list [.int .i64], .int .u64, .int .i64]) <|
           .br (.f (.rel 28 [.num (.at 0 1 (.v 65568 6) 0), .num (.at 0 1 (.v 65568 6) 1), .num (.at 0 1 (.v 65568 6) 2)] 65577 [.int .u64, .int .u32, .int .u32]) <|
            .br (.f (.rel 37 [.num (.v 65575 0), .tru (.v 65575 1), .lst 65575 2, .num (.v 65575 3), .num (.v 65575 4), .num (.v 65577 0), .num (.v 65577 1), .num (.v 65577 2)] 65578 [.bool, .list [.int .i64], .bool]) <|
             .br (.f (.rel 15 [.num (.v 65554 0), .num (.v 65554 1), .num (.v 65554 2), .num (.v 65554 3), .num (.v 65554 4), .num (.at 0 1 (.v 65568 6) 0), .num (.at 0 1 (.v 65568 6) 1), .num (.at 0 1 (.v 65568 6) 2)] 65587 [.int .i64, .int .u64, .bool]) <|
              .br (.f (.rel 36 [.num (.v 65554 0), .num (.v 65554 1), .num (.v 65554 2), .num (.v 65554 3), .num (.v 65554 4), .num (.at 0 1 (.v 65568 6) 0), .num (.at 0 1 (.v 65568 6) 1), .num (.at 0 1 (.v 65568 6) 2)] 65596 [.int .i64, .bool]) <|
               .br (.f (.is (.v 65578 2) false) <|
                .ok [.tru (.lt (.n 0) (.n 0))])
               (.f (.is (.v 65578 2) true) <|
                .br (.f (.is (.v 65587 2) false) <|
                 .ok [.tru (.lt (.n 0) (.n 0))])
                (.f (.is (.v 65587 2) true) <|
                 .br (.f (.is (.v 65596 1) false) <|
                  .ok [.tru (.lt (.n 0) (.n 0))])
                 (.f (.is (.v 65596 1) true) <|
                  .br (.f (.npre 42 [.tru (.v 65568 0), .lst 65568 1, .tru (.v 65578 0), .lst 65578 1]) <|
                   .bad)
                  (.f (.rel 42 [.tru (.v 65568 0), .lst 65568 1, .tru (.v 65578 0), .lst 65578 1] 65614 [.bool, .list [.int .i64]]) <|
                   .br (.f (.npre 26 [.num (.v 65587 0), .num (.v 65587 1)]) <|
                    .bad)
                   (.f (.rel 26 [.num (.v 65587 0), .num (.v 65587 1)] 65617 [.bool, .list [.int .i64]]) <|
                    .br (.f (.npre 42 [.tru (.v 65568 2), .lst 65568 3, .tru (.v 65617 0), .lst 65617 1]) <|
                     .bad)
                    (.f (.rel 42 [.tru (.v 65568 2), .lst 65568 3, .tru (.v 65617 0), .lst 65617 1] 65618 [.bool, .list [.int .i64]]) <|
                     .br (.f (.is (.le (.n 0) (.v 65596 0)) true) <|
                      .br (.f (.is (.le (.v 65596 0) (.n 0)) true) <|
                       .br (.f (.nrel 100816 [.num (.v 0 0), .lst 0 1, .num (.v 65554 1), .num (.v 65554 2), .num (.v 65554 3), .tru (.lt (.n 0) (.n 0)), .rows [], .tru (.lt (.n 0) (.n 0)), .rows [], .num (.n 0), .num (.n 0), .num (.n 0)] [.tru (.v 65614 0), .lst 65614 1, .tru (.v 65618 0), .lst 65618 1, .num (.wrap .i64 (.bin .add (.v 65568 4) (.n 1))), .num (.wrap .i64 (.bin .add (.v 65568 5) (.n 1))), .num (.wrap .i64 (.bin .add (.v 65568 6) (.n 1)))]) <|
                        .bad)
                       (.f (.ndec 100816 [.num (.v 0 0), .lst 0 1, .num (.v 65554 1), .num (.v 65554 2), .num (.v 65554 3), .tru (.lt (.n 0) (.n 0)), .rows [], .tru (.lt (.n 0) (.n 0)), .rows [], .num (.n 0), .num (.n 0), .num (.n 0)] [.tru (.v 65568 0), .lst 65568 1, .tru (.v 65568 2), .lst 65568 3, .num (.v 65568 4), .num (.v 65568 5), .num (.v 65568 6)] [.tru (.v 65614 0), .lst 65614 1, .tru (.v 65618 0), .lst 65618 1, .num (.wrap .i64 (.bin .add (.v 65568 4) (.n 1))), .num (.wrap .i64 (.bin .add (.v 65568 5) (.n 1))), .num (.wrap .i64 (.bin .add (.v 65568 6) (.n 1)))]) <|
                        .bad))
                      (.f (.is (.le (.v 65596 0) (.n 0)) false) <|
                       .br (.f (.nrel 100816 [.num (.v 0 0), .lst 0 1, .num (.v 65554 1), .num (.v 65554 2), .num (.v 65554 3), .tru (.lt (.n 0) (.n 0)), .rows [], .tru (.lt (.n 0) (.n 0)), .rows [], .num (.n 0), .num (.n 0), .num (.n 0)] [.tru (.v 65614 0), .lst 65614 1, .tru (.v 65618 0), .lst 65618 1, .num (.wrap .i64 (.bin .add (.v 65568 4) (.n 1))), .num (.v 65568 5), .num (.wrap .i64 (.bin .add (.v 65568 6) (.n 1)))]) <|
                        .bad)
                       (.f (.ndec 100816 [.num (.v 0 0), .lst 0 1, .num (.v 65554 1), .num (.v 65554 2), .num (.v 65554 3), .tru (.lt (.n 0) (.n 0)), .rows [], .tru (.lt (.n 0) (.n 0)), .rows [], .num (.n 0), .num (.n 0), .num (.n 0)] [.tru (.v 65568 0), .lst 65568 1, .tru (.v 65568 2), .lst 65568 3, .num (.v 65568 4), .num (.v 65568 5), .num (.v 65568 6)] [.tru (.v 65614 0), .lst 65614 1, .tru (.v 65618 0), .lst 65618 1, .num (.wrap .i64 (.bin .add (.v 65568 4) (.n 1))), .num (.v 65568 5), .num (.wrap .i64 (.bin .add (.v 65568 6) (.n 1)))]) <|
                        .bad)))
                     (.f (.is (.le (.n 0) (.v 65596 0)) false) <|
                      .br (.f (.is (.le (.v 65596 0) (.n 0)) true) <|
                       .br (.f (.nrel 100816 [.num (.v 0 0), .lst 0 1, .num (.v 65554 1), .num (.v 65554 2), .num (.v 65554 3), .tru (.lt (.n 0) (.n 0)), .rows [], .tru (.lt (.n 0) (.n 0)), .rows [], .num (.n 0), .num (.n 0), .num (.n 0)] [.tru (.v 65614 0), .lst 65614 1, .tru (.v 65618 0), .lst 65618 1, .num (.v 65568 4), .num (.wrap .i64 (.bin .add (.v 65568 5) (.n 1))), .num (.wrap .i64 (.bin .add (.v 65568 6) (.n 1)))]) <|
                        .bad)
                       (.f (.ndec 100816 [.num (.v 0 0), .lst 0 1, .num (.v 65554 1), .num (.v 65554 2), .num (.v 65554 3), .tru (.lt (.n 0) (.n 0)), .rows [], .tru (.lt (.n 0) (.n 0)), .rows [], .num (.n 0), .num (.n 0), .num (.n 0)] [.tru (.v 65568 0), .lst 65568 1, .tru (.v 65568 2), .lst 65568 3, .num (.v 65568 4), .num (.v 65568 5), .num (.v 65568 6)] [.tru (.v 65614 0), .lst 65614 1, .tru (.v 65618 0), .lst 65618 1, .num (.v 65568 4), .num (.wrap .i64 (.bin .add (.v 65568 5) (.n 1))), .num (.wrap .i64 (.bin .add (.v 65568 6) (.n 1)))]) <|
                        .bad))
                      (.f (.is (.le (.v 65596 0) (.n 0)) false) <|
                       .br (.f (.nrel 100816 [.num (.v 0 0), .lst 0 1, .num (.v 65554 1), .num (.v 65554 2), .num (.v 65554 3), .tru (.lt (.n 0) (.n 0)), .rows [], .tru (.lt (.n 0) (.n 0)), .rows [], .num (.n 0), .num (.n 0), .num (.n 0)] [.tru (.v 65614 0), .lst 65614 1, .tru (.v 65618 0), .lst 65618 1, .num (.v 65568 4), .num (.v 65568 5), .num (.wrap .i64 (.bin .add (.v 65568 6) (.n 1)))]) <|
                        .bad)
                       (.f (.ndec 100816 [.num (.v 0 0), .lst 0 1, .num (.v 65554 1), .num (.v 65554 2), .num (.v 65554 3), .tru (.lt (.n 0) (.n 0)), .rows [], .tru (.lt (.n 0) (.n 0)), .rows [], .num (.n 0), .num (.n 0), .num (.n 0)] [.tru (.v 65568 0), .lst 65568 1, .tru (.v 65568 2), .lst 65568 3, .num (.v 65568 4), .num (.v 65568 5), .num (.v 65568 6)] [.tru (.v 65614 0), .lst 65614 1, .tru (.v 65618 0), .lst 65618 1, .num (.v 65568 4), .num (.v 65568 5), .num (.wrap .i64 (.bin .add (.v 65568 6) (.n 1)))]) <|
                        .bad))))))))))
              (.f (.npre 36 [.num (.v 65554 0), .num (.v 65554 1), .num (.v 65554 2), .num (.v 65554 3), .num (.v 65554 4), .num (.at 0 1 (.v 65568 6) 0), .num (.at 0 1 (.v 65568 6) 1), .num (.at 0 1 (.v 65568 6) 2)]) <|
               .bad))
             (.f (.npre 15 [.num (.v 65554 0), .num (.v 65554 1), .num (.v 65554 2), .num (.v 65554 3), .num (.v 65554 4), .num (.at 0 1 (.v 65568 6) 0), .num (.at 0 1 (.v 65568 6) 1), .num (.at 0 1 (.v 65568 6) 2)]) <|
              .bad))
            (.f (.npre 37 [.num (.v 65575 0), .tru (.v 65575 1), .lst 65575 2, .num (.v 65575 3), .num (.v 65575 4), .num (.v 65577 0), .num (.v 65577 1), .num (.v 65577 2)]) <|
             .bad))
           (.f (.npre 28 [.num (.at 0 1 (.v 65568 6) 0), .num (.at 0 1 (.v 65568 6) 1), .num (.at 0 1 (.v 65568 6) 2)]) <|
            .bad))
          (.f (.npre 38 [.num (.v 65554 0), .num (.v 65554 1), .num (.v 65554 2), .num (.v 65554 3), .num (.v 65554 4)]) <|
           .bad))
         (.f (.is (.lt (.v 65568 6) (.n 0)) true) <|
          .bad))
        (.f (.is (.lt (.v 65568 6) (.len 0 1)) false) <|
         .br (.f (.is (.v 65554 5) true) <|
          .br (.f (.rel 40 [.tru (.v 65568 0), .lst 65568 1] 65573 [.int .i64]) <|
           .br (.f (.is (.eq (.v 65573 0) (.n 0)) true) <|
            .br (.f (.is (.lt (.n 0) (.v 65568 4)) true) <|
             .br (.f (.is (.lt (.n 0) (.v 65568 5)) true) <|
              .br (.f (.rel 40 [.tru (.v 65568 2), .lst 65568 3] 65586 [.int .i64]) <|
               .br (.f (.is (.le (.v 65586 0) (.n 0)) true) <|
                .br (.f (.rel 23 [.num (.wrap .i64 (.bin .sub (.n 0) (.len 0 1)))] 65594 [.bool, .list [.int .i64]]) <|
                 .br (.f (.rel 22 [.tru (.v 65568 2), .lst 65568 3, .tru (.v 65594 0), .lst 65594 1] 65595 [.int .i64]) <|
                  .ok [.tru (.lt (.n 0) (.v 65595 0))])
                 (.f (.npre 22 [.tru (.v 65568 2), .lst 65568 3, .tru (.v 65594 0), .lst 65594 1]) <|
                  .bad))
                (.f (.npre 23 [.num (.wrap .i64 (.bin .sub (.n 0) (.len 0 1)))]) <|
                 .bad))
               (.f (.is (.le (.v 65586 0) (.n 0)) false) <|
                .ok [.tru (.lt (.n 0) (.n 0))]))
              (.f (.npre 40 [.tru (.v 65568 2), .lst 65568 3]) <|
               .bad))
             (.f (.is (.lt (.n 0) (.v 65568 5)) false) <|
              .ok [.tru (.lt (.n 0) (.n 0))]))
            (.f (.is (.lt (.n 0) (.v 65568 4)) false) <|
             .ok [.tru (.lt (.n 0) (.n 0))]))
           (.f (.is (.eq (.v 65573 0) (.n 0)) false) <|
            .ok [.tru (.lt (.n 0) (.n 0))]))
          (.f (.npre 40 [.tru (.v 65568 0), .lst 65568 1]) <|
           .bad))
         (.f (.is (.v 65554 5) false) <|
          .ok [.tru (.lt (.n 0) (.n 0))])))
       (.f (.nrel 100816 [.num (.v 0 0), .lst 0 1, .num (.v 65554 1), .num (.v 65554 2), .num (.v 65554 3), .tru (.lt (.n 0) (.n 0)), .rows [], .tru (.lt (.n 0) (.n 0)), .rows [], .num (.n 0), .num (.n 0), .num (.n 0)] [.tru (.lt (.n 0) (.n 0)), .rows [], .tru (.lt (.n 0) (.n 0)), .rows [], .num (.n 0), .num (.n 0), .num (.n 0)]) <|
        .bad))
      (.f (.npre 12 [.num (.v 0 0), .lst 0 1]) <|
       .bad)))
    (.f (.nrel 100806 [.num (.v 0 0), .lst 0 1, .num (.n 0)] [.num (.n 0)]) <|
     .bad)))
theorem c8 : ConS Tryz.prog T C8 := con_tr (cs := [C10, C11, C12, C15, C22, C23, C26, C28, C36, C37, C38, C40, C42]) (lcs := [L100806, L100816]) (known := [19, 56, 9, 43, 78, 99, 34, 67, 27, 64, 93, 109, 119, 108, 118, 129, 141, 159, 162, 158, 161, 170, 171]) (cons_cons c10 (cons_cons c11 (cons_cons c12 (cons_cons c15 (cons_cons c22 (cons_cons c23 (cons_cons c26 (cons_cons c28 (cons_cons c36 (cons_cons c37 (cons_cons c38 (cons_cons c40 (cons_cons c42 (cons_nil _ _)))))))))))))) known19 (N := 400) (d := 40) (t := t8) (by kernel_rfl) <| by
  intro E hl hp
  have hl1 := hl 1 _ rfl
  clear hl
  have hp := hp rfl
  simp only [C8, show T.pre 8 = Q8 from rfl, flatS, SP.flat, dvs, List.append_nil, List.cons_append, List.nil_append, Q8, U64, U32, I64, s64, WT, PR, MB] at hp
  simp only [t8, C8, Tr.good, Fact.den, LX.den, DX.ls, DV.ls, DX.den, Bx.den, Ex.den, eo_add, eo_sub, eo_mul, eo_quo, eo_rem, eo_fdv, eo_mn, eo_mx, eo_land, eo_lor, eo_lxor, eo_landn, eo_shl, eo_shr, dvs, flatS, SP.flat, ST.flat, List.map_cons, List.map_nil, List.append_nil, List.cons_append, List.nil_append, ltb_t, ltb_f, leb_t, leb_f, eqb_t, eqb_f, decide_eq_true_eq, decide_eq_false_iff_not, Bool.not_eq_true', Bool.not_eq_false', Bool.and_eq_true, Bool.and_eq_false_imp, beq_iff_eq, beq_eq_false_iff_ne, bne_iff_ne, U64, U32, I64, Told, s64, WT, PR, MB, Int.zero_mul, Int.zero_add, Int.add_zero, Int.mul_zero, IntKind.wrap_u64, IntKind.wrap_i64, IntKind.wrap_u32, ne_eq, forall_const, true_implies, show T.rel 8 = R8 from rfl, R8, show T.rel 10 = R10 from rfl, R10, show T.rel 11 = R11 from rfl, R11, show T.rel 12 = R12 from rfl, R12, show T.rel 15 = R15 from rfl, R15, show T.rel 22 = R22 from rfl, R22, show T.rel 23 = R23 from rfl, R23, show T.rel 26 = R26 from rfl, R26, show T.rel 28 = R28 from rfl, R28, show T.rel 36 = R36 from rfl, R36, show T.rel 37 = R37 from rfl, R37, show T.rel 38 = R38 from rfl, R38, show T.rel 40 = R40 from rfl, R40, show T.rel 42 = R42 from rfl, R42, show T.rel 100806 = R100806 from rfl, R100806, show T.rel 100816 = R100816 from rfl, R100816, show T.mu 100806 = M100806 from rfl, M100806, show T.mu 100816 = M100816 from rfl, M100816, show T.pre 8 = Q8 from rfl, Q8, show T.pre 12 = Q12 from rfl, Q12, show T.pre 15 = Q15 from rfl, Q15, show T.pre 22 = Q22 from rfl, Q22, show T.pre 23 = Q23 from rfl, Q23, show T.pre 26 = Q26 from rfl, Q26, show T.pre 28 = Q28 from rfl, Q28, show T.pre 36 = Q36 from rfl, Q36, show T.pre 37 = Q37 from rfl, Q37, show T.pre 38 = Q38 from rfl, Q38, show T.pre 40 = Q40 from rfl, Q40, show T.pre 42 = Q42 from rfl, Q42]
  revert hp hl1
  generalize (E.r 0).i 0 = base
  generalize (E.r 0).l 1 = xs
  generalize (E.r 65550).i 0 = x14_0
  generalize (E.r 65554).i 0 = x18_0
  generalize (E.r 65554).i 1 = x18_1
  generalize (E.r 65554).i 2 = x18_2
  generalize (E.r 65554).i 3 = x18_3
  generalize (E.r 65554).i 4 = x18_4
  generalize (E.r 65554).c 5 = x18_5
  generalize (E.r 65559).i 0 = x23_0
  generalize (E.r 65562).c 0 = x26_0
  generalize (E.r 65568).c 0 = x32_0
  generalize (E.r 65568).l 1 = x32_1
  generalize (E.r 65568).c 2 = x32_2
  generalize (E.r 65568).l 3 = x32_3
  generalize (E.r 65568).i 4 = x32_4
  generalize (E.r 65568).i 5 = x32_5
  generalize (E.r 65568).i 6 = x32_6
  generalize (E.r 65573).i 0 = x37_0
  generalize (E.r 65575).i 0 = x39_0
  generalize (E.r 65575).c 1 = x39_1
  generalize (E.r 65575).l 2 = x39_2
  generalize (E.r 65575).i 3 = x39_3
  generalize (E.r 65575).i 4 = x39_4
  generalize (E.r 65577).i 0 = x41_0
  generalize (E.r 65577).i 1 = x41_1
  generalize (E.r 65577).i 2 = x41_2
  generalize (E.r 65578).c 0 = x42_0
  generalize (E.r 65578).l 1 = x42_1
  generalize (E.r 65578).c 2 = x42_2
  generalize (E.r 65586).i 0 = x50_0
  generalize (E.r 65587).i 0 = x51_0
  generalize (E.r 65587).i 1 = x51_1
  generalize (E.r 65587).c 2 = x51_2
  generalize (E.r 65594).c 0 = x58_0
  generalize (E.r 65594).l 1 = x58_1
  generalize (E.r 65595).i 0 = x59_0
  generalize (E.r 65596).i 0 = x60_0
  generalize (E.r 65596).c 1 = x60_1
  generalize (E.r 65614).c 0 = x78_0
  generalize (E.r 65614).l 1 = x78_1
  generalize (E.r 65617).c 0 = x81_0
  generalize (E.r 65617).l 1 = x81_1
  generalize (E.r 65618).c 0 = x82_0
  generalize (E.r 65618).l 1 = x82_1
  simp only [Bg]
  try generalize bval x32_0 x32_1 = y32_0
  try generalize bval x32_2 x32_3 = y32_2
  try generalize bval x39_1 x39_2 = y39_1
  try generalize bval x42_0 x42_1 = y42_0
  try generalize bval x58_0 x58_1 = y58_0
  try generalize bval x78_0 x78_1 = y78_0
  try generalize bval x81_0 x81_1 = y81_0
  try generalize bval x82_0 x82_1 = y82_0
  try simp only [mxI, mnI]
  try simp only [ltb, leb, eqb, Int.lt_irrefl, decide_false, Int.le_refl, decide_true]
  intro hl hp
  obtain ⟨⟨b0, b1⟩, hk⟩ := hp
  refine ⟨fun _ => trivial, fun c1 => ⟨fun _ => trivial, fun c2 => ⟨fun ⟨L1, L2, L3, L4⟩ => ⟨fun c5 => ⟨fun c6 => ?_, fun h => by omega⟩, fun c5 => ?_⟩, ?_⟩⟩⟩
  · intro e23 h26
    refine ⟨fun _ => trivial, fun c7 => ⟨fun _ => trivial, fun c8 => ⟨fun _ => trivial, fun c9 => ?_⟩⟩⟩
    obtain ⟨k, rfl⟩ := Int.eq_ofNat_of_zero_le L1
    have e : ((k : Int) + 1 + 9223372036854775808) % 18446744073709551616 - 9223372036854775808 = ((k + 1 : Nat) : Int) := by omega
    simp only [e, Int.toNat_natCast] at *
    exact ⟨fun n => n ⟨by omega, by omega, AP.succ.2 ⟨L3, h26.1 c7⟩, AQ.succ.2 ⟨L4, by simp only [s64]; omega, by simp only [s64]; omega⟩⟩, by omega⟩
  · have ex : x14_0 = (xs.length : Int) := by omega
    subst ex
    simp only [Int.toNat_natCast] at L3 L4
    refine ⟨fun ⟨f1, f2, f3⟩ => ?_, fun n => n hk⟩
    have e18 : x18_5 = true := f1.2 ⟨by omega, L3⟩
    obtain ⟨f4, f5, f6, f7, f8⟩ := f2 e18
    subst f4 f7 f8
    clear f1 f2 f3
    have hW := SW_le L3
    have hA := SA_nearQ hk L3 L4
    have hMR : MR x18_1 x18_2 (SW xs xs.length) xs.length := by right; omega
    have hMq : Mq (SA x18_0 xs xs.length) (SW xs xs.length) xs.length := by simp only [Mq, MB]; right; omega
    rw [f6]
    refine ⟨fun ⟨i0, i1, d1, d2, v1, v2, v3, o0, o1, a0, a1, z1, z2⟩ => ?_, fun n => n ⟨trivial, by omega, BOK_nil, BOK_nil, by simp [bval_nil, SW, SA], by simp [bval_nil], by simp [bval_nil], trivial, trivial, trivial, trivial, by simp [bval_nil], by simp [bval_nil]⟩⟩
    obtain ⟨k, rfl⟩ := Int.eq_ofNat_of_zero_le i0
    simp only [Int.toNat_natCast] at v1
    have hkn : k ≤ xs.length := by omega
    have hWk := SW_mono L3 hkn
    have hAk := SA_nearQ (Q := 1152921504606846976) (b := x18_0) hk (k := k) (fun j hj => L3 j (by omega)) (fun j hj => L4 j (by omega))
    generalize hAe : SA x18_0 xs xs.length = A at *
    generalize hWe : SW xs xs.length = Wt at *
    have m1 := mul_le2 (a := A) (b := SW xs k) (X := 38685626227668133590597632) (Y := 33554432) (by omega) (by omega) (by omega) (by omega)
    have m2 := mul_le2 (a := SA x18_0 xs k) (b := Wt) (X := 38685626227668133590597632) (Y := 33554432) (by omega) (by omega) (by omega) (by omega)
    have m3 := mul_le2 (a := (k : Int)) (b := Wt - 1) (X := 32) (Y := 33554432) (by omega) (by omega) (by omega) (by omega)
    have dd : -5192296858534827628530496329220096 ≤ y32_2 ∧ y32_2 ≤ 5192296858534827628530496329220096 := by
      constructor
      · apply Int.not_lt.1; intro h
        have := Int.mul_le_mul_of_nonneg_right (show 1 ≤ Wt by omega) (show 0 ≤ -y32_2 by omega)
        rw [Int.one_mul, Int.mul_neg] at this
        omega
      · apply Int.not_lt.1; intro h
        have := Int.mul_le_mul_of_nonneg_right (show 1 ≤ Wt by omega) (show 0 ≤ y32_2 by omega)
        omega
    refine ⟨fun c10 => ⟨fun c11 => ?_, fun h => by omega⟩, fun c10 => ⟨fun _ => ?_, fun h => absurd (e18.symm.trans h) (by simp)⟩⟩
    · have hkl : k < xs.length := by omega
      have hpk := L3 k hkl
      have hkk := hk k
      have hnk := L4 k hkl
      have dk := near_distQ hpk hkk.2.1.1 hnk.1 hnk.2
      simp only [s64] at dk
      have SWk : SW xs (k + 1) = SW xs k + Sy.rowAt xs k 2 := rfl
      have SAk : SA x18_0 xs (k + 1) = SA x18_0 xs k + rdist x18_0 xs k := rfl
      simp only [rdist, s64] at SAk
      refine ⟨fun ⟨g1, g2, g3, g4, g5⟩ => ?_, fun n => n ⟨f5, by omega, by omega⟩⟩
      replace g1 := g1.symm
      replace g3 := g3.symm
      replace g4 := g4.symm
      replace g5 := g5.symm
      subst g1 g3 g4 g5
      refine ⟨fun ⟨k1, k2, k3⟩ => ?_, fun n => n hkk⟩
      subst k1 k2 k3
      generalize hD : Sy.rowAt xs k 2 * ((Sy.rowAt xs k 0 - x18_0 + 9223372036854775808) % 18446744073709551616 - 9223372036854775808) + Sy.rowAt xs k 1 = D at *
      generalize hv : Sy.rowAt xs k 2 = v at *
      have p1 := mul_le2 (a := A) (b := v) (X := 38685626227668133590597632) (Y := 1048576) (by omega) (by omega) (by omega) (by omega)
      have p2 := mul_le2 (a := D) (b := Wt) (X := 1208925819614629174706176) (Y := 33554432) (by omega) (by omega) (by omega) (by omega)
      have HB : 0 < (xs.length : Int) ∧ PR (Sy.rowAt xs k 1) v ∧ Big (A * v) ∧ Big (D * Wt) ∧ Big (A * v - D * Wt) := ⟨by omega, hpk, by omega, by omega, by omega⟩
      refine ⟨fun ⟨q1, q2, q3, q4⟩ => ⟨fun ⟨s1, s2, s3, s4⟩ => ⟨fun ⟨u1, u2, u3⟩ => ?_, fun n => n ⟨f5, by omega, by omega, by omega, by omega⟩⟩, fun n => n ⟨f5, by omega, by omega, by omega, by omega⟩⟩, fun n => n ⟨g2, (show Big A by omega), by omega, by omega, by omega, by omega, by omega, by omega, by omega⟩⟩
      have e42 : x42_2 = true := q2.2 ⟨hMq, HB⟩
      have e51 : x51_2 = true := s2.2 ⟨hMR, HB⟩
      have e60 : x60_1 = true := u1.2 ⟨hMR, HB⟩
      have q5 := q3 e42
      have s5 := s3 e51
      have u4 := u3 e60
      clear q2 q3 q4 s2 s3 s4 u1 u2 u3
      have ez := Int.emod_add_mul_ediv (A * v - D * Wt) Wt
      have ez0 := Int.emod_nonneg (A * v - D * Wt) (show Wt ≠ 0 by omega)
      have ez1 := Int.emod_lt_of_pos (A * v - D * Wt) (show 0 < Wt by omega)
      rw [← s5] at ez
      generalize hq : wv x51_0 x51_1 = q at *
      have sg : (0 ≤ x60_0 → D * Wt ≤ A * v) ∧ (x60_0 < 0 → A * v < D * Wt) ∧ (x60_0 ≤ 0 → A * v ≤ D * Wt) ∧ (0 < x60_0 → D * Wt < A * v) := by omega
      refine ⟨fun h => absurd (e42.symm.trans h) (by simp), fun _ => ⟨fun h => absurd (e51.symm.trans h) (by simp), fun _ => ⟨fun h => absurd (e60.symm.trans h) (by simp), fun _ => ⟨fun n => n ⟨⟨d1, by omega, by omega⟩, q1, by omega, by omega⟩, fun ⟨B, eB⟩ => ⟨fun n => n s1, fun ⟨C, eC⟩ => ⟨fun n => n ⟨⟨d2, by omega, by omega⟩, C, by simp only [W, wv] at s1 hq; omega, by simp only [W, wv] at s1 hq; omega⟩, fun ⟨F, eF⟩ => ?_⟩⟩⟩⟩⟩⟩
      have e : ((k : Int) + 1 + 9223372036854775808) % 18446744073709551616 - 9223372036854775808 = ((k + 1 : Nat) : Int) := by omega
      simp only [e, Int.toNat_natCast, SWk, SAk]
      have V1 : y78_0 = A * (SW xs k + v) - (SA x18_0 xs k + D) * Wt := by rw [Int.mul_add, Int.add_mul]; omega
      have V0 : Wt * y82_0 = Wt * y32_2 + Wt * q := by rw [eF, eC, Int.mul_add]
      have V2 : Wt * y82_0 ≤ y78_0 := by omega
      have V3 : y78_0 ≤ Wt * y82_0 + ((k + 1 : Nat) : Int) * (Wt - 1) := by
        have : ((k + 1 : Nat) : Int) * (Wt - 1) = (k : Int) * (Wt - 1) + (Wt - 1) := by rw [show ((k + 1 : Nat) : Int) = (k : Int) + 1 by omega, Int.add_mul, Int.one_mul]
        omega
      refine ⟨fun w0 => ⟨fun w1 => ⟨fun n => n ⟨by omega, by omega, B, F, V1, V2, V3, by omega, by omega, by omega, by omega, by omega, by omega⟩, by omega⟩, fun w1 => ⟨fun n => n ⟨by omega, by omega, B, F, V1, V2, V3, by omega, by omega, by omega, by omega, by omega, by omega⟩, by omega⟩⟩, fun w0 => ⟨fun w1 => ⟨fun n => n ⟨by omega, by omega, B, F, V1, V2, V3, by omega, by omega, by omega, by omega, by omega, by omega⟩, by omega⟩, fun w1 => ⟨fun n => n ⟨by omega, by omega, B, F, V1, V2, V3, by omega, by omega, by omega, by omega, by omega, by omega⟩, by omega⟩⟩⟩
    · have ek : k = xs.length := by omega
      subst ek
      rw [hAe, hWe] at v1
      have y0 : y32_0 = 0 := by omega
      have y1 : y32_2 ≤ 0 := by
        apply Int.not_lt.1; intro h
        have := Int.mul_le_mul_of_nonneg_left (show 1 ≤ y32_2 by omega) (show 0 ≤ Wt by omega)
        omega
      have y2 : -(xs.length : Int) < y32_2 := by
        apply Int.not_le.1; intro h
        have := Int.mul_le_mul_of_nonneg_left h (show 0 ≤ Wt by omega)
        rw [Int.mul_neg] at this
        rw [Int.mul_sub, Int.mul_one, Int.mul_comm (xs.length : Int) Wt] at v3
        omega
      refine ⟨fun ⟨w1, w2, w3⟩ => ⟨fun _ => ⟨fun _ => ⟨fun _ => ⟨fun ⟨w4, w5, w6⟩ => ⟨fun _ => ⟨fun ⟨B, eB⟩ => ⟨fun ⟨w7, w8, w9⟩ => by omega, fun n => n ⟨⟨d2, by omega, by omega⟩, B, by omega, by omega⟩⟩, fun n => n ⟨by omega, by omega⟩⟩, fun h => by omega⟩, fun n => n d2⟩, fun h => by omega⟩, fun h => by omega⟩, fun h => h (w2 y0)⟩, fun n => n d1⟩
  · exact fun n => n ⟨trivial, by omega, AP.nil _, AQ.nil _ _ _⟩
end Go.Proofs.YtafhkgicekddlaaGreatDoor.Fn
