/- What is told of turnstone/turnstonelaw11.WeighBack, shown. -/
import Derived.Test.YtafhkgicekddlaaGreatDoorTab
import Derived.Test.YtafhkgicekddlaaGreatDoorFm2
import Derived.Test.YtafhkgicekddlaaGreatDoorSyAwake5
namespace Go.Proofs.YtafhkgicekddlaaGreatDoor.Fn
open Go Go.RowKit Go.Proofs.YtafhkgicekddlaaGreatDoor.Sy
set_option linter.unusedVariables false
set_option linter.unusedSimpArgs false
set_option maxRecDepth 100000
set_option maxHeartbeats 8000000
open Go.Proofs.YtafhkgicekddlaaGreatDoor.Awake
def t4 : Tr :=
  .br (.f (.is (.lt (.n 32) (.len 0 1)) true) <|
   .ok [.tru (.le (.n 0) (.n 0))])
  (.f (.is (.lt (.n 32) (.len 0 1)) false) <|
   .br (.f (.is (.eq (.len 0 1) (.n 0)) true) <|
    .ok [.tru (.le (.n 0) (.n 0))])
   (.f (.is (.eq (.len 0 1) (.n 0)) false) <|
    .br (.f (.is (.lt (.v 0 3) (.n 1)) true) <|
     .ok [.tru (.le (.n 0) (.n 0))])
    (.f (.is (.lt (.v 0 3) (.n 1)) false) <|
     .br (.f (.is (.lt (.n 1048576) (.v 0 3)) true) <|
      .ok [.tru (.le (.n 0) (.n 0))])
     (.f (.is (.lt (.n 1048576) (.v 0 3)) false) <|
      .br (.f (.rel 100406 [.num (.v 0 0), .lst 0 1, .num (.n 0)] 65558 [.int .i64]) <|
       .br (.f (.is (.lt (.v 65558 0) (.len 0 1)) true) <|
        .br (.f (.is (.lt (.v 65558 0) (.n 0)) false) <|
         .f (.rel 10 [.num (.at 0 1 (.v 65558 0) 0), .num (.v 0 0)] 65567 [.int .i64]) <|
          .f (.rel 11 [.num (.at 0 1 (.v 65558 0) 0), .num (.at 0 1 (.v 65558 0) 1), .num (.at 0 1 (.v 65558 0) 2)] 65570 [.bool]) <|
           .br (.f (.is (.v 65570 0) false) <|
            .ok [.tru (.le (.n 0) (.n 0))])
           (.f (.is (.v 65570 0) true) <|
            .br (.f (.is (.le (.v 65567 0) (.n (-274877906944))) true) <|
             .ok [.tru (.le (.n 0) (.n 0))])
            (.f (.is (.le (.v 65567 0) (.n (-274877906944))) false) <|
             .br (.f (.is (.le (.n 274877906944) (.v 65567 0)) true) <|
              .ok [.tru (.le (.n 0) (.n 0))])
             (.f (.is (.le (.n 274877906944) (.v 65567 0)) false) <|
              .br (.f (.nrel 100406 [.num (.v 0 0), .lst 0 1, .num (.n 0)] [.num (.wrap .i64 (.bin .add (.v 65558 0) (.n 1)))]) <|
               .bad)
              (.f (.ndec 100406 [.num (.v 0 0), .lst 0 1, .num (.n 0)] [.num (.v 65558 0)] [.num (.wrap .i64 (.bin .add (.v 65558 0) (.n 1)))]) <|
               .bad)))))
        (.f (.is (.lt (.v 65558 0) (.n 0)) true) <|
         .bad))
       (.f (.is (.lt (.v 65558 0) (.len 0 1)) false) <|
        .br (.f (.rel 12 [.num (.v 0 0), .lst 0 1] 65562 [.int .u64, .int .i64, .int .u64, .int .u64, .int .i64, .bool]) <|
         .br (.f (.is (.lt (.bin .rem (.wrap .i64 (.v 0 2)) (.len 0 1)) (.n 0)) false) <|
          .br (.f (.is (.lt (.bin .rem (.wrap .i64 (.v 0 2)) (.len 0 1)) (.len 0 1)) true) <|
           .br (.f (.rel 13 [.num (.v 65562 0), .num (.v 65562 1), .num (.v 65562 2), .num (.v 65562 3), .num (.v 65562 4), .num (.at 0 1 (.bin .rem (.wrap .i64 (.v 0 2)) (.len 0 1)) 0), .num (.at 0 1 (.bin .rem (.wrap .i64 (.v 0 2)) (.len 0 1)) 1), .num (.at 0 1 (.bin .rem (.wrap .i64 (.v 0 2)) (.len 0 1)) 2), .num (.v 0 3)] 65581 [.int .u64, .int .u32, .int .u32, .bool]) <|
            .br (.f (.rel 14 [.num (.v 65562 0), .num (.v 65562 1), .num (.v 65562 2), .num (.v 65562 3), .num (.v 65562 4), .num (.at 0 1 (.bin .rem (.wrap .i64 (.v 0 2)) (.len 0 1)) 0), .num (.at 0 1 (.bin .rem (.wrap .i64 (.v 0 2)) (.len 0 1)) 1), .num (.at 0 1 (.bin .rem (.wrap .i64 (.v 0 2)) (.len 0 1)) 2), .num (.v 65581 0), .num (.v 65581 1), .num (.v 65581 2)] 65594 [.int .u64, .int .i64, .int .u64, .int .u64, .int .i64, .bool]) <|
             .br (.f (.rel 13 [.num (.v 65594 0), .num (.v 65594 1), .num (.v 65594 2), .num (.v 65594 3), .num (.v 65594 4), .num (.v 65581 0), .num (.v 65581 1), .num (.v 65581 2), .num (.at 0 1 (.bin .rem (.wrap .i64 (.v 0 2)) (.len 0 1)) 2)] 65608 [.int .u64, .int .u32, .int .u32, .bool]) <|
              .br (.f (.rel 14 [.num (.v 65594 0), .num (.v 65594 1), .num (.v 65594 2), .num (.v 65594 3), .num (.v 65594 4), .num (.v 65581 0), .num (.v 65581 1), .num (.v 65581 2), .num (.v 65608 0), .num (.v 65608 1), .num (.v 65608 2)] 65618 [.int .u64, .int .i64, .int .u64, .int .u64, .int .i64, .bool]) <|
               .br (.f (.is (.v 65562 5) false) <|
                .ok [.tru (.lt (.n 0) (.n 0))])
               (.f (.is (.v 65562 5) true) <|
                .br (.f (.is (.v 65581 3) false) <|
                 .ok [.tru (.lt (.n 0) (.n 0))])
                (.f (.is (.v 65581 3) true) <|
                 .br (.f (.is (.v 65594 5) false) <|
                  .ok [.tru (.lt (.n 0) (.n 0))])
                 (.f (.is (.v 65594 5) true) <|
                  .br (.f (.is (.v 65608 3) false) <|
                   .ok [.tru (.lt (.n 0) (.n 0))])
                  (.f (.is (.v 65608 3) true) <|
                   .br (.f (.is (.v 65618 5) false) <|
                    .ok [.tru (.lt (.n 0) (.n 0))])
                   (.f (.is (.v 65618 5) true) <|
                    .br (.f (.is (.eq (.v 65608 2) (.at 0 1 (.bin .rem (.wrap .i64 (.v 0 2)) (.len 0 1)) 2)) false) <|
                     .ok [.tru (.lt (.n 0) (.n 0))])
                    (.f (.is (.eq (.v 65608 2) (.at 0 1 (.bin .rem (.wrap .i64 (.v 0 2)) (.len 0 1)) 2)) true) <|
                     .br (.f (.rel 100421 [.lst 0 1, .num (.n 0)] 65656 [.int .i64]) <|
                      .br (.f (.is (.lt (.v 65656 0) (.len 0 1)) true) <|
                       .br (.f (.is (.lt (.v 65656 0) (.n 0)) false) <|
                        .br (.f (.is (.eq (.v 65656 0) (.bin .rem (.wrap .i64 (.v 0 2)) (.len 0 1))) true) <|
                         .br (.f (.rel 15 [.num (.v 65562 0), .num (.v 65562 1), .num (.v 65562 2), .num (.v 65562 3), .num (.v 65562 4), .num (.at 0 1 (.v 65656 0) 0), .num (.at 0 1 (.v 65656 0) 1), .num (.at 0 1 (.v 65656 0) 2)] 65674 [.int .i64, .int .u64, .bool]) <|
                          .br (.f (.rel 15 [.num (.v 65618 0), .num (.v 65618 1), .num (.v 65618 2), .num (.v 65618 3), .num (.v 65618 4), .num (.v 65608 0), .num (.v 65608 1), .num (.v 65608 2)] 65683 [.int .i64, .int .u64, .bool]) <|
                           .br (.f (.rel 16 [.num (.v 65683 0), .num (.v 65683 1), .num (.v 65674 0), .num (.v 65674 1)] 65692 [.int .i64, .int .u64, .bool]) <|
                            .br (.f (.rel 17 [.num (.v 65692 0), .num (.v 65692 1)] 65700 [.int .i64, .bool]) <|
                             .br (.f (.is (.v 65700 1) false) <|
                              .ok [.tru (.lt (.n 0) (.n 0))])
                             (.f (.is (.v 65700 1) true) <|
                              .br (.f (.is (.lt (.v 65700 0) (.n (-2))) true) <|
                               .ok [.tru (.lt (.n 0) (.n 0))])
                              (.f (.is (.lt (.v 65700 0) (.n (-2))) false) <|
                               .br (.f (.is (.lt (.n 2) (.v 65700 0)) true) <|
                                .ok [.tru (.lt (.n 0) (.n 0))])
                               (.f (.is (.lt (.n 2) (.v 65700 0)) false) <|
                                .br (.f (.nrel 100421 [.lst 0 1, .num (.n 0)] [.num (.wrap .i64 (.bin .add (.v 65656 0) (.n 1)))]) <|
                                 .bad)
                                (.f (.ndec 100421 [.lst 0 1, .num (.n 0)] [.num (.v 65656 0)] [.num (.wrap .i64 (.bin .add (.v 65656 0) (.n 1)))]) <|
                                 .bad)))))
                            (.f (.npre 17 [.num (.v 65692 0), .num (.v 65692 1)]) <|
                             .bad))
                           (.f (.npre 16 [.num (.v 65683 0), .num (.v 65683 1), .num (.v 65674 0), .num (.v 65674 1)]) <|
                            .bad))
                          (.f (.npre 15 [.num (.v 65618 0), .num (.v 65618 1), .num (.v 65618 2), .num (.v 65618 3), .num (.v 65618 4), .num (.v 65608 0), .num (.v 65608 1), .num (.v 65608 2)]) <|
                           .bad))
                         (.f (.npre 15 [.num (.v 65562 0), .num (.v 65562 1), .num (.v 65562 2), .num (.v 65562 3), .num (.v 65562 4), .num (.at 0 1 (.v 65656 0) 0), .num (.at 0 1 (.v 65656 0) 1), .num (.at 0 1 (.v 65656 0) 2)]) <|
                          .bad))
                        (.f (.is (.eq (.v 65656 0) (.bin .rem (.wrap .i64 (.v 0 2)) (.len 0 1))) false) <|
                         .br (.f (.rel 15 [.num (.v 65562 0), .num (.v 65562 1), .num (.v 65562 2), .num (.v 65562 3), .num (.v 65562 4), .num (.at 0 1 (.v 65656 0) 0), .num (.at 0 1 (.v 65656 0) 1), .num (.at 0 1 (.v 65656 0) 2)] 65672 [.int .i64, .int .u64, .bool]) <|
                          .br (.f (.rel 15 [.num (.v 65618 0), .num (.v 65618 1), .num (.v 65618 2), .num (.v 65618 3), .num (.v 65618 4), .num (.at 0 1 (.v 65656 0) 0), .num (.at 0 1 (.v 65656 0) 1), .num (.at 0 1 (.v 65656 0) 2)] 65681 [.int .i64, .int .u64, .bool]) <|
                           .br (.f (.rel 16 [.num (.v 65681 0), .num (.v 65681 1), .num (.v 65672 0), .num (.v 65672 1)] 65690 [.int .i64, .int .u64, .bool]) <|
                            .br (.f (.rel 17 [.num (.v 65690 0), .num (.v 65690 1)] 65698 [.int .i64, .bool]) <|
                             .br (.f (.is (.v 65698 1) false) <|
                              .ok [.tru (.lt (.n 0) (.n 0))])
                             (.f (.is (.v 65698 1) true) <|
                              .br (.f (.is (.lt (.v 65698 0) (.n (-2))) true) <|
                               .ok [.tru (.lt (.n 0) (.n 0))])
                              (.f (.is (.lt (.v 65698 0) (.n (-2))) false) <|
                               .br (.f (.is (.lt (.n 2) (.v 65698 0)) true) <|
                                .ok [.tru (.lt (.n 0) (.n 0))])
                               (.f (.is (.lt (.n 2) (.v 65698 0)) false) <|
                                .br (.f (.nrel 100421 [.lst 0 1, .num (.n 0)] [.num (.wrap .i64 (.bin .add (.v 65656 0) (.n 1)))]) <|
                                 .bad)
                                (.f (.ndec 100421 [.lst 0 1, .num (.n 0)] [.num (.v 65656 0)] [.num (.wrap .i64 (.bin .add (.v 65656 0) (.n 1)))]) <|
                                 .bad)))))
                            (.f (.npre 17 [.num (.v 65690 0), .num (.v 65690 1)]) <|
                             .bad))
                           (.f (.npre 16 [.num (.v 65681 0), .num (.v 65681 1), .num (.v 65672 0), .num (.v 65672 1)]) <|
                            .bad))
                          (.f (.npre 15 [.num (.v 65618 0), .num (.v 65618 1), .num (.v 65618 2), .num (.v 65618 3), .num (.v 65618 4), .num (.at 0 1 (.v 65656 0) 0), .num (.at 0 1 (.v 65656 0) 1), .num (.at 0 1 (.v 65656 0) 2)]) <|
                           .bad))
                         (.f (.npre 15 [.num (.v 65562 0), .num (.v 65562 1), .num (.v 65562 2), .num (.v 65562 3), .num (.v 65562 4), .num (.at 0 1 (.v 65656 0) 0), .num (.at 0 1 (.v 65656 0) 1), .num (.at 0 1 (.v 65656 0) 2)]) <|
                          .bad)))
                       (.f (.is (.lt (.v 65656 0) (.n 0)) true) <|
                        .bad))
                      (.f (.is (.lt (.v 65656 0) (.len 0 1)) false) <|
                       .ok [.tru (.le (.n 0) (.n 0))]))
                     (.f (.nrel 100421 [.lst 0 1, .num (.n 0)] [.num (.n 0)]) <|
                      .bad))))))))
              (.f (.npre 14 [.num (.v 65594 0), .num (.v 65594 1), .num (.v 65594 2), .num (.v 65594 3), .num (.v 65594 4), .num (.v 65581 0), .num (.v 65581 1), .num (.v 65581 2), .num (.v 65608 0), .num (.v 65608 1), .num (.v 65608 2)]) <|
               .bad))
             (.f (.npre 13 [.num (.v 65594 0), .num (.v 65594 1), .num (.v 65594 2), .num (.v 65594 3), .num (.v 65594 4), .num (.v 65581 0), .num (.v 65581 1), .num (.v 65581 2), .num (.at 0 1 (.bin .rem (.wrap .i64 (.v 0 2)) (.len 0 1)) 2)]) <|
              .bad))
            (.f (.npre 14 [.num (.v 65562 0), .num (.v 65562 1), .num (.v 65562 2), .num (.v 65562 3), .num (.v 65562 4), .num (.at 0 1 (.bin .rem (.wrap .i64 (.v 0 2)) (.len 0 1)) 0), .num (.at 0 1 (.bin .rem (.wrap .i64 (.v 0 2)) (.len 0 1)) 1), .num (.at 0 1 (.bin .rem (.wrap .i64 (.v 0 2)) (.len 0 1)) 2), .num (.v 65581 0), .num (.v 65581 1), .num (.v 65581 2)]) <|
             .bad))
           (.f (.npre 13 [.num (.v 65562 0), .num (.v 65562 1), .num (.v 65562 2), .num (.v 65562 3), .num (.v 65562 4), .num (.at 0 1 (.bin .rem (.wrap .i64 (.v 0 2)) (.len 0 1)) 0), .num (.at 0 1 (.bin .rem (.wrap .i64 (.v 0 2)) (.len 0 1)) 1), .num (.at 0 1 (.bin .rem (.wrap .i64 (.v 0 2)) (.len 0 1)) 2), .num (.v 0 3)]) <|
            .bad))
          (.f (.is (.lt (.bin .rem (.wrap .i64 (.v 0 2)) (.len 0 1)) (.len 0 1)) false) <|
           .bad))
         (.f (.is (.lt (.bin .rem (.wrap .i64 (.v 0 2)) (.len 0 1)) (.n 0)) true) <|
          .bad))
        (.f (.npre 12 [.num (.v 0 0), .lst 0 1]) <|
         .bad)))
      (.f (.nrel 100406 [.num (.v 0 0), .lst 0 1, .num (.n 0)] [.num (.n 0)]) <|
       .bad)))))
theorem c4 : ConS Tryz.prog T C4 := con_tr (cs := [C10, C11, C12, C13, C14, C15, C16, C17]) (lcs := [L100406, L100421]) (known := [19, 56, 9, 43, 78, 99, 34, 67, 27, 64, 93, 109, 119, 108, 118, 129, 141, 159, 162, 158, 161, 170, 171]) (cons_cons c10 (cons_cons c11 (cons_cons c12 (cons_cons c13 (cons_cons c14 (cons_cons c15 (cons_cons c16 (cons_cons c17 (cons_nil _ _))))))))) known19 (N := 400) (d := 40) (t := t4) (by kernel_rfl) <| by
  intro E hl hp
  have hl1 := hl 1 _ rfl
  clear hl
  have hp := hp rfl
  simp only [C4, show T.pre 4 = Q4 from rfl, flatS, SP.flat, dvs, List.append_nil, List.cons_append, List.nil_append, Q4, U64, U32, I64, s64, WT, PR, MB] at hp
  simp only [t4, C4, Tr.good, Fact.den, LX.den, DX.ls, DV.ls, DX.den, Bx.den, Ex.den, eo_add, eo_sub, eo_mul, eo_quo, eo_rem, eo_fdv, eo_mn, eo_mx, eo_land, eo_lor, eo_lxor, eo_landn, eo_shl, eo_shr, dvs, flatS, SP.flat, ST.flat, List.map_cons, List.map_nil, List.append_nil, List.cons_append, List.nil_append, ltb_t, ltb_f, leb_t, leb_f, eqb_t, eqb_f, decide_eq_true_eq, decide_eq_false_iff_not, Bool.not_eq_true', Bool.not_eq_false', Bool.and_eq_true, Bool.and_eq_false_imp, beq_iff_eq, beq_eq_false_iff_ne, bne_iff_ne, U64, U32, I64, Told, s64, WT, PR, MB, Int.zero_mul, Int.zero_add, Int.add_zero, Int.mul_zero, IntKind.wrap_u64, IntKind.wrap_i64, IntKind.wrap_u32, ne_eq, forall_const, true_implies, show T.rel 4 = R4 from rfl, R4, show T.rel 10 = R10 from rfl, R10, show T.rel 11 = R11 from rfl, R11, show T.rel 12 = R12 from rfl, R12, show T.rel 13 = R13 from rfl, R13, show T.rel 14 = R14 from rfl, R14, show T.rel 15 = R15 from rfl, R15, show T.rel 16 = R16 from rfl, R16, show T.rel 17 = R17 from rfl, R17, show T.rel 100406 = R100406 from rfl, R100406, show T.rel 100421 = R100421 from rfl, R100421, show T.mu 100406 = M100406 from rfl, M100406, show T.mu 100421 = M100421 from rfl, M100421, show T.pre 4 = Q4 from rfl, Q4, show T.pre 12 = Q12 from rfl, Q12, show T.pre 13 = Q13 from rfl, Q13, show T.pre 14 = Q14 from rfl, Q14, show T.pre 15 = Q15 from rfl, Q15, show T.pre 16 = Q16 from rfl, Q16, show T.pre 17 = Q17 from rfl, Q17]
  revert hp hl1
  generalize (E.r 0).i 0 = base
  generalize (E.r 0).l 1 = xs
  generalize (E.r 0).i 2 = i
  generalize (E.r 0).i 3 = x
  generalize (E.r 65558).i 0 = x22_0
  generalize (E.r 65562).i 0 = x26_0
  generalize (E.r 65562).i 1 = x26_1
  generalize (E.r 65562).i 2 = x26_2
  generalize (E.r 65562).i 3 = x26_3
  generalize (E.r 65562).i 4 = x26_4
  generalize (E.r 65562).c 5 = x26_5
  generalize (E.r 65567).i 0 = x31_0
  generalize (E.r 65570).c 0 = x34_0
  generalize (E.r 65581).i 0 = x45_0
  generalize (E.r 65581).i 1 = x45_1
  generalize (E.r 65581).i 2 = x45_2
  generalize (E.r 65581).c 3 = x45_3
  generalize (E.r 65594).i 0 = x58_0
  generalize (E.r 65594).i 1 = x58_1
  generalize (E.r 65594).i 2 = x58_2
  generalize (E.r 65594).i 3 = x58_3
  generalize (E.r 65594).i 4 = x58_4
  generalize (E.r 65594).c 5 = x58_5
  generalize (E.r 65608).i 0 = x72_0
  generalize (E.r 65608).i 1 = x72_1
  generalize (E.r 65608).i 2 = x72_2
  generalize (E.r 65608).c 3 = x72_3
  generalize (E.r 65618).i 0 = x82_0
  generalize (E.r 65618).i 1 = x82_1
  generalize (E.r 65618).i 2 = x82_2
  generalize (E.r 65618).i 3 = x82_3
  generalize (E.r 65618).i 4 = x82_4
  generalize (E.r 65618).c 5 = x82_5
  generalize (E.r 65656).i 0 = x120_0
  generalize (E.r 65672).i 0 = x136_0
  generalize (E.r 65672).i 1 = x136_1
  generalize (E.r 65672).c 2 = x136_2
  generalize (E.r 65674).i 0 = x138_0
  generalize (E.r 65674).i 1 = x138_1
  generalize (E.r 65674).c 2 = x138_2
  generalize (E.r 65681).i 0 = x145_0
  generalize (E.r 65681).i 1 = x145_1
  generalize (E.r 65681).c 2 = x145_2
  generalize (E.r 65683).i 0 = x147_0
  generalize (E.r 65683).i 1 = x147_1
  generalize (E.r 65683).c 2 = x147_2
  generalize (E.r 65690).i 0 = x154_0
  generalize (E.r 65690).i 1 = x154_1
  generalize (E.r 65690).c 2 = x154_2
  generalize (E.r 65692).i 0 = x156_0
  generalize (E.r 65692).i 1 = x156_1
  generalize (E.r 65692).c 2 = x156_2
  generalize (E.r 65698).i 0 = x162_0
  generalize (E.r 65698).c 1 = x162_1
  generalize (E.r 65700).i 0 = x164_0
  generalize (E.r 65700).c 1 = x164_1
  try simp only [mxI, mnI]
  try simp only [ltb, leb, eqb, Int.lt_irrefl, decide_false, Int.le_refl, decide_true]
  intro hl hp
  obtain ⟨⟨b0, b1⟩, hk, i0, i1, x0, x1⟩ := hp
  refine ⟨fun _ => trivial, fun c1 => ⟨fun _ => trivial, fun c2 => ⟨fun _ => trivial, fun c3 => ⟨fun _ => trivial, fun c4 => ⟨fun ⟨L1, L2, L3, L4⟩ => ⟨fun c5 => ⟨fun c6 => ?_, fun h => by omega⟩, fun c5 => ?_⟩, ?_⟩⟩⟩⟩⟩
  · intro e31 h34
    refine ⟨fun _ => trivial, fun c7 => ⟨fun _ => trivial, fun c8 => ⟨fun _ => trivial, fun c9 => ?_⟩⟩⟩
    obtain ⟨k, rfl⟩ := Int.eq_ofNat_of_zero_le L1
    have e : ((k : Int) + 1 + 9223372036854775808) % 18446744073709551616 - 9223372036854775808 = ((k + 1 : Nat) : Int) := by omega
    simp only [e, Int.toNat_natCast] at *
    exact ⟨fun n => n ⟨by omega, by omega, AP.succ.2 ⟨L3, h34.1 c7⟩, AN.succ.2 ⟨L4, by simp only [s64]; omega, by simp only [s64]; omega⟩⟩, by omega⟩
  · have ex : x22_0 = (xs.length : Int) := by omega
    subst ex
    simp only [Int.toNat_natCast] at L3 L4
    refine ⟨fun ⟨f1, f2, f3⟩ => ?_, fun n => n hk⟩
    have e26 : x26_5 = true := f1.2 ⟨by omega, L3⟩
    obtain ⟨f4, f5, f6, f7, f8⟩ := f2 e26
    subst f4 f7 f8
    clear f1 f2 f3
    have J0 : 0 ≤ ((i + 9223372036854775808) % 18446744073709551616 - 9223372036854775808).tmod (xs.length : Int) ∧ ((i + 9223372036854775808) % 18446744073709551616 - 9223372036854775808).tmod (xs.length : Int) < xs.length := by
      rw [Int.tmod_eq_emod_of_nonneg (by omega)]
      exact ⟨Int.emod_nonneg _ (by omega), Int.emod_lt_of_pos _ (by omega)⟩
    generalize ((i + 9223372036854775808) % 18446744073709551616 - 9223372036854775808).tmod (xs.length : Int) = J at *
    obtain ⟨j, rfl⟩ := Int.eq_ofNat_of_zero_le J0.1
    have hj : j < xs.length := by omega
    have hpj := L3 j hj
    have hkj := hk j
    have hnj := L4 j hj
    have hW := SW_le L3
    have hA := SA_near hk L3 L4
    have hr := SW_rest L3 j hj
    have dj := near_dist hpj hkj.2.1.1 hnj.1 hnj.2
    simp only [s64] at dj
    have hMR : MR x26_1 x26_2 (SW xs xs.length) xs.length := by right; omega
    rw [f6]
    have hAD : xs.length = 1 → SA x26_0 xs xs.length = Sy.rowAt xs j 2 * ((Sy.rowAt xs j 0 - x26_0 + 9223372036854775808) % 18446744073709551616 - 9223372036854775808) + Sy.rowAt xs j 1 := by
      intro hn
      have e0 : j = 0 := by omega
      subst e0
      rw [hn]
      simp only [SA, rdist, s64]
      omega
    have key : ∀ a a' w w' o : Int, 0 < w → 0 ≤ w' → -(274877906944 * w) ≤ a → a ≤ 274877906944 * w → a' * w = a * w' - 0 * w' - o → 0 ≤ o → o < w → -(274877906944 * w') ≤ a' ∧ a' ≤ 274877906944 * w' := by
      intro a a' w w' o w0 w1 lo hi h o0 o1
      have h1 := Int.mul_le_mul_of_nonneg_right hi w1
      have h2 := Int.mul_le_mul_of_nonneg_right lo w1
      have c : 274877906944 * w * w' = 274877906944 * w' * w := by rw [Int.mul_assoc, Int.mul_comm w, ← Int.mul_assoc]
      rw [Int.neg_mul, c] at h2
      rw [c] at h1
      constructor
      · apply Int.not_lt.1; intro n
        have h3 := Int.mul_le_mul_of_nonneg_right (show a' ≤ -(274877906944 * w') - 1 by omega) (show 0 ≤ w by omega)
        rw [Int.sub_mul, Int.neg_mul, Int.one_mul] at h3
        omega
      · apply Int.not_lt.1; intro n
        have h3 := Int.mul_le_mul_of_nonneg_right (show 274877906944 * w' + 1 ≤ a' by omega) (show 0 ≤ w by omega)
        rw [Int.add_mul, Int.one_mul] at h3
        omega
    generalize hAe : SA x26_0 xs xs.length = A at *
    generalize hWe : SW xs xs.length = Wt at *
    generalize hDe : Sy.rowAt xs j 2 * ((Sy.rowAt xs j 0 - x26_0 + 9223372036854775808) % 18446744073709551616 - 9223372036854775808) + Sy.rowAt xs j 1 = D at *
    have hy := by_le (z := x - Sy.rowAt xs j 2) hA.1 hA.2 (by omega) (by omega) (by omega)
    have hB1 := mul_le2 (a := A) (b := x - Sy.rowAt xs j 2) (X := 9223372036854775808) (Y := 1048576) (by omega) (by omega) (by omega) (by omega)
    have own := weigh_own (A := A) (W := Wt) (w := x) (v := Sy.rowAt xs j 2) (by omega) (by omega) (by omega)
    have hm := weigh_mean (A := A) (W := Wt) (w := x) (v := Sy.rowAt xs j 2) (by omega)
    have m0 := Int.emod_nonneg (A * (x - Sy.rowAt xs j 2)) (show Wt ≠ 0 by omega)
    have m1 := Int.emod_lt_of_pos (A * (x - Sy.rowAt xs j 2)) (show 0 < Wt by omega)
    refine ⟨fun _ => ⟨fun _ => ⟨fun ⟨g1, g2, g3⟩ => ?_, fun n => n ⟨f5, by omega, by omega, by omega, by omega, by omega, by omega⟩⟩, fun h => by omega⟩, fun h => by omega⟩
    generalize hYe : A * (x - Sy.rowAt xs j 2) / Wt = y at *
    have dz := Int.emod_add_ediv_mul (D + y) x
    have dz0 := Int.emod_nonneg (D + y) (show x ≠ 0 by omega)
    have dz1 := Int.emod_lt_of_pos (D + y) (show 0 < x by omega)
    have dq : -1152921504606846976 ≤ (D + y) / x ∧ (D + y) / x ≤ 1152921504606846976 := by
      constructor
      · apply Int.le_ediv_of_mul_le (by omega); omega
      · have : (D + y) / x < 1152921504606846977 := by apply Int.ediv_lt_of_lt_mul (by omega); omega
        omega
    have e45 : x45_3 = true := g1.2 ⟨hMR, by omega, hpj, ⟨c3, c4⟩, by omega, by omega, by omega, by omega⟩
    obtain ⟨q1, q2, q3, q4, q5⟩ := g2 e45
    subst q5
    clear g1 g2 g3
    have es : (x45_0 - x26_0 + 9223372036854775808) % 18446744073709551616 - 9223372036854775808 = (D + y) / x45_2 := by omega
    have eD : x45_2 * ((x45_0 - x26_0 + 9223372036854775808) % 18446744073709551616 - 9223372036854775808) + x45_1 = D + y := by
      rw [es, q2, Int.mul_comm]; omega
    rw [eD]
    refine ⟨fun ⟨k1, k2, k3, k4⟩ => ?_, fun n => n ⟨f5, by omega, by omega, by omega, by omega, by omega, by omega⟩⟩
    have e58 : x58_5 = true := by
      by_cases hn : xs.length = 1
      · refine k2 ⟨hMR, by omega, by omega, hpj, by omega, ?_, by omega⟩
        subst hAe hDe
        have e0 : j = 0 := by omega
        subst e0
        rw [hn]
        simp only [SA, rdist, s64]
        omega
      · exact k1 ⟨hMR, by omega, hpj, by omega, by omega, by omega, by omega, by omega⟩
    obtain ⟨r1, r2, r3, r4, r5, r6⟩ := k3 e58
    subst r1 r4 r5
    clear k1 k2 k3 k4
    have r3 : wv x58_1 x58_2 = A + y := by rw [r3]; omega
    rw [r3, eD]
    have hWW : Wt - Sy.rowAt xs j 2 + x45_2 - x45_2 + Sy.rowAt xs j 2 = Wt := by omega
    have hA' := key A (A + y) Wt (Wt - Sy.rowAt xs j 2 + x45_2) _ (by omega) (by omega) hA.1 hA.2 hm m0 m1
    have hy' := by_le (z := Sy.rowAt xs j 2 - x45_2) hA'.1 hA'.2 (by omega) (by omega) (by omega)
    have hB1' := mul_le2 (a := A + y) (b := Sy.rowAt xs j 2 - x45_2) (X := 9223372036854775808) (Y := 1048576) (by omega) (by omega) (by omega) (by omega)
    have own' := weigh_own (A := A + y) (W := Wt - Sy.rowAt xs j 2 + x45_2) (w := Sy.rowAt xs j 2) (v := x45_2) (by omega) (by omega) (by omega)
    have hm' := weigh_mean (A := A + y) (W := Wt - Sy.rowAt xs j 2 + x45_2) (w := Sy.rowAt xs j 2) (v := x45_2) (by omega)
    have m0' := Int.emod_nonneg ((A + y) * (Sy.rowAt xs j 2 - x45_2)) (show Wt - Sy.rowAt xs j 2 + x45_2 ≠ 0 by omega)
    have m1' := Int.emod_lt_of_pos ((A + y) * (Sy.rowAt xs j 2 - x45_2)) (show 0 < Wt - Sy.rowAt xs j 2 + x45_2 by omega)
    rw [hWW] at own' hm'
    refine ⟨fun ⟨g1, g2, g3⟩ => ?_, fun n => n ⟨r2, by omega, by omega, by omega, by omega, by omega, by omega⟩⟩
    generalize hYe' : (A + y) * (Sy.rowAt xs j 2 - x45_2) / (Wt - Sy.rowAt xs j 2 + x45_2) = z at *
    have ez := Int.emod_add_ediv_mul (D + y + z) (Sy.rowAt xs j 2)
    have ez0 := Int.emod_nonneg (D + y + z) (show Sy.rowAt xs j 2 ≠ 0 by omega)
    have ez1 := Int.emod_lt_of_pos (D + y + z) (show 0 < Sy.rowAt xs j 2 by omega)
    have eq : -1152921504606846976 ≤ (D + y + z) / Sy.rowAt xs j 2 ∧ (D + y + z) / Sy.rowAt xs j 2 ≤ 1152921504606846976 := by
      constructor
      · apply Int.le_ediv_of_mul_le (by omega); omega
      · have : (D + y + z) / Sy.rowAt xs j 2 < 1152921504606846977 := by apply Int.ediv_lt_of_lt_mul (by omega); omega
        omega
    have e72 : x72_3 = true := g1.2 ⟨r6, by omega, by omega, by omega, by omega, by omega, by omega, by omega⟩
    obtain ⟨w1, w2, w3, w4, w5⟩ := g2 e72
    clear g1 g2 g3
    rw [w5]
    have es' : (x72_0 - x58_0 + 9223372036854775808) % 18446744073709551616 - 9223372036854775808 = (D + y + z) / Sy.rowAt xs j 2 := by omega
    have eE : Sy.rowAt xs j 2 * ((x72_0 - x58_0 + 9223372036854775808) % 18446744073709551616 - 9223372036854775808) + x72_1 = D + y + z := by
      rw [es', w2, Int.mul_comm]; omega
    rw [eE, hWW]
    refine ⟨fun ⟨k1, k2, k3, k4⟩ => ?_, fun n => n ⟨r2, by omega, by omega, by omega, by omega, by omega, by omega⟩⟩
    have e82 : x82_5 = true := by
      by_cases hn : xs.length = 1
      · exact k2 ⟨r6, by omega, by omega, by omega, by omega, by have := hAD hn; omega, by omega⟩
      · exact k1 ⟨r6, by omega, by omega, by omega, by omega, by omega, by omega, by omega⟩
    obtain ⟨v1, v2, v3, v4, v5, v6⟩ := k3 e82
    subst v1 v4 v5
    clear k1 k2 k3 k4
    have v3 : wv x82_1 x82_2 = A + y + z := by rw [v3]; omega
    refine ⟨fun h => absurd (e26.symm.trans h) (by simp), fun _ => ⟨fun h => absurd (e45.symm.trans h) (by simp), fun _ => ⟨fun h => absurd (e58.symm.trans h) (by simp), fun _ => ⟨fun h => absurd (e72.symm.trans h) (by simp), fun _ => ⟨fun h => absurd (e82.symm.trans h) (by simp), fun _ => ⟨fun n => n rfl, fun _ => ⟨fun ⟨l0, l1⟩ => ⟨fun c10 => ⟨fun _ => ?_, fun h => by omega⟩, fun c10 => trivial⟩, fun n => n ⟨trivial, by omega⟩⟩⟩⟩⟩⟩⟩⟩
    have ei : ∀ k : Nat, (k : Int) < xs.length → ((k : Int) + 1 + 9223372036854775808) % 18446744073709551616 - 9223372036854775808 = ((k + 1 : Nat) : Int) := fun k hk => by omega
    obtain ⟨k, rfl⟩ := Int.eq_ofNat_of_zero_le l0
    have hkl : k < xs.length := by omega
    rw [ei k (by omega)]
    have hpk := L3 k hkl
    have hkk := hk k
    have hnk := L4 k hkl
    have dk := near_dist hpk hkk.2.1.1 hnk.1 hnk.2
    simp only [s64] at dk
    rw [v3, eE]
    have t1 := over_told (A := A) (W := x82_3) (D := Sy.rowAt xs k 2 * ((Sy.rowAt xs k 0 - x82_0 + 9223372036854775808) % 18446744073709551616 - 9223372036854775808) + Sy.rowAt xs k 1) (w := Sy.rowAt xs k 2) (by omega) (by omega) (by omega) (by omega) (by omega) (by omega) (by omega) (by omega)
    have ends : (¬(0 ≤ ((k + 1 : Nat) : Int) ∧ ((k + 1 : Nat) : Int) ≤ (xs.length : Int)) → False) ∧ (¬((xs.length : Int) - ((k + 1 : Nat) : Int)).toNat < ((xs.length : Int) - (k : Int)).toNat → False) := ⟨fun n => n (by omega), fun n => n (by omega)⟩
    refine ⟨fun ekj => ?_, fun ekj => ?_⟩
    · have ekj : k = j := by omega
      subst ekj
      rw [hDe] at t1
      rw [hDe]
      have t2 := over_told (A := A + y + z) (W := x82_3) (D := D + y + z) (w := Sy.rowAt xs k 2) (by omega) (by omega) (by omega) (by omega) (by omega) (by omega) (by omega) (by omega)
      refine ⟨fun ⟨a1, a2, a3, a4⟩ => ⟨fun ⟨b1, b2, b3, b4⟩ => ?_, fun n => n ⟨v2, by omega, by omega, by omega, by omega⟩⟩, fun n => n ⟨f5, by omega, by omega, by omega, by omega⟩⟩
      have a5 := a3 (a2.2 ⟨hMR, by omega, hpk, t1.1, t1.2.1, t1.2.2.1⟩)
      rw [t1.2.2.2] at a5
      have b5 := b3 (b2.2 ⟨v6, by omega, by omega, t2.1, t2.2.1, t2.2.2.1⟩)
      rw [t2.2.2.2] at b5
      refine ⟨fun ⟨c1, c2, c3⟩ => ⟨fun ⟨d2, d3, d4⟩ => ?_, fun n => n c1⟩, fun n => n ⟨b1, a1⟩⟩
      have d1 : -9223372036854775808 ≤ wv x147_0 x147_1 - wv x138_0 x138_1 ∧ wv x147_0 x147_1 - wv x138_0 x138_1 < 9223372036854775808 := by rw [a5, b5]; omega
      have c5 : wv x156_0 x156_1 = wv x147_0 x147_1 - wv x138_0 x138_1 := by
        cases x156_2 with
        | true => exact (c2 rfl).1
        | false => exact absurd (show Big (wv x147_0 x147_1 - wv x138_0 x138_1) by omega) (c3 rfl).2.2
      have e164 : x164_1 = true := by
        cases x164_1 with
        | true => rfl
        | false => exact absurd (show -9223372036854775808 ≤ wv x156_0 x156_1 ∧ wv x156_0 x156_1 < 9223372036854775808 by omega) (d4 rfl).2
      have d5 := d3 e164
      exact ⟨fun h => absurd (e164.symm.trans h) (by simp), fun _ => ⟨fun h => by omega, fun _ => ⟨fun h => by omega, fun _ => ends⟩⟩⟩
    · have hkj : k ≠ j := fun h => ekj (by omega)
      have u2 := hr.2.2 k hkl hkj
      have o1 := other_hi0 (u := Sy.rowAt xs k 2) (by omega) (by omega) hm m0 (by omega) (by omega)
      have o2 := other_lo1 (u := Sy.rowAt xs k 2) (by omega) (by omega) hm m0 (by omega) (by omega) (by omega) (by omega)
      have o3 := other_hi0 (u := Sy.rowAt xs k 2) (by omega) (by omega) hm' m0' (by omega) (by omega)
      have o4 := other_lo1 (u := Sy.rowAt xs k 2) (by omega) (by omega) hm' m0' (by omega) (by omega) (by omega) (by omega)
      have t2 := over_told (A := A + y + z) (W := x82_3) (D := Sy.rowAt xs k 2 * ((Sy.rowAt xs k 0 - x82_0 + 9223372036854775808) % 18446744073709551616 - 9223372036854775808) + Sy.rowAt xs k 1) (w := Sy.rowAt xs k 2) (by omega) (by omega) (by omega) (by omega) (by omega) (by omega) (by omega) (by omega)
      generalize Sy.rowAt xs k 2 * ((Sy.rowAt xs k 0 - x82_0 + 9223372036854775808) % 18446744073709551616 - 9223372036854775808) + Sy.rowAt xs k 1 = Dk at *
      refine ⟨fun ⟨a1, a2, a3, a4⟩ => ⟨fun ⟨b1, b2, b3, b4⟩ => ?_, fun n => n ⟨v2, by omega, by omega, by omega, by omega⟩⟩, fun n => n ⟨f5, by omega, by omega, by omega, by omega⟩⟩
      have a5 := a3 (a2.2 ⟨hMR, by omega, hpk, t1.1, t1.2.1, t1.2.2.1⟩)
      rw [t1.2.2.2] at a5
      have b5 := b3 (b2.2 ⟨v6, by omega, hpk, t2.1, t2.2.1, t2.2.2.1⟩)
      rw [t2.2.2.2] at b5
      refine ⟨fun ⟨c1, c2, c3⟩ => ⟨fun ⟨d2, d3, d4⟩ => ?_, fun n => n c1⟩, fun n => n ⟨b1, a1⟩⟩
      have d1 : -9223372036854775808 ≤ wv x145_0 x145_1 - wv x136_0 x136_1 ∧ wv x145_0 x145_1 - wv x136_0 x136_1 < 9223372036854775808 := by rw [a5, b5]; omega
      have c5 : wv x154_0 x154_1 = wv x145_0 x145_1 - wv x136_0 x136_1 := by
        cases x154_2 with
        | true => exact (c2 rfl).1
        | false => exact absurd (show Big (wv x145_0 x145_1 - wv x136_0 x136_1) by omega) (c3 rfl).2.2
      have e162 : x162_1 = true := by
        cases x162_1 with
        | true => rfl
        | false => exact absurd (show -9223372036854775808 ≤ wv x154_0 x154_1 ∧ wv x154_0 x154_1 < 9223372036854775808 by omega) (d4 rfl).2
      have d5 := d3 e162
      exact ⟨fun h => absurd (e162.symm.trans h) (by simp), fun _ => ⟨fun h => by omega, fun _ => ⟨fun h => by omega, fun _ => ends⟩⟩⟩
  · exact fun n => n ⟨by first | trivial | omega, by omega, fun j hj => absurd hj (by simp), fun j hj => absurd hj (by simp)⟩
end Go.Proofs.YtafhkgicekddlaaGreatDoor.Fn
