/- What is told of turnstone/turnstonelaw15.ReqMakes, shown. -/
import Derived.Test.YtjemohphaeiaiaaGreatDoorTab
import Derived.Test.YtjemohphaeiaiaaGreatDoorFm4
import Derived.Test.YtjemohphaeiaiaaGreatDoorSyAwake7
namespace Go.Proofs.YtjemohphaeiaiaaGreatDoor.Fn
open Go Go.RowKit Go.Proofs.YtjemohphaeiaiaaGreatDoor.Sy
set_option linter.unusedVariables false
set_option linter.unusedSimpArgs false
set_option maxRecDepth 100000
set_option maxHeartbeats 8000000
open Go.Proofs.YtjemohphaeiaiaaGreatDoor.Awake
def t8 : Tr :=
  .br (.f (.rel 16 [.num (.v 0 0), .num (.v 0 1), .num (.v 0 2), .num (.v 0 3), .num (.v 0 4)] 65544 [.int .u64, .int .u32, .int .u32, .int .i64, .int .u64, .int .u32, .int .u32, .int .u64, .int .u64, .bool, .bool]) <|
   .br (.f (.rel 24 [.num (.v 0 0), .num (.v 0 1), .num (.v 0 2)] 65552 [.int .u64, .int .u32, .int .u32]) <|
    .br (.f (.rel 23 [.num (.v 65552 0), .num (.v 65552 1), .num (.v 65552 2), .num (.v 0 3), .num (.v 0 4)] 65555 [.int .u64, .int .u32, .int .u32, .int .i64, .int .u64, .int .u32, .int .u32, .int .u64, .int .u64, .bool, .bool]) <|
     .br (.f (.rel 22 [.num (.v 0 5), .num (.v 0 6), .num (.v 0 7), .num (.v 0 8), .num (.v 0 9), .num (.v 0 10), .num (.v 0 11), .num (.v 0 12), .num (.v 0 13), .tru (.v 0 14), .num (.v 0 0), .num (.v 0 1), .num (.v 0 2)] 65564 [.int .u64, .int .u32, .int .u32, .int .i64, .int .u64, .int .u32, .int .u32, .int .u64, .int .u64, .bool, .bool]) <|
      .br (.f (.rel 12 [.num (.v 0 5), .num (.v 0 6), .num (.v 0 7), .num (.v 0 8), .num (.v 0 9), .num (.v 0 10), .num (.v 0 11), .num (.v 0 12), .num (.v 0 13), .tru (.v 0 14)] 65572 [.int .u64, .int .u32, .int .u32, .int .i64, .int .u64, .int .u32, .int .u32, .int .u64, .int .u64, .bool]) <|
       .br (.f (.rel 24 [.num (.v 0 0), .num (.v 0 1), .num (.v 0 2)] 65574 [.int .u64, .int .u32, .int .u32]) <|
        .br (.f (.rel 25 [.num (.v 65572 0), .num (.v 65572 1), .num (.v 65572 2), .num (.v 65572 3), .num (.v 65572 4), .num (.v 65572 5), .num (.v 65572 6), .num (.v 65572 7), .num (.v 65572 8), .tru (.v 65572 9), .num (.v 65574 0), .num (.v 65574 1), .num (.v 65574 2)] 65575 [.int .u64, .int .u32, .int .u32, .int .i64, .int .u64, .int .u32, .int .u32, .int .u64, .int .u64, .bool, .bool]) <|
         .br (.f (.rel 21 [.num (.v 0 5), .num (.v 0 6), .num (.v 0 7), .num (.v 0 8), .num (.v 0 9), .num (.v 0 10), .num (.v 0 11), .num (.v 0 12), .num (.v 0 13), .tru (.v 0 14), .num (.v 0 4)] 65584 [.int .u64, .int .u32, .int .u32, .int .i64, .int .u64, .int .u32, .int .u32, .int .u64, .int .u64, .bool, .bool]) <|
          .br (.f (.rel 12 [.num (.v 0 5), .num (.v 0 6), .num (.v 0 7), .num (.v 0 8), .num (.v 0 9), .num (.v 0 10), .num (.v 0 11), .num (.v 0 12), .num (.v 0 13), .tru (.v 0 14)] 65592 [.int .u64, .int .u32, .int .u32, .int .i64, .int .u64, .int .u32, .int .u32, .int .u64, .int .u64, .bool]) <|
           .br (.f (.rel 26 [.num (.v 65592 0), .num (.v 65592 1), .num (.v 65592 2), .num (.v 65592 3), .num (.v 65592 4), .num (.v 65592 5), .num (.v 65592 6), .num (.v 65592 7), .num (.v 65592 8), .tru (.v 65592 9), .num (.v 0 4)] 65594 [.int .u64, .int .u32, .int .u32, .int .i64, .int .u64, .int .u32, .int .u32, .int .u64, .int .u64, .bool, .bool]) <|
            .br (.f (.rel 12 [.num (.v 65544 0), .num (.v 65544 1), .num (.v 65544 2), .num (.v 65544 3), .num (.v 65544 4), .num (.v 65544 5), .num (.v 65544 6), .num (.v 65544 7), .num (.v 65544 8), .tru (.v 65544 9)] 65602 [.int .u64, .int .u32, .int .u32, .int .i64, .int .u64, .int .u32, .int .u32, .int .u64, .int .u64, .bool]) <|
             .br (.f (.is (.and (.and (.and (.eq (.v 65602 0) (.v 65555 0)) (.and (.eq (.v 65602 1) (.v 65555 1)) (.and (.eq (.v 65602 2) (.v 65555 2)) (.le (.n 0) (.n 0))))) (.and (.eq (.v 65602 3) (.v 65555 3)) (.and (.and (.eq (.v 65602 4) (.v 65555 4)) (.and (.eq (.v 65602 5) (.v 65555 5)) (.and (.eq (.v 65602 6) (.v 65555 6)) (.le (.n 0) (.n 0))))) (.le (.n 0) (.n 0))))) (.and (.eq (.v 65602 7) (.v 65555 7)) (.and (.eq (.v 65602 8) (.v 65555 8)) (.and (.beq (.v 65602 9) (.v 65555 9)) (.le (.n 0) (.n 0)))))) true) <|
              .br (.f (.is (.beq (.v 65544 10) (.v 65555 10)) true) <|
               .br (.f (.rel 12 [.num (.v 65564 0), .num (.v 65564 1), .num (.v 65564 2), .num (.v 65564 3), .num (.v 65564 4), .num (.v 65564 5), .num (.v 65564 6), .num (.v 65564 7), .num (.v 65564 8), .tru (.v 65564 9)] 65612 [.int .u64, .int .u32, .int .u32, .int .i64, .int .u64, .int .u32, .int .u32, .int .u64, .int .u64, .bool]) <|
                .br (.f (.is (.and (.and (.and (.eq (.v 65612 0) (.v 65575 0)) (.and (.eq (.v 65612 1) (.v 65575 1)) (.and (.eq (.v 65612 2) (.v 65575 2)) (.le (.n 0) (.n 0))))) (.and (.eq (.v 65612 3) (.v 65575 3)) (.and (.and (.eq (.v 65612 4) (.v 65575 4)) (.and (.eq (.v 65612 5) (.v 65575 5)) (.and (.eq (.v 65612 6) (.v 65575 6)) (.le (.n 0) (.n 0))))) (.le (.n 0) (.n 0))))) (.and (.eq (.v 65612 7) (.v 65575 7)) (.and (.eq (.v 65612 8) (.v 65575 8)) (.and (.beq (.v 65612 9) (.v 65575 9)) (.le (.n 0) (.n 0)))))) true) <|
                 .br (.f (.is (.beq (.v 65564 10) (.v 65575 10)) true) <|
                  .br (.f (.rel 12 [.num (.v 65584 0), .num (.v 65584 1), .num (.v 65584 2), .num (.v 65584 3), .num (.v 65584 4), .num (.v 65584 5), .num (.v 65584 6), .num (.v 65584 7), .num (.v 65584 8), .tru (.v 65584 9)] 65623 [.int .u64, .int .u32, .int .u32, .int .i64, .int .u64, .int .u32, .int .u32, .int .u64, .int .u64, .bool]) <|
                   .br (.f (.is (.and (.and (.and (.eq (.v 65623 0) (.v 65594 0)) (.and (.eq (.v 65623 1) (.v 65594 1)) (.and (.eq (.v 65623 2) (.v 65594 2)) (.le (.n 0) (.n 0))))) (.and (.eq (.v 65623 3) (.v 65594 3)) (.and (.and (.eq (.v 65623 4) (.v 65594 4)) (.and (.eq (.v 65623 5) (.v 65594 5)) (.and (.eq (.v 65623 6) (.v 65594 6)) (.le (.n 0) (.n 0))))) (.le (.n 0) (.n 0))))) (.and (.eq (.v 65623 7) (.v 65594 7)) (.and (.eq (.v 65623 8) (.v 65594 8)) (.and (.beq (.v 65623 9) (.v 65594 9)) (.le (.n 0) (.n 0)))))) true) <|
                    .br (.f (.is (.beq (.v 65584 10) (.v 65594 10)) true) <|
                     .br (.f (.rel 18 [.num (.v 0 5), .num (.v 0 6), .num (.v 0 7), .num (.v 0 8), .num (.v 0 9), .num (.v 0 10), .num (.v 0 11), .num (.v 0 12), .num (.v 0 13), .tru (.v 0 14)] 65634 [.bool]) <|
                      .br (.f (.rel 12 [.num (.v 0 5), .num (.v 0 6), .num (.v 0 7), .num (.v 0 8), .num (.v 0 9), .num (.v 0 10), .num (.v 0 11), .num (.v 0 12), .num (.v 0 13), .tru (.v 0 14)] 65636 [.int .u64, .int .u32, .int .u32, .int .i64, .int .u64, .int .u32, .int .u32, .int .u64, .int .u64, .bool]) <|
                       .br (.f (.rel 27 [.num (.v 65636 0), .num (.v 65636 1), .num (.v 65636 2), .num (.v 65636 3), .num (.v 65636 4), .num (.v 65636 5), .num (.v 65636 6), .num (.v 65636 7), .num (.v 65636 8), .tru (.v 65636 9)] 65637 [.bool]) <|
                        .ok [.tru (.beq (.v 65634 0) (.v 65637 0))])
                       (.f (.npre 27 [.num (.v 65636 0), .num (.v 65636 1), .num (.v 65636 2), .num (.v 65636 3), .num (.v 65636 4), .num (.v 65636 5), .num (.v 65636 6), .num (.v 65636 7), .num (.v 65636 8), .tru (.v 65636 9)]) <|
                        .bad))
                      (.f (.npre 12 [.num (.v 0 5), .num (.v 0 6), .num (.v 0 7), .num (.v 0 8), .num (.v 0 9), .num (.v 0 10), .num (.v 0 11), .num (.v 0 12), .num (.v 0 13), .tru (.v 0 14)]) <|
                       .bad))
                     (.f (.npre 18 [.num (.v 0 5), .num (.v 0 6), .num (.v 0 7), .num (.v 0 8), .num (.v 0 9), .num (.v 0 10), .num (.v 0 11), .num (.v 0 12), .num (.v 0 13), .tru (.v 0 14)]) <|
                      .bad))
                    (.f (.is (.beq (.v 65584 10) (.v 65594 10)) false) <|
                     .ok [.tru (.lt (.n 0) (.n 0))]))
                   (.f (.is (.and (.and (.and (.eq (.v 65623 0) (.v 65594 0)) (.and (.eq (.v 65623 1) (.v 65594 1)) (.and (.eq (.v 65623 2) (.v 65594 2)) (.le (.n 0) (.n 0))))) (.and (.eq (.v 65623 3) (.v 65594 3)) (.and (.and (.eq (.v 65623 4) (.v 65594 4)) (.and (.eq (.v 65623 5) (.v 65594 5)) (.and (.eq (.v 65623 6) (.v 65594 6)) (.le (.n 0) (.n 0))))) (.le (.n 0) (.n 0))))) (.and (.eq (.v 65623 7) (.v 65594 7)) (.and (.eq (.v 65623 8) (.v 65594 8)) (.and (.beq (.v 65623 9) (.v 65594 9)) (.le (.n 0) (.n 0)))))) false) <|
                    .ok [.tru (.lt (.n 0) (.n 0))]))
                  (.f (.npre 12 [.num (.v 65584 0), .num (.v 65584 1), .num (.v 65584 2), .num (.v 65584 3), .num (.v 65584 4), .num (.v 65584 5), .num (.v 65584 6), .num (.v 65584 7), .num (.v 65584 8), .tru (.v 65584 9)]) <|
                   .bad))
                 (.f (.is (.beq (.v 65564 10) (.v 65575 10)) false) <|
                  .ok [.tru (.lt (.n 0) (.n 0))]))
                (.f (.is (.and (.and (.and (.eq (.v 65612 0) (.v 65575 0)) (.and (.eq (.v 65612 1) (.v 65575 1)) (.and (.eq (.v 65612 2) (.v 65575 2)) (.le (.n 0) (.n 0))))) (.and (.eq (.v 65612 3) (.v 65575 3)) (.and (.and (.eq (.v 65612 4) (.v 65575 4)) (.and (.eq (.v 65612 5) (.v 65575 5)) (.and (.eq (.v 65612 6) (.v 65575 6)) (.le (.n 0) (.n 0))))) (.le (.n 0) (.n 0))))) (.and (.eq (.v 65612 7) (.v 65575 7)) (.and (.eq (.v 65612 8) (.v 65575 8)) (.and (.beq (.v 65612 9) (.v 65575 9)) (.le (.n 0) (.n 0)))))) false) <|
                 .ok [.tru (.lt (.n 0) (.n 0))]))
               (.f (.npre 12 [.num (.v 65564 0), .num (.v 65564 1), .num (.v 65564 2), .num (.v 65564 3), .num (.v 65564 4), .num (.v 65564 5), .num (.v 65564 6), .num (.v 65564 7), .num (.v 65564 8), .tru (.v 65564 9)]) <|
                .bad))
              (.f (.is (.beq (.v 65544 10) (.v 65555 10)) false) <|
               .ok [.tru (.lt (.n 0) (.n 0))]))
             (.f (.is (.and (.and (.and (.eq (.v 65602 0) (.v 65555 0)) (.and (.eq (.v 65602 1) (.v 65555 1)) (.and (.eq (.v 65602 2) (.v 65555 2)) (.le (.n 0) (.n 0))))) (.and (.eq (.v 65602 3) (.v 65555 3)) (.and (.and (.eq (.v 65602 4) (.v 65555 4)) (.and (.eq (.v 65602 5) (.v 65555 5)) (.and (.eq (.v 65602 6) (.v 65555 6)) (.le (.n 0) (.n 0))))) (.le (.n 0) (.n 0))))) (.and (.eq (.v 65602 7) (.v 65555 7)) (.and (.eq (.v 65602 8) (.v 65555 8)) (.and (.beq (.v 65602 9) (.v 65555 9)) (.le (.n 0) (.n 0)))))) false) <|
              .ok [.tru (.lt (.n 0) (.n 0))]))
            (.f (.npre 12 [.num (.v 65544 0), .num (.v 65544 1), .num (.v 65544 2), .num (.v 65544 3), .num (.v 65544 4), .num (.v 65544 5), .num (.v 65544 6), .num (.v 65544 7), .num (.v 65544 8), .tru (.v 65544 9)]) <|
             .bad))
           (.f (.npre 26 [.num (.v 65592 0), .num (.v 65592 1), .num (.v 65592 2), .num (.v 65592 3), .num (.v 65592 4), .num (.v 65592 5), .num (.v 65592 6), .num (.v 65592 7), .num (.v 65592 8), .tru (.v 65592 9), .num (.v 0 4)]) <|
            .bad))
          (.f (.npre 12 [.num (.v 0 5), .num (.v 0 6), .num (.v 0 7), .num (.v 0 8), .num (.v 0 9), .num (.v 0 10), .num (.v 0 11), .num (.v 0 12), .num (.v 0 13), .tru (.v 0 14)]) <|
           .bad))
         (.f (.npre 21 [.num (.v 0 5), .num (.v 0 6), .num (.v 0 7), .num (.v 0 8), .num (.v 0 9), .num (.v 0 10), .num (.v 0 11), .num (.v 0 12), .num (.v 0 13), .tru (.v 0 14), .num (.v 0 4)]) <|
          .bad))
        (.f (.npre 25 [.num (.v 65572 0), .num (.v 65572 1), .num (.v 65572 2), .num (.v 65572 3), .num (.v 65572 4), .num (.v 65572 5), .num (.v 65572 6), .num (.v 65572 7), .num (.v 65572 8), .tru (.v 65572 9), .num (.v 65574 0), .num (.v 65574 1), .num (.v 65574 2)]) <|
         .bad))
       (.f (.npre 24 [.num (.v 0 0), .num (.v 0 1), .num (.v 0 2)]) <|
        .bad))
      (.f (.npre 12 [.num (.v 0 5), .num (.v 0 6), .num (.v 0 7), .num (.v 0 8), .num (.v 0 9), .num (.v 0 10), .num (.v 0 11), .num (.v 0 12), .num (.v 0 13), .tru (.v 0 14)]) <|
       .bad))
     (.f (.npre 22 [.num (.v 0 5), .num (.v 0 6), .num (.v 0 7), .num (.v 0 8), .num (.v 0 9), .num (.v 0 10), .num (.v 0 11), .num (.v 0 12), .num (.v 0 13), .tru (.v 0 14), .num (.v 0 0), .num (.v 0 1), .num (.v 0 2)]) <|
      .bad))
    (.f (.npre 23 [.num (.v 65552 0), .num (.v 65552 1), .num (.v 65552 2), .num (.v 0 3), .num (.v 0 4)]) <|
     .bad))
   (.f (.npre 24 [.num (.v 0 0), .num (.v 0 1), .num (.v 0 2)]) <|
    .bad))
  (.f (.npre 16 [.num (.v 0 0), .num (.v 0 1), .num (.v 0 2), .num (.v 0 3), .num (.v 0 4)]) <|
   .bad)
theorem c8 : ConS Tryz.prog T C8 := con_tr (cs := [C12, C16, C18, C21, C22, C23, C24, C25, C26, C27]) (lcs := []) (known := [9, 28, 42, 61, 88, 105, 121, 130, 139, 145, 147, 149, 150, 152, 153, 154, 156, 162, 165, 161, 164, 170, 180, 192, 195, 191, 194, 203, 204]) (cons_cons c12 (cons_cons c16 (cons_cons c18 (cons_cons c21 (cons_cons c22 (cons_cons c23 (cons_cons c24 (cons_cons c25 (cons_cons c26 (cons_cons c27 (cons_nil _ _))))))))))) known9 (N := 400) (d := 40) (t := t8) (by kernel_rfl) <| by
  intro E hl hp
  clear hl
  have hp := hp rfl
  simp only [C8, show T.pre 8 = Q8 from rfl, flatS, SP.flat, dvs, List.append_nil, List.cons_append, List.nil_append, Q8, U64, U32, I64, Big, W, wv, s64, MR, MB] at hp
  simp only [t8, C8, Tr.good, Fact.den, LX.den, DX.ls, DV.ls, DX.den, Bx.den, Ex.den, eo_add, eo_sub, eo_mul, eo_quo, eo_rem, eo_fdv, eo_mn, eo_mx, eo_land, eo_lor, eo_lxor, eo_landn, eo_shl, eo_shr, dvs, flatS, SP.flat, ST.flat, List.map_cons, List.map_nil, List.append_nil, List.cons_append, List.nil_append, ltb_t, ltb_f, leb_t, leb_f, eqb_t, eqb_f, decide_eq_true_eq, decide_eq_false_iff_not, Bool.not_eq_true', Bool.not_eq_false', Bool.and_eq_true, Bool.and_eq_false_imp, beq_iff_eq, beq_eq_false_iff_ne, bne_iff_ne, U64, U32, I64, Big, W, wv, Told, s64, MR, MB, Int.zero_mul, Int.zero_add, Int.add_zero, Int.mul_zero, IntKind.wrap_u64, IntKind.wrap_i64, IntKind.wrap_u32, ne_eq, forall_const, true_implies, show T.rel 8 = R8 from rfl, R8, show T.rel 12 = R12 from rfl, R12, show T.rel 16 = R16 from rfl, R16, show T.rel 18 = R18 from rfl, R18, show T.rel 21 = R21 from rfl, R21, show T.rel 22 = R22 from rfl, R22, show T.rel 23 = R23 from rfl, R23, show T.rel 24 = R24 from rfl, R24, show T.rel 25 = R25 from rfl, R25, show T.rel 26 = R26 from rfl, R26, show T.rel 27 = R27 from rfl, R27, show T.pre 8 = Q8 from rfl, Q8, show T.pre 12 = Q12 from rfl, Q12, show T.pre 16 = Q16 from rfl, Q16, show T.pre 18 = Q18 from rfl, Q18, show T.pre 21 = Q21 from rfl, Q21, show T.pre 22 = Q22 from rfl, Q22, show T.pre 23 = Q23 from rfl, Q23, show T.pre 24 = Q24 from rfl, Q24, show T.pre 25 = Q25 from rfl, Q25, show T.pre 26 = Q26 from rfl, Q26, show T.pre 27 = Q27 from rfl, Q27]
  revert hp
  generalize (E.r 0).i 0 = t
  generalize (E.r 0).i 1 = r
  generalize (E.r 0).i 2 = w
  generalize (E.r 0).i 3 = id
  generalize (E.r 0).i 4 = y
  generalize (E.r 0).i 5 = t2
  generalize (E.r 0).i 6 = r2
  generalize (E.r 0).i 7 = w2
  generalize (E.r 0).i 8 = id2
  generalize (E.r 0).i 9 = dt
  generalize (E.r 0).i 10 = dr
  generalize (E.r 0).i 11 = dw
  generalize (E.r 0).i 12 = l
  generalize (E.r 0).i 13 = s
  generalize (E.r 0).c 14 = a
  generalize (E.r 65544).i 0 = x8_0
  generalize (E.r 65544).i 1 = x8_1
  generalize (E.r 65544).i 2 = x8_2
  generalize (E.r 65544).i 3 = x8_3
  generalize (E.r 65544).i 4 = x8_4
  generalize (E.r 65544).i 5 = x8_5
  generalize (E.r 65544).i 6 = x8_6
  generalize (E.r 65544).i 7 = x8_7
  generalize (E.r 65544).i 8 = x8_8
  generalize (E.r 65544).c 9 = x8_9
  generalize (E.r 65544).c 10 = x8_10
  generalize (E.r 65552).i 0 = x16_0
  generalize (E.r 65552).i 1 = x16_1
  generalize (E.r 65552).i 2 = x16_2
  generalize (E.r 65555).i 0 = x19_0
  generalize (E.r 65555).i 1 = x19_1
  generalize (E.r 65555).i 2 = x19_2
  generalize (E.r 65555).i 3 = x19_3
  generalize (E.r 65555).i 4 = x19_4
  generalize (E.r 65555).i 5 = x19_5
  generalize (E.r 65555).i 6 = x19_6
  generalize (E.r 65555).i 7 = x19_7
  generalize (E.r 65555).i 8 = x19_8
  generalize (E.r 65555).c 9 = x19_9
  generalize (E.r 65555).c 10 = x19_10
  generalize (E.r 65564).i 0 = x28_0
  generalize (E.r 65564).i 1 = x28_1
  generalize (E.r 65564).i 2 = x28_2
  generalize (E.r 65564).i 3 = x28_3
  generalize (E.r 65564).i 4 = x28_4
  generalize (E.r 65564).i 5 = x28_5
  generalize (E.r 65564).i 6 = x28_6
  generalize (E.r 65564).i 7 = x28_7
  generalize (E.r 65564).i 8 = x28_8
  generalize (E.r 65564).c 9 = x28_9
  generalize (E.r 65564).c 10 = x28_10
  generalize (E.r 65572).i 0 = x36_0
  generalize (E.r 65572).i 1 = x36_1
  generalize (E.r 65572).i 2 = x36_2
  generalize (E.r 65572).i 3 = x36_3
  generalize (E.r 65572).i 4 = x36_4
  generalize (E.r 65572).i 5 = x36_5
  generalize (E.r 65572).i 6 = x36_6
  generalize (E.r 65572).i 7 = x36_7
  generalize (E.r 65572).i 8 = x36_8
  generalize (E.r 65572).c 9 = x36_9
  generalize (E.r 65574).i 0 = x38_0
  generalize (E.r 65574).i 1 = x38_1
  generalize (E.r 65574).i 2 = x38_2
  generalize (E.r 65575).i 0 = x39_0
  generalize (E.r 65575).i 1 = x39_1
  generalize (E.r 65575).i 2 = x39_2
  generalize (E.r 65575).i 3 = x39_3
  generalize (E.r 65575).i 4 = x39_4
  generalize (E.r 65575).i 5 = x39_5
  generalize (E.r 65575).i 6 = x39_6
  generalize (E.r 65575).i 7 = x39_7
  generalize (E.r 65575).i 8 = x39_8
  generalize (E.r 65575).c 9 = x39_9
  generalize (E.r 65575).c 10 = x39_10
  generalize (E.r 65584).i 0 = x48_0
  generalize (E.r 65584).i 1 = x48_1
  generalize (E.r 65584).i 2 = x48_2
  generalize (E.r 65584).i 3 = x48_3
  generalize (E.r 65584).i 4 = x48_4
  generalize (E.r 65584).i 5 = x48_5
  generalize (E.r 65584).i 6 = x48_6
  generalize (E.r 65584).i 7 = x48_7
  generalize (E.r 65584).i 8 = x48_8
  generalize (E.r 65584).c 9 = x48_9
  generalize (E.r 65584).c 10 = x48_10
  generalize (E.r 65592).i 0 = x56_0
  generalize (E.r 65592).i 1 = x56_1
  generalize (E.r 65592).i 2 = x56_2
  generalize (E.r 65592).i 3 = x56_3
  generalize (E.r 65592).i 4 = x56_4
  generalize (E.r 65592).i 5 = x56_5
  generalize (E.r 65592).i 6 = x56_6
  generalize (E.r 65592).i 7 = x56_7
  generalize (E.r 65592).i 8 = x56_8
  generalize (E.r 65592).c 9 = x56_9
  generalize (E.r 65594).i 0 = x58_0
  generalize (E.r 65594).i 1 = x58_1
  generalize (E.r 65594).i 2 = x58_2
  generalize (E.r 65594).i 3 = x58_3
  generalize (E.r 65594).i 4 = x58_4
  generalize (E.r 65594).i 5 = x58_5
  generalize (E.r 65594).i 6 = x58_6
  generalize (E.r 65594).i 7 = x58_7
  generalize (E.r 65594).i 8 = x58_8
  generalize (E.r 65594).c 9 = x58_9
  generalize (E.r 65594).c 10 = x58_10
  generalize (E.r 65602).i 0 = x66_0
  generalize (E.r 65602).i 1 = x66_1
  generalize (E.r 65602).i 2 = x66_2
  generalize (E.r 65602).i 3 = x66_3
  generalize (E.r 65602).i 4 = x66_4
  generalize (E.r 65602).i 5 = x66_5
  generalize (E.r 65602).i 6 = x66_6
  generalize (E.r 65602).i 7 = x66_7
  generalize (E.r 65602).i 8 = x66_8
  generalize (E.r 65602).c 9 = x66_9
  generalize (E.r 65612).i 0 = x76_0
  generalize (E.r 65612).i 1 = x76_1
  generalize (E.r 65612).i 2 = x76_2
  generalize (E.r 65612).i 3 = x76_3
  generalize (E.r 65612).i 4 = x76_4
  generalize (E.r 65612).i 5 = x76_5
  generalize (E.r 65612).i 6 = x76_6
  generalize (E.r 65612).i 7 = x76_7
  generalize (E.r 65612).i 8 = x76_8
  generalize (E.r 65612).c 9 = x76_9
  generalize (E.r 65623).i 0 = x87_0
  generalize (E.r 65623).i 1 = x87_1
  generalize (E.r 65623).i 2 = x87_2
  generalize (E.r 65623).i 3 = x87_3
  generalize (E.r 65623).i 4 = x87_4
  generalize (E.r 65623).i 5 = x87_5
  generalize (E.r 65623).i 6 = x87_6
  generalize (E.r 65623).i 7 = x87_7
  generalize (E.r 65623).i 8 = x87_8
  generalize (E.r 65623).c 9 = x87_9
  generalize (E.r 65634).c 0 = x98_0
  generalize (E.r 65636).i 0 = x100_0
  generalize (E.r 65636).i 1 = x100_1
  generalize (E.r 65636).i 2 = x100_2
  generalize (E.r 65636).i 3 = x100_3
  generalize (E.r 65636).i 4 = x100_4
  generalize (E.r 65636).i 5 = x100_5
  generalize (E.r 65636).i 6 = x100_6
  generalize (E.r 65636).i 7 = x100_7
  generalize (E.r 65636).i 8 = x100_8
  generalize (E.r 65636).c 9 = x100_9
  generalize (E.r 65637).c 0 = x101_0
  try simp only [mxI, mnI]
  try simp only [ltb, leb, eqb, Int.lt_irrefl, decide_false, Int.le_refl, decide_true]
  intro hp
  obtain ⟨p1, p2, p3, p4, p5, p6, p7, p8, p9, p10, p11, p12⟩ := hp
  refine ⟨fun A => ?_, fun n => n (by omega)⟩
  refine ⟨fun ⟨a0, a1, a2⟩ => ?_, fun n => n (by omega)⟩
  simp only [a0, a1, a2]
  refine ⟨fun B => ?_, fun n => n (by omega)⟩
  refine ⟨fun C => ?_, fun n => n (by omega)⟩
  refine ⟨fun ⟨b0, b1, b2, b3, b4, b5, b6, b7, b8, b9⟩ => ?_, fun n => n (by omega)⟩
  simp only [b0, b1, b2, b3, b4, b5, b6, b7, b8, b9]
  refine ⟨fun ⟨c0, c1, c2⟩ => ?_, fun n => n (by omega)⟩
  simp only [c0, c1, c2]
  refine ⟨fun D => ?_, fun n => n (by omega)⟩
  refine ⟨fun F => ?_, fun n => n (by omega)⟩
  refine ⟨fun ⟨d0, d1, d2, d3, d4, d5, d6, d7, d8, d9⟩ => ?_, fun n => n (by omega)⟩
  simp only [d0, d1, d2, d3, d4, d5, d6, d7, d8, d9]
  refine ⟨fun G => ?_, fun n => n (by omega)⟩
  obtain ⟨ka1, ka2, ka3, ka4, ka5, ka6, ka7⟩ := OUTQ.kinds A (fun h => ⟨p1, p2, p3, (mv_kinds t r y h.1).1, (mv_kinds t r y h.1).2, p3, p4⟩)
  obtain ⟨kc1, kc2, kc3, kc4, kc5, kc6, kc7⟩ := OUTQ.kinds C (fun h => ⟨p1, p2, p3, (mv_kinds t r l h.2).1, (mv_kinds t r l h.2).2, p3, p11⟩)
  obtain ⟨kf1, kf2, kf3, kf4, kf5, kf6, kf7⟩ := OUTQ.kinds F (fun h => ⟨p5, p6, p7, p8, p9, p10, p11⟩)
  obtain ⟨rfl, rfl, rfl, rfl, rfl, rfl, rfl, rfl, rfl, rfl, rfl⟩ := OUTQ.eq A B
  obtain ⟨rfl, rfl, rfl, rfl, rfl, rfl, rfl, rfl, rfl, rfl, rfl⟩ := OUTQ.eq C D
  obtain ⟨rfl, rfl, rfl, rfl, rfl, rfl, rfl, rfl, rfl, rfl, rfl⟩ := OUTQ.eq F G
  clear A B C D F G
  repeat' (first | assumption | (intro (h : _ ∧ _); obtain ⟨h1, h2⟩ := h; (first | (subst h1; revert h2) | revert h1 h2)) | (intro h; (first | subst h | skip)) | refine And.intro ?_ ?_)
  all_goals try (show False; refine absurd ?_ ‹¬ _›)
  all_goals repeat' (first | assumption | refine And.intro ?_ ?_)
  all_goals first | omega | grind
end Go.Proofs.YtjemohphaeiaiaaGreatDoor.Fn
