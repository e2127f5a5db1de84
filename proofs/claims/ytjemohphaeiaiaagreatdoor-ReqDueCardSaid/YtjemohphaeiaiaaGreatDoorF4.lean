/- What is told of turnstone/turnstonelaw15.ReqDue, shown. -/
import Derived.Test.YtjemohphaeiaiaaGreatDoorTab
import Derived.Test.YtjemohphaeiaiaaGreatDoorFm1
import Derived.Test.YtjemohphaeiaiaaGreatDoorSyAwake7
namespace Go.Proofs.YtjemohphaeiaiaaGreatDoor.Fn
open Go Go.RowKit Go.Proofs.YtjemohphaeiaiaaGreatDoor.Sy
set_option linter.unusedVariables false
set_option linter.unusedSimpArgs false
set_option maxRecDepth 100000
set_option maxHeartbeats 8000000
open Go.Proofs.YtjemohphaeiaiaaGreatDoor.Awake
def t4 : Tr :=
  .f (.rel 15 [.num (.v 0 0), .num (.v 0 1), .num (.v 0 2)] 65541 [.bool]) <|
   .br (.f (.is (.v 65541 0) false) <|
    .ok [.tru (.le (.n 0) (.n 0))])
   (.f (.is (.v 65541 0) true) <|
    .br (.f (.is (.lt (.v 0 3) (.n 1)) true) <|
     .ok [.tru (.le (.n 0) (.n 0))])
    (.f (.is (.lt (.v 0 3) (.n 1)) false) <|
     .br (.f (.is (.lt (.n 1073741824) (.v 0 3)) true) <|
      .ok [.tru (.le (.n 0) (.n 0))])
     (.f (.is (.lt (.n 1073741824) (.v 0 3)) false) <|
      .br (.f (.is (.lt (.n 100) (.len 0 4)) true) <|
       .ok [.tru (.le (.n 0) (.n 0))])
      (.f (.is (.lt (.n 100) (.len 0 4)) false) <|
       .br (.f (.rel 16 [.num (.v 0 0), .num (.v 0 1), .num (.v 0 2), .num (.n 7), .num (.v 0 3)] 65558 [.int .u64, .int .u32, .int .u32, .int .i64, .int .u64, .int .u32, .int .u32, .int .u64, .int .u64, .bool, .bool]) <|
        .br (.f (.is (.v 65558 10) false) <|
         .ok [.tru (.lt (.n 0) (.n 0))])
        (.f (.is (.v 65558 10) true) <|
         .br (.f (.rel 100410 [.num (.v 0 0), .num (.v 0 1), .num (.v 0 2), .num (.v 0 3), .lst 0 4, .num (.v 65558 0), .num (.v 65558 1), .num (.v 65558 2), .num (.v 65558 3), .num (.v 65558 4), .num (.v 65558 5), .num (.v 65558 6), .num (.v 65558 7), .num (.v 65558 8), .tru (.v 65558 9), .num (.n 0), .num (.n 0)] 65571 [.int .u64, .int .u32, .int .u32, .int .i64, .int .u64, .int .u32, .int .u32, .int .u64, .int .u64, .bool, .int .u64, .int .i64]) <|
          .br (.f (.is (.lt (.v 65571 11) (.len 0 4)) true) <|
           .br (.f (.is (.lt (.v 65571 11) (.n 0)) false) <|
            .br (.f (.is (.eq (.bin .mn (.at 0 4 (.v 65571 11) 0) (.v 65571 7)) (.n 0)) true) <|
             .ok [.tru (.le (.n 0) (.n 0))])
            (.f (.is (.eq (.bin .mn (.at 0 4 (.v 65571 11) 0) (.v 65571 7)) (.n 0)) false) <|
             .br (.f (.rel 10 [.num (.v 65571 0), .num (.v 65571 1), .num (.v 65571 2), .num (.v 65571 3), .num (.v 65571 4), .num (.v 65571 5), .num (.v 65571 6), .num (.v 65571 7), .num (.v 65571 8), .tru (.v 65571 9), .num (.bin .mn (.at 0 4 (.v 65571 11) 0) (.v 65571 7))] 65585 [.int .u64, .int .u32, .int .u32, .int .i64, .int .u64, .int .u32, .int .u32, .int .u64, .int .u64, .bool, .bool, .bool]) <|
              .f (.is (.eq (.v 65598 0) (.wrap .u64 (.bin .add (.v 65571 10) (.bin .mn (.at 0 4 (.v 65571 11) 0) (.v 65571 7))))) true) <|
               .br (.f (.rel 17 [.num (.v 0 0), .num (.v 0 1), .num (.v 0 2), .num (.wrap .u64 (.bin .mul (.v 65598 0) (.n 1048576)))] 65602 [.int .u64, .int .u32, .int .u32, .bool]) <|
                .br (.f (.is (.v 65585 11) false) <|
                 .ok [.tru (.lt (.n 0) (.n 0))])
                (.f (.is (.v 65585 11) true) <|
                 .br (.f (.is (.v 65602 3) false) <|
                  .ok [.tru (.lt (.n 0) (.n 0))])
                 (.f (.is (.v 65602 3) true) <|
                  .br (.f (.is (.and (.eq (.v 65585 0) (.v 65602 0)) (.and (.eq (.v 65585 1) (.v 65602 1)) (.and (.eq (.v 65585 2) (.v 65602 2)) (.le (.n 0) (.n 0))))) false) <|
                   .ok [.tru (.lt (.n 0) (.n 0))])
                  (.f (.is (.and (.eq (.v 65585 0) (.v 65602 0)) (.and (.eq (.v 65585 1) (.v 65602 1)) (.and (.eq (.v 65585 2) (.v 65602 2)) (.le (.n 0) (.n 0))))) true) <|
                   .br (.f (.is (.beq (.v 65585 10) (.eq (.bin .mn (.at 0 4 (.v 65571 11) 0) (.v 65571 7)) (.v 65571 7))) false) <|
                    .ok [.tru (.lt (.n 0) (.n 0))])
                   (.f (.is (.beq (.v 65585 10) (.eq (.bin .mn (.at 0 4 (.v 65571 11) 0) (.v 65571 7)) (.v 65571 7))) true) <|
                    .br (.f (.is (.v 65585 10) true) <|
                     .br (.f (.is (.and (.eq (.v 65585 0) (.v 65571 4)) (.and (.eq (.v 65585 1) (.v 65571 5)) (.and (.eq (.v 65585 2) (.v 65571 6)) (.le (.n 0) (.n 0))))) false) <|
                      .ok [.tru (.lt (.n 0) (.n 0))])
                     (.f (.is (.and (.eq (.v 65585 0) (.v 65571 4)) (.and (.eq (.v 65585 1) (.v 65571 5)) (.and (.eq (.v 65585 2) (.v 65571 6)) (.le (.n 0) (.n 0))))) true) <|
                      .br (.f (.is (.eq (.v 65585 7) (.v 0 3)) false) <|
                       .ok [.tru (.lt (.n 0) (.n 0))])
                      (.f (.is (.eq (.v 65585 7) (.v 0 3)) true) <|
                       .br (.f (.is (.eq (.v 65585 3) (.n 7)) false) <|
                        .ok [.tru (.lt (.n 0) (.n 0))])
                       (.f (.is (.eq (.v 65585 3) (.n 7)) true) <|
                        .br (.f (.rel 18 [.num (.v 65585 0), .num (.v 65585 1), .num (.v 65585 2), .num (.v 65585 3), .num (.v 65585 4), .num (.v 65585 5), .num (.v 65585 6), .num (.v 65585 7), .num (.v 65585 8), .tru (.v 65585 9)] 65678 [.bool]) <|
                         .br (.f (.is (.v 65678 0) false) <|
                          .ok [.tru (.lt (.n 0) (.n 0))])
                         (.f (.is (.v 65678 0) true) <|
                          .br (.f (.nrel 100410 [.num (.v 0 0), .num (.v 0 1), .num (.v 0 2), .num (.v 0 3), .lst 0 4, .num (.v 65558 0), .num (.v 65558 1), .num (.v 65558 2), .num (.v 65558 3), .num (.v 65558 4), .num (.v 65558 5), .num (.v 65558 6), .num (.v 65558 7), .num (.v 65558 8), .tru (.v 65558 9), .num (.n 0), .num (.n 0)] [.num (.v 65585 0), .num (.v 65585 1), .num (.v 65585 2), .num (.v 65585 3), .num (.v 65585 4), .num (.v 65585 5), .num (.v 65585 6), .num (.v 65585 7), .num (.v 65585 8), .tru (.v 65585 9), .num (.v 65598 0), .num (.wrap .i64 (.bin .add (.v 65571 11) (.n 1)))]) <|
                           .bad)
                          (.f (.ndec 100410 [.num (.v 0 0), .num (.v 0 1), .num (.v 0 2), .num (.v 0 3), .lst 0 4, .num (.v 65558 0), .num (.v 65558 1), .num (.v 65558 2), .num (.v 65558 3), .num (.v 65558 4), .num (.v 65558 5), .num (.v 65558 6), .num (.v 65558 7), .num (.v 65558 8), .tru (.v 65558 9), .num (.n 0), .num (.n 0)] [.num (.v 65571 0), .num (.v 65571 1), .num (.v 65571 2), .num (.v 65571 3), .num (.v 65571 4), .num (.v 65571 5), .num (.v 65571 6), .num (.v 65571 7), .num (.v 65571 8), .tru (.v 65571 9), .num (.v 65571 10), .num (.v 65571 11)] [.num (.v 65585 0), .num (.v 65585 1), .num (.v 65585 2), .num (.v 65585 3), .num (.v 65585 4), .num (.v 65585 5), .num (.v 65585 6), .num (.v 65585 7), .num (.v 65585 8), .tru (.v 65585 9), .num (.v 65598 0), .num (.wrap .i64 (.bin .add (.v 65571 11) (.n 1)))]) <|
                           .bad)))
                        (.f (.npre 18 [.num (.v 65585 0), .num (.v 65585 1), .num (.v 65585 2), .num (.v 65585 3), .num (.v 65585 4), .num (.v 65585 5), .num (.v 65585 6), .num (.v 65585 7), .num (.v 65585 8), .tru (.v 65585 9)]) <|
                         .bad)))))
                    (.f (.is (.v 65585 10) false) <|
                     .br (.f (.is (.and (.eq (.v 65585 4) (.v 65571 4)) (.and (.eq (.v 65585 5) (.v 65571 5)) (.and (.eq (.v 65585 6) (.v 65571 6)) (.le (.n 0) (.n 0))))) false) <|
                      .ok [.tru (.lt (.n 0) (.n 0))])
                     (.f (.is (.and (.eq (.v 65585 4) (.v 65571 4)) (.and (.eq (.v 65585 5) (.v 65571 5)) (.and (.eq (.v 65585 6) (.v 65571 6)) (.le (.n 0) (.n 0))))) true) <|
                      .br (.f (.is (.eq (.v 65585 7) (.wrap .u64 (.bin .sub (.v 65571 7) (.bin .mn (.at 0 4 (.v 65571 11) 0) (.v 65571 7))))) false) <|
                       .f (.is (.eq (.v 65681 0) (.wrap .u64 (.bin .sub (.v 65571 7) (.bin .mn (.at 0 4 (.v 65571 11) 0) (.v 65571 7))))) true) <|
                        .ok [.tru (.lt (.n 0) (.n 0))])
                      (.f (.is (.eq (.v 65585 7) (.wrap .u64 (.bin .sub (.v 65571 7) (.bin .mn (.at 0 4 (.v 65571 11) 0) (.v 65571 7))))) true) <|
                       .br (.f (.is (.eq (.v 65585 3) (.n 7)) false) <|
                        .f (.is (.eq (.v 65681 0) (.wrap .u64 (.bin .sub (.v 65571 7) (.bin .mn (.at 0 4 (.v 65571 11) 0) (.v 65571 7))))) true) <|
                         .ok [.tru (.lt (.n 0) (.n 0))])
                       (.f (.is (.eq (.v 65585 3) (.n 7)) true) <|
                        .br (.f (.rel 18 [.num (.v 65585 0), .num (.v 65585 1), .num (.v 65585 2), .num (.v 65585 3), .num (.v 65585 4), .num (.v 65585 5), .num (.v 65585 6), .num (.v 65585 7), .num (.v 65585 8), .tru (.v 65585 9)] 65678 [.bool]) <|
                         .f (.is (.eq (.v 65681 0) (.wrap .u64 (.bin .sub (.v 65571 7) (.bin .mn (.at 0 4 (.v 65571 11) 0) (.v 65571 7))))) true) <|
                          .br (.f (.is (.v 65678 0) false) <|
                           .ok [.tru (.lt (.n 0) (.n 0))])
                          (.f (.is (.v 65678 0) true) <|
                           .br (.f (.nrel 100410 [.num (.v 0 0), .num (.v 0 1), .num (.v 0 2), .num (.v 0 3), .lst 0 4, .num (.v 65558 0), .num (.v 65558 1), .num (.v 65558 2), .num (.v 65558 3), .num (.v 65558 4), .num (.v 65558 5), .num (.v 65558 6), .num (.v 65558 7), .num (.v 65558 8), .tru (.v 65558 9), .num (.n 0), .num (.n 0)] [.num (.v 65585 0), .num (.v 65585 1), .num (.v 65585 2), .num (.v 65585 3), .num (.v 65585 4), .num (.v 65585 5), .num (.v 65585 6), .num (.v 65585 7), .num (.v 65585 8), .tru (.v 65585 9), .num (.v 65598 0), .num (.wrap .i64 (.bin .add (.v 65571 11) (.n 1)))]) <|
                            .bad)
                           (.f (.ndec 100410 [.num (.v 0 0), .num (.v 0 1), .num (.v 0 2), .num (.v 0 3), .lst 0 4, .num (.v 65558 0), .num (.v 65558 1), .num (.v 65558 2), .num (.v 65558 3), .num (.v 65558 4), .num (.v 65558 5), .num (.v 65558 6), .num (.v 65558 7), .num (.v 65558 8), .tru (.v 65558 9), .num (.n 0), .num (.n 0)] [.num (.v 65571 0), .num (.v 65571 1), .num (.v 65571 2), .num (.v 65571 3), .num (.v 65571 4), .num (.v 65571 5), .num (.v 65571 6), .num (.v 65571 7), .num (.v 65571 8), .tru (.v 65571 9), .num (.v 65571 10), .num (.v 65571 11)] [.num (.v 65585 0), .num (.v 65585 1), .num (.v 65585 2), .num (.v 65585 3), .num (.v 65585 4), .num (.v 65585 5), .num (.v 65585 6), .num (.v 65585 7), .num (.v 65585 8), .tru (.v 65585 9), .num (.v 65598 0), .num (.wrap .i64 (.bin .add (.v 65571 11) (.n 1)))]) <|
                            .bad)))
                        (.f (.npre 18 [.num (.v 65585 0), .num (.v 65585 1), .num (.v 65585 2), .num (.v 65585 3), .num (.v 65585 4), .num (.v 65585 5), .num (.v 65585 6), .num (.v 65585 7), .num (.v 65585 8), .tru (.v 65585 9)]) <|
                         .bad))))))))))
               (.f (.npre 17 [.num (.v 0 0), .num (.v 0 1), .num (.v 0 2), .num (.wrap .u64 (.bin .mul (.v 65598 0) (.n 1048576)))]) <|
                .bad))
             (.f (.npre 10 [.num (.v 65571 0), .num (.v 65571 1), .num (.v 65571 2), .num (.v 65571 3), .num (.v 65571 4), .num (.v 65571 5), .num (.v 65571 6), .num (.v 65571 7), .num (.v 65571 8), .tru (.v 65571 9), .num (.bin .mn (.at 0 4 (.v 65571 11) 0) (.v 65571 7))]) <|
              .bad)))
           (.f (.is (.lt (.v 65571 11) (.n 0)) true) <|
            .bad))
          (.f (.is (.lt (.v 65571 11) (.len 0 4)) false) <|
           .ok [.tru (.le (.n 0) (.n 0))]))
         (.f (.nrel 100410 [.num (.v 0 0), .num (.v 0 1), .num (.v 0 2), .num (.v 0 3), .lst 0 4, .num (.v 65558 0), .num (.v 65558 1), .num (.v 65558 2), .num (.v 65558 3), .num (.v 65558 4), .num (.v 65558 5), .num (.v 65558 6), .num (.v 65558 7), .num (.v 65558 8), .tru (.v 65558 9), .num (.n 0), .num (.n 0)] [.num (.v 65558 0), .num (.v 65558 1), .num (.v 65558 2), .num (.v 65558 3), .num (.v 65558 4), .num (.v 65558 5), .num (.v 65558 6), .num (.v 65558 7), .num (.v 65558 8), .tru (.v 65558 9), .num (.n 0), .num (.n 0)]) <|
          .bad)))
       (.f (.npre 16 [.num (.v 0 0), .num (.v 0 1), .num (.v 0 2), .num (.n 7), .num (.v 0 3)]) <|
        .bad)))))
theorem c4 : ConS Tryz.prog T C4 := con_tr (cs := [C10, C15, C16, C17, C18]) (lcs := [L100410]) (known := [9, 28, 42, 61, 88, 105, 121, 130, 139, 145, 147, 149, 150, 152, 153, 154, 156, 162, 165, 161, 164, 170, 180, 192, 195, 191, 194, 203, 204]) (cons_cons c10 (cons_cons c15 (cons_cons c16 (cons_cons c17 (cons_cons c18 (cons_nil _ _)))))) known9 (N := 400) (d := 40) (t := t4) (by kernel_rfl) <| by
  intro E hl hp
  have hl4 := hl 4 _ rfl
  clear hl
  have hp := hp rfl
  simp only [C4, show T.pre 4 = Q4 from rfl, flatS, SP.flat, dvs, List.append_nil, List.cons_append, List.nil_append, Q4, U64, U32, I64, Big, W, wv, s64, MR, MB] at hp
  simp only [t4, C4, Tr.good, Fact.den, LX.den, DX.ls, DV.ls, DX.den, Bx.den, Ex.den, eo_add, eo_sub, eo_mul, eo_quo, eo_rem, eo_fdv, eo_mn, eo_mx, eo_land, eo_lor, eo_lxor, eo_landn, eo_shl, eo_shr, dvs, flatS, SP.flat, ST.flat, List.map_cons, List.map_nil, List.append_nil, List.cons_append, List.nil_append, ltb_t, ltb_f, leb_t, leb_f, eqb_t, eqb_f, decide_eq_true_eq, decide_eq_false_iff_not, Bool.not_eq_true', Bool.not_eq_false', Bool.and_eq_true, Bool.and_eq_false_imp, beq_iff_eq, beq_eq_false_iff_ne, bne_iff_ne, U64, U32, I64, Big, W, wv, Told, s64, MR, MB, Int.zero_mul, Int.zero_add, Int.add_zero, Int.mul_zero, IntKind.wrap_u64, IntKind.wrap_i64, IntKind.wrap_u32, ne_eq, forall_const, true_implies, show T.rel 4 = R4 from rfl, R4, show T.rel 10 = R10 from rfl, R10, show T.rel 15 = R15 from rfl, R15, show T.rel 16 = R16 from rfl, R16, show T.rel 17 = R17 from rfl, R17, show T.rel 18 = R18 from rfl, R18, show T.rel 100410 = R100410 from rfl, R100410, show T.mu 100410 = M100410 from rfl, M100410, show T.pre 4 = Q4 from rfl, Q4, show T.pre 10 = Q10 from rfl, Q10, show T.pre 16 = Q16 from rfl, Q16, show T.pre 17 = Q17 from rfl, Q17, show T.pre 18 = Q18 from rfl, Q18]
  revert hp hl4
  generalize (E.r 0).i 0 = t
  generalize (E.r 0).i 1 = r
  generalize (E.r 0).i 2 = w
  generalize (E.r 0).i 3 = s
  generalize (E.r 0).l 4 = xs
  generalize (E.r 65541).c 0 = x5_0
  generalize (E.r 65558).i 0 = x22_0
  generalize (E.r 65558).i 1 = x22_1
  generalize (E.r 65558).i 2 = x22_2
  generalize (E.r 65558).i 3 = x22_3
  generalize (E.r 65558).i 4 = x22_4
  generalize (E.r 65558).i 5 = x22_5
  generalize (E.r 65558).i 6 = x22_6
  generalize (E.r 65558).i 7 = x22_7
  generalize (E.r 65558).i 8 = x22_8
  generalize (E.r 65558).c 9 = x22_9
  generalize (E.r 65558).c 10 = x22_10
  generalize (E.r 65571).i 0 = x35_0
  generalize (E.r 65571).i 1 = x35_1
  generalize (E.r 65571).i 2 = x35_2
  generalize (E.r 65571).i 3 = x35_3
  generalize (E.r 65571).i 4 = x35_4
  generalize (E.r 65571).i 5 = x35_5
  generalize (E.r 65571).i 6 = x35_6
  generalize (E.r 65571).i 7 = x35_7
  generalize (E.r 65571).i 8 = x35_8
  generalize (E.r 65571).c 9 = x35_9
  generalize (E.r 65571).i 10 = x35_10
  generalize (E.r 65571).i 11 = x35_11
  generalize (E.r 65585).i 0 = x49_0
  generalize (E.r 65585).i 1 = x49_1
  generalize (E.r 65585).i 2 = x49_2
  generalize (E.r 65585).i 3 = x49_3
  generalize (E.r 65585).i 4 = x49_4
  generalize (E.r 65585).i 5 = x49_5
  generalize (E.r 65585).i 6 = x49_6
  generalize (E.r 65585).i 7 = x49_7
  generalize (E.r 65585).i 8 = x49_8
  generalize (E.r 65585).c 9 = x49_9
  generalize (E.r 65585).c 10 = x49_10
  generalize (E.r 65585).c 11 = x49_11
  generalize (E.r 65598).i 0 = x62_0
  generalize (E.r 65602).i 0 = x66_0
  generalize (E.r 65602).i 1 = x66_1
  generalize (E.r 65602).i 2 = x66_2
  generalize (E.r 65602).c 3 = x66_3
  generalize (E.r 65678).c 0 = x142_0
  generalize (E.r 65681).i 0 = x145_0
  try simp only [mxI, mnI]
  try simp only [ltb, leb, eqb, Int.lt_irrefl, decide_false, Int.le_refl, decide_true]
  intro hl hp
  obtain ⟨p1, p2, p3, p4, p5⟩ := hp
  intro h5
  refine ⟨fun _ => trivial, fun t5 => ⟨fun _ => trivial, fun c1 => ⟨fun _ => trivial, fun c2 => ⟨fun _ => trivial, fun c3 => ⟨fun A => ⟨fun f => ?_, fun t22 => ⟨fun ⟨i0, i1, i2, i3, i4, i5, i6, i7, i8, i9, i10, i11⟩ => ?_, fun n => n ?_⟩⟩, fun n => n ⟨p1, p2, p3⟩⟩⟩⟩⟩⟩
  all_goals have hP : PR r w := h5.1 t5
  all_goals have hs : NS s := ⟨c1, by omega⟩
  · have := A.1.2 ⟨hP, by omega, hs⟩
    rw [f] at this
    cases this
  rotate_left
  · obtain ⟨e0, e1, e2, e3, e4, e5, e6, e7, e8, e9⟩ := A.2.1 t22
    have m0 : mvt t r w 0 = t ∧ mvr r w 0 = r := by
      have a : r / w = 0 := Int.ediv_eq_zero_of_lt p2.1 hP.2.2
      have b : r % w = r := Int.emod_eq_of_lt p2.1 hP.2.2
      refine ⟨?_, ?_⟩
      · show (t + (0 * 1048576 + r) / w) % 18446744073709551616 = t
        rw [Int.zero_mul, Int.zero_add, a]
        omega
      · show (0 * 1048576 + r) % w = r
        rw [Int.zero_mul, Int.zero_add, b]
    rw [e0, e1, e2, e3, e4, e5, e6, e7, e8, e9, m0.1, m0.2]
    exact ⟨trivial, by omega, ⟨hP, by omega, hs, hs, rfl, rfl, rfl⟩, rfl, rfl, rfl, rfl, Int.le_refl _, trivial, trivial, rfl, rfl⟩
  clear A t22
  obtain ⟨k, rfl⟩ := Int.eq_ofNat_of_zero_le i0
  have ew : ((k : Int) + 1 + 9223372036854775808) % 18446744073709551616 - 9223372036854775808 = ((k + 1 : Nat) : Int) := by omega
  simp only [ew]
  have hk := p5 k
  have nl := i2.2.2.1
  have nl1 := nl.1
  have nl2 := nl.2
  have wt : WT w := ⟨hP.1, hP.2.1⟩
  generalize hX : (if x35_7 < Sy.rowAt xs k 0 then x35_7 else Sy.rowAt xs k 0) = X
  have X0 : 0 ≤ X ∧ X ≤ x35_7 := by split at hX <;> omega
  clear hX
  have k0 : U64 x35_0 := by rw [i10]; exact mvt_u t r w x35_10
  have m1 := mvr_u r x35_10 wt
  have k1 : U32 x35_1 := by rw [i11]; exact ⟨m1.1, m1.2.2⟩
  have k4 : U64 x35_4 := by rw [i2.2.2.2.2.1]; exact mvt_u _ _ _ _
  have m2 := mvr_u x35_1 x35_7 wt
  have k5 : U32 x35_5 := by rw [i2.2.2.2.2.2.1, i4]; exact ⟨m2.1, m2.2.2⟩
  have k6 : x35_6 = w := by rw [i2.2.2.2.2.2.2, i4]
  refine ⟨fun c => ⟨fun _ => ⟨fun _ => trivial, fun nz => ⟨fun B e62 => ⟨fun M => ?_, fun n => n ⟨p2, p3, by omega, by omega⟩⟩, fun n => n ⟨k0, k1, by omega, k4, k5, by omega, by omega, by omega⟩⟩⟩, fun h => by omega⟩, fun _ => trivial⟩
  have e62 : x62_0 = x35_10 + X := by omega
  have t49 : x49_11 = true := B.1.2 ⟨i2, by omega, X0.2⟩
  obtain ⟨g0, g1, g2, g4, g5, g6, g7, _, g9⟩ := SRV.kinds k0 k1 (by omega) B
  have R49 := g9 t49
  obtain ⟨f0, f1, f2, f3, f7, f4, f5, f6, f8, f9, f10⟩ := B.2.1 t49
  have e20 : x62_0 * 1048576 % 18446744073709551616 = x62_0 * 1048576 := by omega
  have qq := quo_le (a := x62_0 * 1048576 + r) (w := w) (by omega) hP.1
  rw [e20] at M
  have t66 : x66_3 = true := M.1.2 ⟨wt, by omega, by omega⟩
  obtain ⟨u0, u1, _, _, u2⟩ := M.2.1 t66
  have ad := mv_add (t := t) (r := r) (x := x35_10) (y := X) hP.1
  have u0 : x66_0 = mvt t r w x62_0 := u0
  have u1 : x66_1 = mvr r w x62_0 := u1
  have v0 : x49_0 = mvt t r w x62_0 := by rw [f0, i4, i10, i11, ad.1, e62]
  have v1 : x49_1 = mvr r w x62_0 := by rw [f1, i4, i11, ad.2, e62]
  have v10 : x49_10 = true ↔ X = x35_7 := by rw [f10]; omega
  have r4 := i2.2.2.2.2.1
  have r5 := i2.2.2.2.2.2.1
  have d1 : X = x35_7 → x49_0 = x35_4 ∧ x49_1 = x35_5 ∧ x49_7 = s := fun h => ⟨by rw [f0, r4, h], by rw [f1, r5, h], by rw [f7, if_pos (by omega), i5]⟩
  have d2 : ¬ X = x35_7 → x49_4 = x35_4 ∧ x49_5 = x35_5 ∧ x49_7 = x35_7 - X := fun h => by
    have e7 : x49_7 = x35_7 - X := by rw [f7, if_neg (by omega)]
    have ad2 := mv_add (t := x35_0) (r := x35_1) (x := X) (y := x35_7 - X) hP.1
    have e8 : X + (x35_7 - X) = x35_7 := by omega
    rw [e8] at ad2
    refine ⟨?_, ?_, e7⟩
    · rw [f4, f0, f1, e7, r4, i4]; exact ad2.1
    · rw [f5, f1, e7, r5, i4]; exact ad2.2
  have em : (x35_7 - X) % 18446744073709551616 = x35_7 - X := by omega
  have f2 : x49_2 = w := by omega
  have f3 : x49_3 = 7 := by omega
  have f6 : x49_6 = w := by omega
  have f8 : x49_8 = s := by omega
  rw [i6] at f9
  simp only [em, t49, t66, true_imp_iff, reduceCtorEq, false_imp_iff, true_and]
  have kk : x62_0 ≤ ((k + 1 : Nat) : Int) * 1073741824 := by omega
  have kn : 0 ≤ x62_0 := by omega
  have km : ((xs.length : Int) - ((k + 1 : Nat) : Int)).toNat < ((xs.length : Int) - (k : Int)).toNat := by omega
  have kp : ((k + 1 : Nat) : Int) ≤ xs.length := by omega
  have kz : 0 ≤ ((k + 1 : Nat) : Int) := by omega
  have ls : x49_7 ≤ s := by
    by_cases h : X = x35_7
    · have := (d1 h).2.2
      omega
    · have := (d2 h).2.2
      omega
  clear i9
  generalize ((k + 1 : Nat) : Int) * 1073741824 = G at kk ⊢
  generalize ((xs.length : Int) - ((k + 1 : Nat) : Int)).toNat = G1 at km ⊢
  generalize ((xs.length : Int) - (k : Int)).toNat = G2 at km ⊢
  clear B M f0 f1 f4 f5 f7 f10 ad g9 i2 i10 i11 r4 r5 em qq m1 m2 e20 t49 t66 h5 t5 hl p5 hk nl ew k0 k1 k4 k5
  by_cases hc : X = x35_7
  case pos =>
    obtain ⟨d3, d4, d5⟩ := d1 hc
    clear d1 d2
    have v10 := v10.2 hc
    have hd : decide (X = x35_7) = true := decide_eq_true hc
    rw [hd]
    repeat' (first | assumption | (intro (h : _ ∧ _); obtain ⟨h1, h2⟩ := h; (first | (subst h1; revert h2) | revert h1 h2)) | (intro h; (first | subst h | skip)) | refine And.intro ?_ ?_)
    all_goals try (show False; refine absurd ?_ ‹¬ _›)
    all_goals repeat' (first | assumption | refine And.intro ?_ ?_)
    all_goals first | omega | grind
  case neg =>
    obtain ⟨d3, d4, d5⟩ := d2 hc
    clear d1 d2
    have v10 : x49_10 = false := by
      cases h : x49_10 with
      | false => rfl
      | true => exact absurd (v10.1 h) hc
    have hd : decide (X = x35_7) = false := decide_eq_false hc
    rw [hd]
    repeat' (first | assumption | (intro (h : _ ∧ _); obtain ⟨h1, h2⟩ := h; (first | (subst h1; revert h2) | revert h1 h2)) | (intro h; (first | subst h | skip)) | refine And.intro ?_ ?_)
    all_goals try (show False; refine absurd ?_ ‹¬ _›)
    all_goals repeat' (first | assumption | refine And.intro ?_ ?_)
    all_goals first | omega | grind
end Go.Proofs.YtjemohphaeiaiaaGreatDoor.Fn
