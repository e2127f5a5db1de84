/- What is told of turnstone/turnstonelaw15.ReqMoves, shown. -/
import Derived.Test.YtjemohphaeiaiaaGreatDoorTab
import Derived.Test.YtjemohphaeiaiaaGreatDoorFm1
import Derived.Test.YtjemohphaeiaiaaGreatDoorSyAwake7
namespace Go.Proofs.YtjemohphaeiaiaaGreatDoor.Fn
open Go Go.RowKit Go.Proofs.YtjemohphaeiaiaaGreatDoor.Sy
set_option linter.unusedVariables false
set_option linter.unusedSimpArgs false
set_option maxRecDepth 100000
set_option maxHeartbeats 8000000
open Go.Proofs.YtjemohphaeiaiaaGreatDoor.Awake
def t7 : Tr :=
  .br (.f (.rel 16 [.num (.v 0 0), .num (.v 0 1), .num (.v 0 2), .num (.n 5), .num (.v 0 6)] 65543 [.int .u64, .int .u32, .int .u32, .int .i64, .int .u64, .int .u32, .int .u32, .int .u64, .int .u64, .bool, .bool]) <|
   .br (.f (.is (.v 65543 10) false) <|
    .ok [.tru (.le (.n 0) (.n 0))])
   (.f (.is (.v 65543 10) true) <|
    .br (.f (.is (.le (.v 0 6) (.v 0 7)) true) <|
     .ok [.tru (.le (.n 0) (.n 0))])
    (.f (.is (.le (.v 0 6) (.v 0 7)) false) <|
     .br (.f (.is (.lt (.n 0) (.v 0 7)) true) <|
      .br (.f (.rel 10 [.num (.v 65543 0), .num (.v 65543 1), .num (.v 65543 2), .num (.v 65543 3), .num (.v 65543 4), .num (.v 65543 5), .num (.v 65543 6), .num (.v 65543 7), .num (.v 65543 8), .tru (.v 65543 9), .num (.v 0 7)] 65561 [.int .u64, .int .u32, .int .u32, .int .i64, .int .u64, .int .u32, .int .u32, .int .u64, .int .u64, .bool, .bool, .bool]) <|
       .br (.f (.rel 22 [.num (.v 65561 0), .num (.v 65561 1), .num (.v 65561 2), .num (.v 65561 3), .num (.v 65561 4), .num (.v 65561 5), .num (.v 65561 6), .num (.v 65561 7), .num (.v 65561 8), .tru (.v 65561 9), .num (.v 0 3), .num (.v 0 4), .num (.v 0 5)] 65570 [.int .u64, .int .u32, .int .u32, .int .i64, .int .u64, .int .u32, .int .u32, .int .u64, .int .u64, .bool, .bool]) <|
        .br (.f (.is (.v 65561 11) false) <|
         .ok [.tru (.lt (.n 0) (.n 0))])
        (.f (.is (.v 65561 11) true) <|
         .f (.rel 15 [.num (.v 0 3), .num (.v 0 4), .num (.v 0 5)] 65582 [.bool]) <|
          .br (.f (.is (.beq (.v 65570 10) (.v 65582 0)) false) <|
           .ok [.tru (.lt (.n 0) (.n 0))])
          (.f (.is (.beq (.v 65570 10) (.v 65582 0)) true) <|
           .br (.f (.is (.v 65570 10) false) <|
            .ok [.tru (.and (.and (.and (.eq (.v 65570 0) (.n 0)) (.and (.eq (.v 65570 1) (.n 0)) (.and (.eq (.v 65570 2) (.n 0)) (.le (.n 0) (.n 0))))) (.and (.eq (.v 65570 3) (.n 0)) (.and (.and (.eq (.v 65570 4) (.n 0)) (.and (.eq (.v 65570 5) (.n 0)) (.and (.eq (.v 65570 6) (.n 0)) (.le (.n 0) (.n 0))))) (.le (.n 0) (.n 0))))) (.and (.eq (.v 65570 7) (.n 0)) (.and (.eq (.v 65570 8) (.n 0)) (.and (.beq (.v 65570 9) (.lt (.n 0) (.n 0))) (.le (.n 0) (.n 0))))))])
           (.f (.is (.v 65570 10) true) <|
            .br (.f (.rel 17 [.num (.v 0 3), .num (.v 0 4), .num (.v 0 5), .num (.wrap .u64 (.bin .mul (.v 65561 7) (.n 1048576)))] 65591 [.int .u64, .int .u32, .int .u32, .bool]) <|
             .br (.f (.rel 22 [.num (.v 65570 0), .num (.v 65570 1), .num (.v 65570 2), .num (.v 65570 3), .num (.v 65570 4), .num (.v 65570 5), .num (.v 65570 6), .num (.v 65570 7), .num (.v 65570 8), .tru (.v 65570 9), .num (.v 65561 0), .num (.v 65561 1), .num (.v 65561 2)] 65602 [.int .u64, .int .u32, .int .u32, .int .i64, .int .u64, .int .u32, .int .u32, .int .u64, .int .u64, .bool, .bool]) <|
              .br (.f (.is (.v 65591 3) true) <|
               .br (.f (.is (.v 65602 10) true) <|
                .br (.f (.is (.and (.eq (.v 65570 4) (.v 65591 0)) (.and (.eq (.v 65570 5) (.v 65591 1)) (.and (.eq (.v 65570 6) (.v 65591 2)) (.le (.n 0) (.n 0))))) true) <|
                 .br (.f (.is (.eq (.v 65570 7) (.v 65561 7)) true) <|
                  .br (.f (.is (.eq (.v 65570 8) (.v 65561 8)) true) <|
                   .br (.f (.is (.eq (.v 65570 3) (.n 5)) true) <|
                    .ok [.tru (.and (.and (.and (.eq (.v 65602 0) (.v 65561 0)) (.and (.eq (.v 65602 1) (.v 65561 1)) (.and (.eq (.v 65602 2) (.v 65561 2)) (.le (.n 0) (.n 0))))) (.and (.eq (.v 65602 3) (.v 65561 3)) (.and (.and (.eq (.v 65602 4) (.v 65561 4)) (.and (.eq (.v 65602 5) (.v 65561 5)) (.and (.eq (.v 65602 6) (.v 65561 6)) (.le (.n 0) (.n 0))))) (.le (.n 0) (.n 0))))) (.and (.eq (.v 65602 7) (.v 65561 7)) (.and (.eq (.v 65602 8) (.v 65561 8)) (.and (.beq (.v 65602 9) (.v 65561 9)) (.le (.n 0) (.n 0))))))])
                   (.f (.is (.eq (.v 65570 3) (.n 5)) false) <|
                    .ok [.tru (.lt (.n 0) (.n 0))]))
                  (.f (.is (.eq (.v 65570 8) (.v 65561 8)) false) <|
                   .ok [.tru (.lt (.n 0) (.n 0))]))
                 (.f (.is (.eq (.v 65570 7) (.v 65561 7)) false) <|
                  .ok [.tru (.lt (.n 0) (.n 0))]))
                (.f (.is (.and (.eq (.v 65570 4) (.v 65591 0)) (.and (.eq (.v 65570 5) (.v 65591 1)) (.and (.eq (.v 65570 6) (.v 65591 2)) (.le (.n 0) (.n 0))))) false) <|
                 .ok [.tru (.lt (.n 0) (.n 0))]))
               (.f (.is (.v 65602 10) false) <|
                .ok [.tru (.lt (.n 0) (.n 0))]))
              (.f (.is (.v 65591 3) false) <|
               .ok [.tru (.lt (.n 0) (.n 0))]))
             (.f (.npre 22 [.num (.v 65570 0), .num (.v 65570 1), .num (.v 65570 2), .num (.v 65570 3), .num (.v 65570 4), .num (.v 65570 5), .num (.v 65570 6), .num (.v 65570 7), .num (.v 65570 8), .tru (.v 65570 9), .num (.v 65561 0), .num (.v 65561 1), .num (.v 65561 2)]) <|
              .bad))
            (.f (.npre 17 [.num (.v 0 3), .num (.v 0 4), .num (.v 0 5), .num (.wrap .u64 (.bin .mul (.v 65561 7) (.n 1048576)))]) <|
             .bad)))))
       (.f (.npre 22 [.num (.v 65561 0), .num (.v 65561 1), .num (.v 65561 2), .num (.v 65561 3), .num (.v 65561 4), .num (.v 65561 5), .num (.v 65561 6), .num (.v 65561 7), .num (.v 65561 8), .tru (.v 65561 9), .num (.v 0 3), .num (.v 0 4), .num (.v 0 5)]) <|
        .bad))
      (.f (.npre 10 [.num (.v 65543 0), .num (.v 65543 1), .num (.v 65543 2), .num (.v 65543 3), .num (.v 65543 4), .num (.v 65543 5), .num (.v 65543 6), .num (.v 65543 7), .num (.v 65543 8), .tru (.v 65543 9), .num (.v 0 7)]) <|
       .bad))
     (.f (.is (.lt (.n 0) (.v 0 7)) false) <|
      .br (.f (.rel 22 [.num (.v 65543 0), .num (.v 65543 1), .num (.v 65543 2), .num (.v 65543 3), .num (.v 65543 4), .num (.v 65543 5), .num (.v 65543 6), .num (.v 65543 7), .num (.v 65543 8), .tru (.v 65543 9), .num (.v 0 3), .num (.v 0 4), .num (.v 0 5)] 65561 [.int .u64, .int .u32, .int .u32, .int .i64, .int .u64, .int .u32, .int .u32, .int .u64, .int .u64, .bool, .bool]) <|
       .f (.rel 15 [.num (.v 0 3), .num (.v 0 4), .num (.v 0 5)] 65573 [.bool]) <|
        .br (.f (.is (.beq (.v 65561 10) (.v 65573 0)) false) <|
         .ok [.tru (.lt (.n 0) (.n 0))])
        (.f (.is (.beq (.v 65561 10) (.v 65573 0)) true) <|
         .br (.f (.is (.v 65561 10) false) <|
          .ok [.tru (.and (.and (.and (.eq (.v 65561 0) (.n 0)) (.and (.eq (.v 65561 1) (.n 0)) (.and (.eq (.v 65561 2) (.n 0)) (.le (.n 0) (.n 0))))) (.and (.eq (.v 65561 3) (.n 0)) (.and (.and (.eq (.v 65561 4) (.n 0)) (.and (.eq (.v 65561 5) (.n 0)) (.and (.eq (.v 65561 6) (.n 0)) (.le (.n 0) (.n 0))))) (.le (.n 0) (.n 0))))) (.and (.eq (.v 65561 7) (.n 0)) (.and (.eq (.v 65561 8) (.n 0)) (.and (.beq (.v 65561 9) (.lt (.n 0) (.n 0))) (.le (.n 0) (.n 0))))))])
         (.f (.is (.v 65561 10) true) <|
          .br (.f (.rel 17 [.num (.v 0 3), .num (.v 0 4), .num (.v 0 5), .num (.wrap .u64 (.bin .mul (.v 65543 7) (.n 1048576)))] 65582 [.int .u64, .int .u32, .int .u32, .bool]) <|
           .br (.f (.rel 22 [.num (.v 65561 0), .num (.v 65561 1), .num (.v 65561 2), .num (.v 65561 3), .num (.v 65561 4), .num (.v 65561 5), .num (.v 65561 6), .num (.v 65561 7), .num (.v 65561 8), .tru (.v 65561 9), .num (.v 65543 0), .num (.v 65543 1), .num (.v 65543 2)] 65593 [.int .u64, .int .u32, .int .u32, .int .i64, .int .u64, .int .u32, .int .u32, .int .u64, .int .u64, .bool, .bool]) <|
            .br (.f (.is (.v 65582 3) true) <|
             .br (.f (.is (.v 65593 10) true) <|
              .br (.f (.is (.and (.eq (.v 65561 4) (.v 65582 0)) (.and (.eq (.v 65561 5) (.v 65582 1)) (.and (.eq (.v 65561 6) (.v 65582 2)) (.le (.n 0) (.n 0))))) true) <|
               .br (.f (.is (.eq (.v 65561 7) (.v 65543 7)) true) <|
                .br (.f (.is (.eq (.v 65561 8) (.v 65543 8)) true) <|
                 .br (.f (.is (.eq (.v 65561 3) (.n 5)) true) <|
                  .ok [.tru (.and (.and (.and (.eq (.v 65593 0) (.v 65543 0)) (.and (.eq (.v 65593 1) (.v 65543 1)) (.and (.eq (.v 65593 2) (.v 65543 2)) (.le (.n 0) (.n 0))))) (.and (.eq (.v 65593 3) (.v 65543 3)) (.and (.and (.eq (.v 65593 4) (.v 65543 4)) (.and (.eq (.v 65593 5) (.v 65543 5)) (.and (.eq (.v 65593 6) (.v 65543 6)) (.le (.n 0) (.n 0))))) (.le (.n 0) (.n 0))))) (.and (.eq (.v 65593 7) (.v 65543 7)) (.and (.eq (.v 65593 8) (.v 65543 8)) (.and (.beq (.v 65593 9) (.v 65543 9)) (.le (.n 0) (.n 0))))))])
                 (.f (.is (.eq (.v 65561 3) (.n 5)) false) <|
                  .ok [.tru (.lt (.n 0) (.n 0))]))
                (.f (.is (.eq (.v 65561 8) (.v 65543 8)) false) <|
                 .ok [.tru (.lt (.n 0) (.n 0))]))
               (.f (.is (.eq (.v 65561 7) (.v 65543 7)) false) <|
                .ok [.tru (.lt (.n 0) (.n 0))]))
              (.f (.is (.and (.eq (.v 65561 4) (.v 65582 0)) (.and (.eq (.v 65561 5) (.v 65582 1)) (.and (.eq (.v 65561 6) (.v 65582 2)) (.le (.n 0) (.n 0))))) false) <|
               .ok [.tru (.lt (.n 0) (.n 0))]))
             (.f (.is (.v 65593 10) false) <|
              .ok [.tru (.lt (.n 0) (.n 0))]))
            (.f (.is (.v 65582 3) false) <|
             .ok [.tru (.lt (.n 0) (.n 0))]))
           (.f (.npre 22 [.num (.v 65561 0), .num (.v 65561 1), .num (.v 65561 2), .num (.v 65561 3), .num (.v 65561 4), .num (.v 65561 5), .num (.v 65561 6), .num (.v 65561 7), .num (.v 65561 8), .tru (.v 65561 9), .num (.v 65543 0), .num (.v 65543 1), .num (.v 65543 2)]) <|
            .bad))
          (.f (.npre 17 [.num (.v 0 3), .num (.v 0 4), .num (.v 0 5), .num (.wrap .u64 (.bin .mul (.v 65543 7) (.n 1048576)))]) <|
           .bad))))
      (.f (.npre 22 [.num (.v 65543 0), .num (.v 65543 1), .num (.v 65543 2), .num (.v 65543 3), .num (.v 65543 4), .num (.v 65543 5), .num (.v 65543 6), .num (.v 65543 7), .num (.v 65543 8), .tru (.v 65543 9), .num (.v 0 3), .num (.v 0 4), .num (.v 0 5)]) <|
       .bad)))))
  (.f (.npre 16 [.num (.v 0 0), .num (.v 0 1), .num (.v 0 2), .num (.n 5), .num (.v 0 6)]) <|
   .bad)
theorem c7 : ConS Tryz.prog T C7 := con_tr (cs := [C10, C15, C16, C17, C22]) (lcs := []) (known := [9, 28, 42, 61, 88, 105, 121, 130, 139, 145, 147, 149, 150, 152, 153, 154, 156, 162, 165, 161, 164, 170, 180, 192, 195, 191, 194, 203, 204]) (cons_cons c10 (cons_cons c15 (cons_cons c16 (cons_cons c17 (cons_cons c22 (cons_nil _ _)))))) known9 (N := 400) (d := 40) (t := t7) (by kernel_rfl) <| by
  intro E hl hp
  clear hl
  have hp := hp rfl
  simp only [C7, show T.pre 7 = Q7 from rfl, flatS, SP.flat, dvs, List.append_nil, List.cons_append, List.nil_append, Q7, U64, U32, I64, Big, W, wv, s64, MR, MB] at hp
  simp only [t7, C7, Tr.good, Fact.den, LX.den, DX.ls, DV.ls, DX.den, Bx.den, Ex.den, eo_add, eo_sub, eo_mul, eo_quo, eo_rem, eo_fdv, eo_mn, eo_mx, eo_land, eo_lor, eo_lxor, eo_landn, eo_shl, eo_shr, dvs, flatS, SP.flat, ST.flat, List.map_cons, List.map_nil, List.append_nil, List.cons_append, List.nil_append, ltb_t, ltb_f, leb_t, leb_f, eqb_t, eqb_f, decide_eq_true_eq, decide_eq_false_iff_not, Bool.not_eq_true', Bool.not_eq_false', Bool.and_eq_true, Bool.and_eq_false_imp, beq_iff_eq, beq_eq_false_iff_ne, bne_iff_ne, U64, U32, I64, Big, W, wv, Told, s64, MR, MB, Int.zero_mul, Int.zero_add, Int.add_zero, Int.mul_zero, IntKind.wrap_u64, IntKind.wrap_i64, IntKind.wrap_u32, ne_eq, forall_const, true_implies, show T.rel 7 = R7 from rfl, R7, show T.rel 10 = R10 from rfl, R10, show T.rel 15 = R15 from rfl, R15, show T.rel 16 = R16 from rfl, R16, show T.rel 17 = R17 from rfl, R17, show T.rel 22 = R22 from rfl, R22, show T.pre 7 = Q7 from rfl, Q7, show T.pre 10 = Q10 from rfl, Q10, show T.pre 16 = Q16 from rfl, Q16, show T.pre 17 = Q17 from rfl, Q17, show T.pre 22 = Q22 from rfl, Q22]
  revert hp
  generalize (E.r 0).i 0 = t
  generalize (E.r 0).i 1 = r
  generalize (E.r 0).i 2 = w
  generalize (E.r 0).i 3 = u
  generalize (E.r 0).i 4 = q
  generalize (E.r 0).i 5 = v
  generalize (E.r 0).i 6 = s
  generalize (E.r 0).i 7 = y
  generalize (E.r 65543).i 0 = x7_0
  generalize (E.r 65543).i 1 = x7_1
  generalize (E.r 65543).i 2 = x7_2
  generalize (E.r 65543).i 3 = x7_3
  generalize (E.r 65543).i 4 = x7_4
  generalize (E.r 65543).i 5 = x7_5
  generalize (E.r 65543).i 6 = x7_6
  generalize (E.r 65543).i 7 = x7_7
  generalize (E.r 65543).i 8 = x7_8
  generalize (E.r 65543).c 9 = x7_9
  generalize (E.r 65543).c 10 = x7_10
  generalize (E.r 65561).i 0 = x25_0
  generalize (E.r 65561).i 1 = x25_1
  generalize (E.r 65561).i 2 = x25_2
  generalize (E.r 65561).i 3 = x25_3
  generalize (E.r 65561).i 4 = x25_4
  generalize (E.r 65561).i 5 = x25_5
  generalize (E.r 65561).i 6 = x25_6
  generalize (E.r 65561).i 7 = x25_7
  generalize (E.r 65561).i 8 = x25_8
  generalize (E.r 65561).c 9 = x25_9
  generalize (E.r 65561).c 10 = x25_10
  generalize (E.r 65561).c 11 = x25_11
  generalize (E.r 65570).i 0 = x34_0
  generalize (E.r 65570).i 1 = x34_1
  generalize (E.r 65570).i 2 = x34_2
  generalize (E.r 65570).i 3 = x34_3
  generalize (E.r 65570).i 4 = x34_4
  generalize (E.r 65570).i 5 = x34_5
  generalize (E.r 65570).i 6 = x34_6
  generalize (E.r 65570).i 7 = x34_7
  generalize (E.r 65570).i 8 = x34_8
  generalize (E.r 65570).c 9 = x34_9
  generalize (E.r 65570).c 10 = x34_10
  generalize (E.r 65573).c 0 = x37_0
  generalize (E.r 65582).i 0 = x46_0
  generalize (E.r 65582).c 0 = x46_0c
  generalize (E.r 65582).i 1 = x46_1
  generalize (E.r 65582).i 2 = x46_2
  generalize (E.r 65582).c 3 = x46_3
  generalize (E.r 65591).i 0 = x55_0
  generalize (E.r 65591).i 1 = x55_1
  generalize (E.r 65591).i 2 = x55_2
  generalize (E.r 65591).c 3 = x55_3
  generalize (E.r 65593).i 0 = x57_0
  generalize (E.r 65593).i 1 = x57_1
  generalize (E.r 65593).i 2 = x57_2
  generalize (E.r 65593).i 3 = x57_3
  generalize (E.r 65593).i 4 = x57_4
  generalize (E.r 65593).i 5 = x57_5
  generalize (E.r 65593).i 6 = x57_6
  generalize (E.r 65593).i 7 = x57_7
  generalize (E.r 65593).i 8 = x57_8
  generalize (E.r 65593).c 9 = x57_9
  generalize (E.r 65593).c 10 = x57_10
  generalize (E.r 65602).i 0 = x66_0
  generalize (E.r 65602).i 1 = x66_1
  generalize (E.r 65602).i 2 = x66_2
  generalize (E.r 65602).i 3 = x66_3
  generalize (E.r 65602).i 4 = x66_4
  generalize (E.r 65602).i 5 = x66_5
  generalize (E.r 65602).i 6 = x66_6
  generalize (E.r 65602).i 7 = x66_7
  generalize (E.r 65602).i 8 = x66_8
  generalize (E.r 65602).c 9 = x66_9
  generalize (E.r 65602).c 10 = x66_10
  try simp only [mxI, mnI]
  try simp only [ltb, leb, eqb, Int.lt_irrefl, decide_false, Int.le_refl, decide_true]
  intro hp
  obtain ⟨p1, p2, p3, p4, p5, p6, p7, p8⟩ := hp
  refine ⟨fun A => ⟨fun _ => trivial, fun t7 => ⟨fun _ => trivial, fun c1 => ?_⟩⟩, fun n => n ⟨p1, p2, p3⟩⟩
  obtain ⟨hP, _, hs⟩ := A.1.1 t7
  obtain ⟨e0, e1, e2, e3, e4, e5, e6, e7, e8, e9⟩ := A.2.1 t7
  have mk := mv_kinds t r s hP
  have R : RQ x7_0 x7_1 x7_2 x7_3 x7_4 x7_5 x7_6 x7_7 x7_8 := by
    rw [e0, e1, e2, e3, e4, e5, e6, e7, e8]
    exact ⟨hP, by omega, hs, hs, rfl, rfl, rfl⟩
  have k7 : U64 x7_0 ∧ U32 x7_1 ∧ U32 x7_2 ∧ U64 x7_4 ∧ U32 x7_5 ∧ U32 x7_6 := by
    rw [e0, e1, e2, e4, e5, e6]
    exact ⟨p1, p2, p3, mk.1, mk.2, p3⟩
  refine ⟨fun c2 => ?_, fun c2 => ?_⟩
  · refine ⟨fun B => ?_, fun n => n (by omega)⟩
    have t25 : x25_11 = true := B.1.2 ⟨R, by omega, by omega⟩
    obtain ⟨g0, g1, g2, g3, g4, g5, g6, g7, g8⟩ := SRV.kinds k7.1 k7.2.1 (by omega) B
    obtain ⟨_, _, _, h3, _, _, _, _, h8, h9, _⟩ := B.2.1 t25
    have R := g8 t25
    rw [e3] at h3
    rw [e8] at h8
    rw [e9] at h9
    clear A B g8 t7 e0 e1 e2 e3 e4 e5 e6 e7 e8 e9 k7
    have nl : NS x25_7 := R.2.2.1
    have nl1 := nl.1
    have nl2 := nl.2
    have f1 : x25_7 * 1048576 % 18446744073709551616 = x25_7 * 1048576 := by omega
    have q1 := fun h : PR q v => quo_le2 (x := x25_7) (r := q) (w := v) (by omega) nl2 (by omega) h.2.2 h.1
    have mvk := fun h : PR q v => mv_kinds u q x25_7 h
    have R2 : PR q v → RQ u q v x25_3 (mvt u q v x25_7) (mvr q v x25_7) v x25_7 x25_8 := fun h => ⟨h, R.2.1, R.2.2.1, R.2.2.2.1, rfl, rfl, rfl⟩
    have R3 := R.1
    have R4 := R.2.2.2.2.1
    have R5 := R.2.2.2.2.2.1
    have R6 := R.2.2.2.2.2.2
    have mE : (u + (x25_7 * 1048576 + q) / v) % 18446744073709551616 = mvt u q v x25_7 := rfl
    have mR : (x25_7 * 1048576 + q) % v = mvr q v x25_7 := rfl
    simp only [f1, mE, mR]
    rw [mR] at q1
    clear f1 mE mR
    generalize (x25_7 * 1048576 + q) / v = Q at *
    repeat' (first | assumption | (intro (h : _ ∧ _); obtain ⟨h1, h2⟩ := h; (first | (subst h1; revert h2) | revert h1 h2)) | (intro h; (first | subst h | skip)) | refine And.intro ?_ ?_)
    all_goals try (show False; refine absurd ?_ ‹¬ _›)
    all_goals repeat' (first | assumption | refine And.intro ?_ ?_)
    all_goals first | omega | grind
  · clear A t7 e0 e1 e2 e4 e5 e6
    have nl : NS x7_7 := R.2.2.1
    have nl1 := nl.1
    have nl2 := nl.2
    have f1 : x7_7 * 1048576 % 18446744073709551616 = x7_7 * 1048576 := by omega
    have q1 := fun h : PR q v => quo_le2 (x := x7_7) (r := q) (w := v) (by omega) nl2 (by omega) h.2.2 h.1
    have mvk := fun h : PR q v => mv_kinds u q x7_7 h
    have R2 : PR q v → RQ u q v x7_3 (mvt u q v x7_7) (mvr q v x7_7) v x7_7 x7_8 := fun h => ⟨h, R.2.1, R.2.2.1, R.2.2.2.1, rfl, rfl, rfl⟩
    have R3 := R.1
    have R4 := R.2.2.2.2.1
    have R5 := R.2.2.2.2.2.1
    have R6 := R.2.2.2.2.2.2
    have mE : (u + (x7_7 * 1048576 + q) / v) % 18446744073709551616 = mvt u q v x7_7 := rfl
    have mR : (x7_7 * 1048576 + q) % v = mvr q v x7_7 := rfl
    simp only [f1, mE, mR]
    rw [mR] at q1
    clear f1 mE mR
    generalize (x7_7 * 1048576 + q) / v = Q at *
    repeat' (first | assumption | (intro (h : _ ∧ _); obtain ⟨h1, h2⟩ := h; (first | (subst h1; revert h2) | revert h1 h2)) | (intro h; (first | subst h | skip)) | refine And.intro ?_ ?_)
    all_goals try (show False; refine absurd ?_ ‹¬ _›)
    all_goals repeat' (first | assumption | refine And.intro ?_ ?_)
    all_goals first | omega | grind
end Go.Proofs.YtjemohphaeiaiaaGreatDoor.Fn
