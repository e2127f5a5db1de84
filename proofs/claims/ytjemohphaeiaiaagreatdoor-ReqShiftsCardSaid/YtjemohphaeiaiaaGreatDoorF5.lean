/- What is told of turnstone/turnstonelaw15.ReqShifts, shown. -/
import Derived.Test.YtjemohphaeiaiaaGreatDoorTab
import Derived.Test.YtjemohphaeiaiaaGreatDoorFm2
import Derived.Test.YtjemohphaeiaiaaGreatDoorSyAwake7
namespace Go.Proofs.YtjemohphaeiaiaaGreatDoor.Fn
open Go Go.RowKit Go.Proofs.YtjemohphaeiaiaaGreatDoor.Sy
set_option linter.unusedVariables false
set_option linter.unusedSimpArgs false
set_option maxRecDepth 100000
open Go.Proofs.YtjemohphaeiaiaaGreatDoor.Awake
def t5 : Tr :=
  .br (.f (.is (.lt (.n 100) (.len 0 5)) true) <|
   .ok [.tru (.le (.n 0) (.n 0))])
  (.f (.is (.lt (.n 100) (.len 0 5)) false) <|
   .br (.f (.rel 16 [.num (.v 0 0), .num (.v 0 1), .num (.v 0 2), .num (.n 1), .num (.v 0 3)] 65545 [.int .u64, .int .u32, .int .u32, .int .i64, .int .u64, .int .u32, .int .u32, .int .u64, .int .u64, .bool, .bool]) <|
    .f (.rel 19 [.num (.v 0 0), .num (.v 0 1), .num (.v 0 2), .num (.v 0 4)] 65554 [.int .u64, .int .u32, .int .u32]) <|
     .br (.f (.rel 16 [.num (.v 65554 0), .num (.v 65554 1), .num (.v 65554 2), .num (.n 1), .num (.v 0 3)] 65556 [.int .u64, .int .u32, .int .u32, .int .i64, .int .u64, .int .u32, .int .u32, .int .u64, .int .u64, .bool, .bool]) <|
      .br (.f (.is (.v 65545 10) false) <|
       .ok [.tru (.beq (.v 65545 10) (.v 65556 10))])
      (.f (.is (.v 65545 10) true) <|
       .br (.f (.is (.v 65556 10) false) <|
        .ok [.tru (.beq (.v 65545 10) (.v 65556 10))])
       (.f (.is (.v 65556 10) true) <|
        .br (.f (.rel 13 [.num (.v 65545 0), .num (.v 65545 1), .num (.v 65545 2), .num (.v 65545 3), .num (.v 65545 4), .num (.v 65545 5), .num (.v 65545 6), .num (.v 65545 7), .num (.v 65545 8), .tru (.v 65545 9), .lst 0 5] 65571 [.int .u64, .int .u32, .int .u32, .int .i64, .int .u64, .int .u32, .int .u32, .int .u64, .int .u64, .bool, .int .i64, .bool]) <|
         .br (.f (.rel 13 [.num (.v 65556 0), .num (.v 65556 1), .num (.v 65556 2), .num (.v 65556 3), .num (.v 65556 4), .num (.v 65556 5), .num (.v 65556 6), .num (.v 65556 7), .num (.v 65556 8), .tru (.v 65556 9), .lst 0 5] 65582 [.int .u64, .int .u32, .int .u32, .int .i64, .int .u64, .int .u32, .int .u32, .int .u64, .int .u64, .bool, .int .i64, .bool]) <|
          .br (.f (.is (.beq (.v 65571 11) (.v 65582 11)) true) <|
           .br (.f (.is (.eq (.v 65571 10) (.v 65582 10)) true) <|
            .br (.f (.is (.v 65571 11) false) <|
             .ok [.tru (.le (.n 0) (.n 0))])
            (.f (.is (.v 65571 11) true) <|
             .f (.rel 20 [.num (.v 65571 0), .num (.v 65571 1), .num (.v 65571 2), .num (.v 65571 3), .num (.v 65571 4), .num (.v 65571 5), .num (.v 65571 6), .num (.v 0 4)] 65606 [.int .u64, .int .u32, .int .u32, .int .i64, .int .u64, .int .u32, .int .u32]) <|
              .br (.f (.is (.and (.and (.eq (.v 65606 0) (.v 65582 0)) (.and (.eq (.v 65606 1) (.v 65582 1)) (.and (.eq (.v 65606 2) (.v 65582 2)) (.le (.n 0) (.n 0))))) (.and (.eq (.v 65606 3) (.v 65582 3)) (.and (.and (.eq (.v 65606 4) (.v 65582 4)) (.and (.eq (.v 65606 5) (.v 65582 5)) (.and (.eq (.v 65606 6) (.v 65582 6)) (.le (.n 0) (.n 0))))) (.le (.n 0) (.n 0))))) true) <|
               .ok [.tru (.eq (.v 65571 7) (.v 65582 7))])
              (.f (.is (.and (.and (.eq (.v 65606 0) (.v 65582 0)) (.and (.eq (.v 65606 1) (.v 65582 1)) (.and (.eq (.v 65606 2) (.v 65582 2)) (.le (.n 0) (.n 0))))) (.and (.eq (.v 65606 3) (.v 65582 3)) (.and (.and (.eq (.v 65606 4) (.v 65582 4)) (.and (.eq (.v 65606 5) (.v 65582 5)) (.and (.eq (.v 65606 6) (.v 65582 6)) (.le (.n 0) (.n 0))))) (.le (.n 0) (.n 0))))) false) <|
               .ok [.tru (.lt (.n 0) (.n 0))])))
           (.f (.is (.eq (.v 65571 10) (.v 65582 10)) false) <|
            .ok [.tru (.lt (.n 0) (.n 0))]))
          (.f (.is (.beq (.v 65571 11) (.v 65582 11)) false) <|
           .ok [.tru (.lt (.n 0) (.n 0))]))
         (.f (.npre 13 [.num (.v 65556 0), .num (.v 65556 1), .num (.v 65556 2), .num (.v 65556 3), .num (.v 65556 4), .num (.v 65556 5), .num (.v 65556 6), .num (.v 65556 7), .num (.v 65556 8), .tru (.v 65556 9), .lst 0 5]) <|
          .bad))
        (.f (.npre 13 [.num (.v 65545 0), .num (.v 65545 1), .num (.v 65545 2), .num (.v 65545 3), .num (.v 65545 4), .num (.v 65545 5), .num (.v 65545 6), .num (.v 65545 7), .num (.v 65545 8), .tru (.v 65545 9), .lst 0 5]) <|
         .bad))))
     (.f (.npre 16 [.num (.v 65554 0), .num (.v 65554 1), .num (.v 65554 2), .num (.n 1), .num (.v 0 3)]) <|
      .bad))
   (.f (.npre 16 [.num (.v 0 0), .num (.v 0 1), .num (.v 0 2), .num (.n 1), .num (.v 0 3)]) <|
    .bad))
theorem c5 : ConS Tryz.prog T C5 := con_tr (cs := [C13, C16, C19, C20]) (lcs := []) (known := [9, 28, 42, 61, 88, 105, 121, 130, 139, 145, 147, 149, 150, 152, 153, 154, 156, 162, 165, 161, 164, 170, 180, 192, 195, 191, 194, 203, 204]) (cons_cons c13 (cons_cons c16 (cons_cons c19 (cons_cons c20 (cons_nil _ _))))) known9 (N := 400) (d := 40) (t := t5) (by kernel_rfl) <| by
  intro E hl hp
  have hl5 := hl 5 _ rfl
  clear hl
  have hp := hp rfl
  simp only [C5, show T.pre 5 = Q5 from rfl, flatS, SP.flat, dvs, List.append_nil, List.cons_append, List.nil_append, Q5, U64, U32, I64, Big, W, wv, s64, MR, MB] at hp
  simp only [t5, C5, Tr.good, Fact.den, LX.den, DX.ls, DV.ls, DX.den, Bx.den, Ex.den, eo_add, eo_sub, eo_mul, eo_quo, eo_rem, eo_fdv, eo_mn, eo_mx, eo_land, eo_lor, eo_lxor, eo_landn, eo_shl, eo_shr, dvs, flatS, SP.flat, ST.flat, List.map_cons, List.map_nil, List.append_nil, List.cons_append, List.nil_append, ltb_t, ltb_f, leb_t, leb_f, eqb_t, eqb_f, decide_eq_true_eq, decide_eq_false_iff_not, Bool.not_eq_true', Bool.not_eq_false', Bool.and_eq_true, Bool.and_eq_false_imp, beq_iff_eq, beq_eq_false_iff_ne, bne_iff_ne, U64, U32, I64, Big, W, wv, Told, s64, MR, MB, Int.zero_mul, Int.zero_add, Int.add_zero, Int.mul_zero, IntKind.wrap_u64, IntKind.wrap_i64, IntKind.wrap_u32, ne_eq, forall_const, true_implies, show T.rel 5 = R5 from rfl, R5, show T.rel 13 = R13 from rfl, R13, show T.rel 16 = R16 from rfl, R16, show T.rel 19 = R19 from rfl, R19, show T.rel 20 = R20 from rfl, R20, show T.pre 5 = Q5 from rfl, Q5, show T.pre 13 = Q13 from rfl, Q13, show T.pre 16 = Q16 from rfl, Q16]
  revert hp hl5
  generalize (E.r 0).i 0 = t
  generalize (E.r 0).i 1 = r
  generalize (E.r 0).i 2 = w
  generalize (E.r 0).i 3 = s
  generalize (E.r 0).i 4 = y
  generalize (E.r 0).l 5 = xs
  generalize (E.r 65545).i 0 = x9_0
  generalize (E.r 65545).i 1 = x9_1
  generalize (E.r 65545).i 2 = x9_2
  generalize (E.r 65545).i 3 = x9_3
  generalize (E.r 65545).i 4 = x9_4
  generalize (E.r 65545).i 5 = x9_5
  generalize (E.r 65545).i 6 = x9_6
  generalize (E.r 65545).i 7 = x9_7
  generalize (E.r 65545).i 8 = x9_8
  generalize (E.r 65545).c 9 = x9_9
  generalize (E.r 65545).c 10 = x9_10
  generalize (E.r 65554).i 0 = x18_0
  generalize (E.r 65554).i 1 = x18_1
  generalize (E.r 65554).i 2 = x18_2
  generalize (E.r 65556).i 0 = x20_0
  generalize (E.r 65556).i 1 = x20_1
  generalize (E.r 65556).i 2 = x20_2
  generalize (E.r 65556).i 3 = x20_3
  generalize (E.r 65556).i 4 = x20_4
  generalize (E.r 65556).i 5 = x20_5
  generalize (E.r 65556).i 6 = x20_6
  generalize (E.r 65556).i 7 = x20_7
  generalize (E.r 65556).i 8 = x20_8
  generalize (E.r 65556).c 9 = x20_9
  generalize (E.r 65556).c 10 = x20_10
  generalize (E.r 65571).i 0 = x35_0
  generalize (E.r 65571).i 1 = x35_1
  generalize (E.r 65571).i 2 = x35_2
  generalize (E.r 65571).i 3 = x35_3
  generalize (E.r 65571).i 4 = x35_4
  generalize (E.r 65571).i 5 = x35_5
  generalize (E.r 65571).i 6 = x35_6
  generalize (E.r 65571).i 7 = x35_7
  generalize (E.r 65571).i 8 = x35_8
  generalize (E.r 65571).c 9 = x35_9
  generalize (E.r 65571).i 10 = x35_10
  generalize (E.r 65571).c 11 = x35_11
  generalize (E.r 65582).i 0 = x46_0
  generalize (E.r 65582).i 1 = x46_1
  generalize (E.r 65582).i 2 = x46_2
  generalize (E.r 65582).i 3 = x46_3
  generalize (E.r 65582).i 4 = x46_4
  generalize (E.r 65582).i 5 = x46_5
  generalize (E.r 65582).i 6 = x46_6
  generalize (E.r 65582).i 7 = x46_7
  generalize (E.r 65582).i 8 = x46_8
  generalize (E.r 65582).c 9 = x46_9
  generalize (E.r 65582).i 10 = x46_10
  generalize (E.r 65582).c 11 = x46_11
  generalize (E.r 65606).i 0 = x70_0
  generalize (E.r 65606).i 1 = x70_1
  generalize (E.r 65606).i 2 = x70_2
  generalize (E.r 65606).i 3 = x70_3
  generalize (E.r 65606).i 4 = x70_4
  generalize (E.r 65606).i 5 = x70_5
  generalize (E.r 65606).i 6 = x70_6
  try simp only [mxI, mnI]
  try simp only [ltb, leb, eqb, Int.lt_irrefl, decide_false, Int.le_refl, decide_true]
  intro hl hp
  obtain ⟨p1, p2, p3, p4, p5, p6⟩ := hp
  refine ⟨fun _ => trivial, fun c => ⟨fun A ⟨b0, b1, b2⟩ => ?_, fun n => n ⟨p1, p2, p3⟩⟩⟩
  simp only [b0, b1, b2]
  refine ⟨fun B => ⟨fun f => ?_, fun t9 => ⟨fun f => ?_, fun t20 => ?_⟩⟩, fun n => n (by omega)⟩
  · exact Bool.eq_iff_iff.2 (A.1.trans B.1.symm)
  · exact Bool.eq_iff_iff.2 (A.1.trans B.1.symm)
  obtain ⟨hP, _, hs⟩ := A.1.1 t9
  obtain ⟨e0, e1, e2, e3, e4, e5, e6, e7, e8, e9⟩ := A.2.1 t9
  obtain ⟨f0, f1, f2, f3, f4, f5, f6, f7, f8, f9⟩ := B.2.1 t20
  have m1 := mv_kinds t r s hP
  have m2 := mv_kinds ((t + y) % 18446744073709551616) r s hP
  simp only [e0, e1, e2, e3, e4, e5, e6, e7, e8, e9, f0, f1, f2, f3, f4, f5, f6, f7, f8, f9]
  refine ⟨fun C => ⟨fun D => ?_, fun n => n ⟨by omega, p2, p3, m2.1, m2.2, p3, p4, p4, p6, by omega⟩⟩, fun n => n ⟨p1, p2, p3, m1.1, m1.2, p3, p4, p4, p6, by omega⟩⟩
  obtain ⟨q1, q2, q3⟩ := SVD_shift hP (by omega) hs C D
  clear A B C D t9 t20 e0 e1 e2 e3 e4 e5 e6 e7 e8 e9 f0 f1 f2 f3 f4 f5 f6 f7 f8 f9 m1 m2
  repeat' (first | assumption | (intro (h : _ ∧ _); obtain ⟨h1, h2⟩ := h; (first | (subst h1; revert h2) | revert h1 h2)) | (intro h; (first | subst h | skip)) | refine And.intro ?_ ?_)
  all_goals try (show False; refine absurd ?_ ‹¬ _›)
  all_goals repeat' (first | assumption | refine And.intro ?_ ?_)
  all_goals first | omega | grind
end Go.Proofs.YtjemohphaeiaiaaGreatDoor.Fn
