/- What is told of the functions, shown: turnstone/turnstoneref09.Over, turnstone/turnstonelaw08.Of. -/
import Derived.Test.YtafhkgicekddlaaGreatDoorFm3
namespace Go.Proofs.YtafhkgicekddlaaGreatDoor.Fn
open Go Go.RowKit Go.Proofs.YtafhkgicekddlaaGreatDoor.Sy
set_option linter.unusedVariables false
set_option linter.unusedSimpArgs false
set_option maxRecDepth 100000
def t37 : Tr :=
  .br (.f (.rel 69 [.num (.v 0 0), .tru (.v 0 1), .lst 0 2, .num (.v 0 3), .num (.v 0 4)] 65541 [.bool]) <|
   .br (.f (.is (.v 65541 0) false) <|
    .ok [.tru (.lt (.n 0) (.n 0)), .rows [], .tru (.lt (.n 0) (.n 0))])
   (.f (.is (.v 65541 0) true) <|
    .br (.f (.is (.eq (.v 0 4) (.n 0)) true) <|
     .ok [.tru (.lt (.n 0) (.n 0)), .rows [], .tru (.lt (.n 0) (.n 0))])
    (.f (.is (.eq (.v 0 4) (.n 0)) false) <|
     .f (.rel 70 [.num (.v 0 5), .num (.v 0 6), .num (.v 0 7)] 65550 [.bool]) <|
      .br (.f (.is (.v 65550 0) false) <|
       .ok [.tru (.lt (.n 0) (.n 0)), .rows [], .tru (.lt (.n 0) (.n 0))])
      (.f (.is (.v 65550 0) true) <|
       .br (.f (.rel 59 [.num (.wrap .u64 (.v 0 7))] 65558 [.bool, .list [.int .i64]]) <|
        .br (.f (.rel 58 [.tru (.v 0 1), .lst 0 2, .tru (.v 65558 0), .lst 65558 1] 65559 [.bool, .list [.int .i64]]) <|
         .br (.f (.rel 71 [.num (.v 0 5), .num (.v 0 6), .num (.v 0 7), .num (.v 0 0)] 65565 [.bool, .list [.int .i64]]) <|
          .br (.f (.rel 59 [.num (.v 0 3)] 65568 [.bool, .list [.int .i64]]) <|
           .br (.f (.rel 58 [.tru (.v 65565 0), .lst 65565 1, .tru (.v 65568 0), .lst 65568 1] 65569 [.bool, .list [.int .i64]]) <|
            .br (.f (.rel 60 [.tru (.v 65559 0), .lst 65559 1, .tru (.v 65569 0), .lst 65569 1] 65574 [.bool, .list [.int .i64]]) <|
             .br (.f (.rel 72 [.tru (.v 65559 0), .lst 65559 1] 65578 [.bool]) <|
              .br (.f (.is (.v 65578 0) false) <|
               .ok [.tru (.lt (.n 0) (.n 0)), .rows [], .tru (.lt (.n 0) (.n 0))])
              (.f (.is (.v 65578 0) true) <|
               .br (.f (.rel 72 [.tru (.v 65569 0), .lst 65569 1] 65582 [.bool]) <|
                .br (.f (.is (.v 65582 0) false) <|
                 .ok [.tru (.lt (.n 0) (.n 0)), .rows [], .tru (.lt (.n 0) (.n 0))])
                (.f (.is (.v 65582 0) true) <|
                 .br (.f (.rel 72 [.tru (.v 65574 0), .lst 65574 1] 65587 [.bool]) <|
                  .br (.f (.is (.v 65587 0) false) <|
                   .ok [.tru (.lt (.n 0) (.n 0)), .rows [], .tru (.lt (.n 0) (.n 0))])
                  (.f (.is (.v 65587 0) true) <|
                   .ok [.tru (.v 65574 0), .lst 65574 1, .tru (.le (.n 0) (.n 0))]))
                 (.f (.npre 72 [.tru (.v 65574 0), .lst 65574 1]) <|
                  .bad)))
               (.f (.npre 72 [.tru (.v 65569 0), .lst 65569 1]) <|
                .bad)))
             (.f (.npre 72 [.tru (.v 65559 0), .lst 65559 1]) <|
              .bad))
            (.f (.npre 60 [.tru (.v 65559 0), .lst 65559 1, .tru (.v 65569 0), .lst 65569 1]) <|
             .bad))
           (.f (.npre 58 [.tru (.v 65565 0), .lst 65565 1, .tru (.v 65568 0), .lst 65568 1]) <|
            .bad))
          (.f (.npre 59 [.num (.v 0 3)]) <|
           .bad))
         (.f (.npre 71 [.num (.v 0 5), .num (.v 0 6), .num (.v 0 7), .num (.v 0 0)]) <|
          .bad))
        (.f (.npre 58 [.tru (.v 0 1), .lst 0 2, .tru (.v 65558 0), .lst 65558 1]) <|
         .bad))
       (.f (.npre 59 [.num (.wrap .u64 (.v 0 7))]) <|
        .bad)))))
  (.f (.npre 69 [.num (.v 0 0), .tru (.v 0 1), .lst 0 2, .num (.v 0 3), .num (.v 0 4)]) <|
   .bad)
theorem c37 : ConS Tryz.prog T C37 := con_tr (cs := [C58, C59, C60, C69, C70, C71, C72]) (lcs := []) (known := []) (cons_cons c58 (cons_cons c59 (cons_cons c60 (cons_cons c69 (cons_cons c70 (cons_cons c71 (cons_cons c72 (cons_nil _ _)))))))) (Known.nil _) (N := 400) (d := 40) (t := t37) (by kernel_rfl) <| by
  intro E hl hp
  have hl2 := hl 2 _ rfl
  clear hl
  have hp := hp rfl
  simp only [C37, show T.pre 37 = Q37 from rfl, flatS, SP.flat, dvs, List.append_nil, List.cons_append, List.nil_append, Q37, U64, U32, I64, Big, W, wv, s64, WT, PR, MR, MB] at hp
  simp only [t37, C37, Tr.good, Fact.den, LX.den, DX.ls, DV.ls, DX.den, Bx.den, Ex.den, eo_add, eo_sub, eo_mul, eo_quo, eo_rem, eo_fdv, eo_mn, eo_mx, eo_land, eo_lor, eo_lxor, eo_landn, eo_shl, eo_shr, dvs, flatS, SP.flat, ST.flat, List.map_cons, List.map_nil, List.append_nil, List.cons_append, List.nil_append, ltb_t, ltb_f, leb_t, leb_f, eqb_t, eqb_f, decide_eq_true_eq, decide_eq_false_iff_not, Bool.not_eq_true', Bool.not_eq_false', Bool.and_eq_true, Bool.and_eq_false_imp, beq_iff_eq, beq_eq_false_iff_ne, bne_iff_ne, U64, U32, I64, Big, W, wv, Told, s64, WT, PR, MR, MB, Int.zero_mul, Int.zero_add, Int.add_zero, Int.mul_zero, IntKind.wrap_u64, IntKind.wrap_i64, IntKind.wrap_u32, ne_eq, forall_const, true_implies, show T.rel 37 = R37 from rfl, R37, show T.rel 58 = R58 from rfl, R58, show T.rel 59 = R59 from rfl, R59, show T.rel 60 = R60 from rfl, R60, show T.rel 69 = R69 from rfl, R69, show T.rel 70 = R70 from rfl, R70, show T.rel 71 = R71 from rfl, R71, show T.rel 72 = R72 from rfl, R72, show T.pre 37 = Q37 from rfl, Q37, show T.pre 58 = Q58 from rfl, Q58, show T.pre 59 = Q59 from rfl, Q59, show T.pre 60 = Q60 from rfl, Q60, show T.pre 69 = Q69 from rfl, Q69, show T.pre 71 = Q71 from rfl, Q71, show T.pre 72 = Q72 from rfl, Q72]
  revert hp hl2
  generalize (E.r 0).i 0 = b
  generalize (E.r 0).c 1 = an
  generalize (E.r 0).l 2 = al
  generalize (E.r 0).i 3 = w
  generalize (E.r 0).i 4 = n
  generalize (E.r 0).i 5 = t
  generalize (E.r 0).i 6 = r
  generalize (E.r 0).i 7 = v
  generalize (E.r 65541).c 0 = x5_0
  generalize (E.r 65550).c 0 = x14_0
  generalize (E.r 65558).c 0 = x22_0
  generalize (E.r 65558).l 1 = x22_1
  generalize (E.r 65559).c 0 = x23_0
  generalize (E.r 65559).l 1 = x23_1
  generalize (E.r 65565).c 0 = x29_0
  generalize (E.r 65565).l 1 = x29_1
  generalize (E.r 65568).c 0 = x32_0
  generalize (E.r 65568).l 1 = x32_1
  generalize (E.r 65569).c 0 = x33_0
  generalize (E.r 65569).l 1 = x33_1
  generalize (E.r 65574).c 0 = x38_0
  generalize (E.r 65574).l 1 = x38_1
  generalize (E.r 65578).c 0 = x42_0
  generalize (E.r 65582).c 0 = x46_0
  generalize (E.r 65587).c 0 = x51_0
  simp only [Bg]
  try generalize bval an al = an_v
  try generalize bval x22_0 x22_1 = y22_0
  try generalize bval x23_0 x23_1 = y23_0
  try generalize bval x29_0 x29_1 = y29_0
  try generalize bval x32_0 x32_1 = y32_0
  try generalize bval x33_0 x33_1 = y33_0
  try generalize bval x38_0 x38_1 = y38_0
  try simp only [mxI, mnI]
  try simp only [ltb, leb, eqb, Int.lt_irrefl, decide_false, Int.le_refl, decide_true]
  simp only [bval_nil]
  intro hl hp
  have B0 := BOK_nil
  have e1 : v % 18446744073709551616 = v := by omega
  simp only [e1]
  obtain ⟨hb, hA, hq⟩ := hp
  have hA' : -170141183460469231731687303715884105728 ≤ an_v ∧ an_v < 170141183460469231731687303715884105728 := hA
  have s := mul_abs (w := v) (s := (t - b + 9223372036854775808) % 18446744073709551616 - 9223372036854775808) (A := 4294967295) (by omega) (by omega) (by omega) (by omega)
  have p1 := mul_le2 (a := an_v) (b := v) (X := 170141183460469231731687303715884105728) (Y := 4294967296) (by omega) (by omega) (by omega) (by omega)
  have p2 := mul_le2 (a := v * ((t - b + 9223372036854775808) % 18446744073709551616 - 9223372036854775808) + r) (b := w) (X := 170141183460469231731687303715884105728) (Y := 18446744073709551616) (by omega) (by omega) (by omega) (by omega)
  repeat' (first | assumption | (intro (h : _ ∧ _); obtain ⟨_, rfl⟩ := h) | (intro (h : _ ∧ _); obtain ⟨_, _⟩ := h) | intro _ | refine And.intro ?_ ?_)
  all_goals try (show False; refine absurd ?_ ‹¬ _›)
  all_goals repeat' (first | assumption | refine And.intro ?_ ?_)
  all_goals first | omega | (simp_all; done) | (simp_all; omega)
end Go.Proofs.YtafhkgicekddlaaGreatDoor.Fn
namespace Go.Proofs.YtafhkgicekddlaaGreatDoor.Fn
open Go Go.RowKit Go.Proofs.YtafhkgicekddlaaGreatDoor.Sy
set_option linter.unusedVariables false
set_option linter.unusedSimpArgs false
set_option maxRecDepth 100000
def t38 : Tr :=
  .br (.f (.rel 26 [.num (.v 0 1), .num (.v 0 2)] 65542 [.bool, .list [.int .i64]]) <|
   .ok [.num (.v 0 0), .tru (.v 65542 0), .lst 65542 1, .num (.v 0 3), .num (.v 0 4)])
  (.f (.npre 26 [.num (.v 0 1), .num (.v 0 2)]) <|
   .bad)
theorem c38 : ConS Tryz.prog T C38 := con_tr (cs := [C26]) (lcs := []) (known := []) (cons_cons c26 (cons_nil _ _)) (Known.nil _) (N := 400) (d := 40) (t := t38) (by kernel_rfl) <| by
  intro E hl hp
  clear hl
  have hp := hp rfl
  simp only [C38, show T.pre 38 = Q38 from rfl, flatS, SP.flat, dvs, List.append_nil, List.cons_append, List.nil_append, Q38, U64, U32, I64, Big, W, wv, s64, WT, PR, MR, MB] at hp
  simp only [t38, C38, Tr.good, Fact.den, LX.den, DX.ls, DV.ls, DX.den, Bx.den, Ex.den, eo_add, eo_sub, eo_mul, eo_quo, eo_rem, eo_fdv, eo_mn, eo_mx, eo_land, eo_lor, eo_lxor, eo_landn, eo_shl, eo_shr, dvs, flatS, SP.flat, ST.flat, List.map_cons, List.map_nil, List.append_nil, List.cons_append, List.nil_append, ltb_t, ltb_f, leb_t, leb_f, eqb_t, eqb_f, decide_eq_true_eq, decide_eq_false_iff_not, Bool.not_eq_true', Bool.not_eq_false', Bool.and_eq_true, Bool.and_eq_false_imp, beq_iff_eq, beq_eq_false_iff_ne, bne_iff_ne, U64, U32, I64, Big, W, wv, Told, s64, WT, PR, MR, MB, Int.zero_mul, Int.zero_add, Int.add_zero, Int.mul_zero, IntKind.wrap_u64, IntKind.wrap_i64, IntKind.wrap_u32, ne_eq, forall_const, true_implies, show T.rel 26 = R26 from rfl, R26, show T.rel 38 = R38 from rfl, R38, show T.pre 26 = Q26 from rfl, Q26, show T.pre 38 = Q38 from rfl, Q38]
  revert hp
  generalize (E.r 0).i 0 = b
  generalize (E.r 0).i 1 = h
  generalize (E.r 0).i 2 = l
  generalize (E.r 0).i 3 = w
  generalize (E.r 0).i 4 = n
  generalize (E.r 65542).c 0 = x6_0
  generalize (E.r 65542).l 1 = x6_1
  try simp only [mxI, mnI]
  try simp only [ltb, leb, eqb, Int.lt_irrefl, decide_false, Int.le_refl, decide_true]
  intro hp
  exact ⟨fun e => ⟨trivial, e.1, e.2, trivial, trivial⟩, fun n => n hp.1⟩
end Go.Proofs.YtafhkgicekddlaaGreatDoor.Fn
