/- What is told of the functions, shown: turnstone/turnstoneref10.Place. -/
import Derived.Test.YthlcpdjpnbbaeaaGreatDoorFm3
namespace Go.Proofs.YthlcpdjpnbbaeaaGreatDoor.Fn
open Go Go.RowKit Go.Proofs.YthlcpdjpnbbaeaaGreatDoor.Sy
set_option linter.unusedVariables false
set_option linter.unusedSimpArgs false
set_option maxRecDepth 100000
def t21 : Tr :=
  .br (.f (.rel 47 [.num (.v 0 0), .tru (.v 0 1), .lst 0 2, .num (.v 0 3), .num (.v 0 4)] 65540 [.bool]) <|
   .br (.f (.is (.v 65540 0) false) <|
    .ok [.num (.n 0), .num (.n 0), .num (.n 0), .tru (.lt (.n 0) (.n 0))])
   (.f (.is (.v 65540 0) true) <|
    .br (.f (.is (.lt (.v 0 6) (.n 1)) true) <|
     .ok [.num (.n 0), .num (.n 0), .num (.n 0), .tru (.lt (.n 0) (.n 0))])
    (.f (.is (.lt (.v 0 6) (.n 1)) false) <|
     .br (.f (.is (.lt (.n 1048576) (.v 0 6)) true) <|
      .ok [.num (.n 0), .num (.n 0), .num (.n 0), .tru (.lt (.n 0) (.n 0))])
     (.f (.is (.lt (.n 1048576) (.v 0 6)) false) <|
      .br (.f (.is (.eq (.v 0 4) (.n 0)) true) <|
       .ok [.num (.v 0 5), .num (.n 0), .num (.v 0 6), .tru (.le (.n 0) (.n 0))])
      (.f (.is (.eq (.v 0 4) (.n 0)) false) <|
       .br (.f (.rel 38 [.num (.wrap .u64 (.v 0 6))] 65557 [.bool, .list [.int .i64]]) <|
        .br (.f (.rel 49 [.tru (.v 0 1), .lst 0 2, .tru (.v 65557 0), .lst 65557 1] 65558 [.bool, .list [.int .i64]]) <|
         .br (.f (.rel 61 [.num (.v 0 7)] 65562 [.bool, .list [.int .i64]]) <|
          .br (.f (.rel 38 [.num (.wrap .u64 (.bin .add (.v 0 3) (.wrap .u64 (.v 0 6))))] 65568 [.bool, .list [.int .i64]]) <|
           .br (.f (.rel 49 [.tru (.v 65562 0), .lst 65562 1, .tru (.v 65568 0), .lst 65568 1] 65569 [.bool, .list [.int .i64]]) <|
            .br (.f (.rel 51 [.tru (.v 65558 0), .lst 65558 1, .tru (.v 65569 0), .lst 65569 1] 65574 [.bool, .list [.int .i64]]) <|
             .br (.f (.rel 52 [.tru (.v 65558 0), .lst 65558 1] 65578 [.bool]) <|
              .br (.f (.is (.v 65578 0) false) <|
               .ok [.num (.n 0), .num (.n 0), .num (.n 0), .tru (.lt (.n 0) (.n 0))])
              (.f (.is (.v 65578 0) true) <|
               .br (.f (.rel 52 [.tru (.v 65569 0), .lst 65569 1] 65582 [.bool]) <|
                .br (.f (.is (.v 65582 0) false) <|
                 .ok [.num (.n 0), .num (.n 0), .num (.n 0), .tru (.lt (.n 0) (.n 0))])
                (.f (.is (.v 65582 0) true) <|
                 .br (.f (.rel 52 [.tru (.v 65574 0), .lst 65574 1] 65587 [.bool]) <|
                  .br (.f (.is (.v 65587 0) false) <|
                   .ok [.num (.n 0), .num (.n 0), .num (.n 0), .tru (.lt (.n 0) (.n 0))])
                  (.f (.is (.v 65587 0) true) <|
                   .br (.f (.rel 62 [.tru (.v 65574 0), .lst 65574 1, .num (.wrap .i64 (.v 0 3))] 65594 [.bool, .list [.int .i64], .int .i64]) <|
                    .br (.f (.rel 63 [.num (.v 0 0), .tru (.v 65594 0), .lst 65594 1, .num (.v 0 6)] 65605 [.int .u64, .int .u32, .int .u32, .bool]) <|
                     .ok [.num (.v 65605 0), .num (.v 65605 1), .num (.v 65605 2), .tru (.v 65605 3)])
                    (.f (.npre 63 [.num (.v 0 0), .tru (.v 65594 0), .lst 65594 1, .num (.v 0 6)]) <|
                     .bad))
                   (.f (.npre 62 [.tru (.v 65574 0), .lst 65574 1, .num (.wrap .i64 (.v 0 3))]) <|
                    .bad)))
                 (.f (.npre 52 [.tru (.v 65574 0), .lst 65574 1]) <|
                  .bad)))
               (.f (.npre 52 [.tru (.v 65569 0), .lst 65569 1]) <|
                .bad)))
             (.f (.npre 52 [.tru (.v 65558 0), .lst 65558 1]) <|
              .bad))
            (.f (.npre 51 [.tru (.v 65558 0), .lst 65558 1, .tru (.v 65569 0), .lst 65569 1]) <|
             .bad))
           (.f (.npre 49 [.tru (.v 65562 0), .lst 65562 1, .tru (.v 65568 0), .lst 65568 1]) <|
            .bad))
          (.f (.npre 38 [.num (.wrap .u64 (.bin .add (.v 0 3) (.wrap .u64 (.v 0 6))))]) <|
           .bad))
         (.f (.npre 61 [.num (.v 0 7)]) <|
          .bad))
        (.f (.npre 49 [.tru (.v 0 1), .lst 0 2, .tru (.v 65557 0), .lst 65557 1]) <|
         .bad))
       (.f (.npre 38 [.num (.wrap .u64 (.v 0 6))]) <|
        .bad))))))
  (.f (.npre 47 [.num (.v 0 0), .tru (.v 0 1), .lst 0 2, .num (.v 0 3), .num (.v 0 4)]) <|
   .bad)
theorem c21 : ConS Tryz.prog T C21 := con_tr (cs := [C38, C47, C49, C51, C52, C61, C62, C63]) (lcs := []) (known := []) (cons_cons c38 (cons_cons c47 (cons_cons c49 (cons_cons c51 (cons_cons c52 (cons_cons c61 (cons_cons c62 (cons_cons c63 (cons_nil _ _))))))))) (Known.nil _) (N := 400) (d := 40) (t := t21) (by kernel_rfl) <| by
  intro E hl hp
  have hl2 := hl 2 _ rfl
  clear hl
  have hp := hp rfl
  simp only [C21, show T.pre 21 = Q21 from rfl, flatS, SP.flat, dvs, List.append_nil, List.cons_append, List.nil_append, Q21, U64, U32, I64, Big, W, wv, s64, WT, PR, MR, MB] at hp
  simp only [t21, C21, Tr.good, Fact.den, LX.den, DX.ls, DV.ls, DX.den, Bx.den, Ex.den, eo_add, eo_sub, eo_mul, eo_quo, eo_rem, eo_fdv, eo_mn, eo_mx, eo_land, eo_lor, eo_lxor, eo_landn, eo_shl, eo_shr, dvs, flatS, SP.flat, ST.flat, List.map_cons, List.map_nil, List.append_nil, List.cons_append, List.nil_append, ltb_t, ltb_f, leb_t, leb_f, eqb_t, eqb_f, decide_eq_true_eq, decide_eq_false_iff_not, Bool.not_eq_true', Bool.not_eq_false', Bool.and_eq_true, Bool.and_eq_false_imp, beq_iff_eq, beq_eq_false_iff_ne, bne_iff_ne, U64, U32, I64, Big, W, wv, Told, s64, WT, PR, MR, MB, Int.zero_mul, Int.zero_add, Int.add_zero, Int.mul_zero, IntKind.wrap_u64, IntKind.wrap_i64, IntKind.wrap_u32, ne_eq, forall_const, true_implies, show T.rel 21 = R21 from rfl, R21, show T.rel 38 = R38 from rfl, R38, show T.rel 47 = R47 from rfl, R47, show T.rel 49 = R49 from rfl, R49, show T.rel 51 = R51 from rfl, R51, show T.rel 52 = R52 from rfl, R52, show T.rel 61 = R61 from rfl, R61, show T.rel 62 = R62 from rfl, R62, show T.rel 63 = R63 from rfl, R63, show T.pre 21 = Q21 from rfl, Q21, show T.pre 38 = Q38 from rfl, Q38, show T.pre 47 = Q47 from rfl, Q47, show T.pre 49 = Q49 from rfl, Q49, show T.pre 51 = Q51 from rfl, Q51, show T.pre 52 = Q52 from rfl, Q52, show T.pre 61 = Q61 from rfl, Q61, show T.pre 62 = Q62 from rfl, Q62, show T.pre 63 = Q63 from rfl, Q63]
  revert hp hl2
  generalize (E.r 0).i 0 = b
  generalize (E.r 0).c 1 = an
  generalize (E.r 0).l 2 = al
  generalize (E.r 0).i 3 = w
  generalize (E.r 0).i 4 = n
  generalize (E.r 0).i 5 = c
  generalize (E.r 0).i 6 = x
  generalize (E.r 0).i 7 = g
  generalize (E.r 65540).c 0 = x4_0
  generalize (E.r 65557).c 0 = x21_0
  generalize (E.r 65557).l 1 = x21_1
  generalize (E.r 65558).c 0 = x22_0
  generalize (E.r 65558).l 1 = x22_1
  generalize (E.r 65562).c 0 = x26_0
  generalize (E.r 65562).l 1 = x26_1
  generalize (E.r 65568).c 0 = x32_0
  generalize (E.r 65568).l 1 = x32_1
  generalize (E.r 65569).c 0 = x33_0
  generalize (E.r 65569).l 1 = x33_1
  generalize (E.r 65574).c 0 = x38_0
  generalize (E.r 65574).l 1 = x38_1
  generalize (E.r 65578).c 0 = x42_0
  generalize (E.r 65582).c 0 = x46_0
  generalize (E.r 65587).c 0 = x51_0
  generalize (E.r 65594).c 0 = x58_0
  generalize (E.r 65594).l 1 = x58_1
  generalize (E.r 65594).i 2 = x58_2
  generalize (E.r 65605).i 0 = x69_0
  generalize (E.r 65605).i 1 = x69_1
  generalize (E.r 65605).i 2 = x69_2
  generalize (E.r 65605).c 3 = x69_3
  simp only [Bg]
  try generalize bval an al = an_v
  try generalize bval x21_0 x21_1 = y21_0
  try generalize bval x22_0 x22_1 = y22_0
  try generalize bval x26_0 x26_1 = y26_0
  try generalize bval x32_0 x32_1 = y32_0
  try generalize bval x33_0 x33_1 = y33_0
  try generalize bval x38_0 x38_1 = y38_0
  try generalize bval x58_0 x58_1 = y58_0
  try simp only [mxI, mnI]
  try simp only [ltb, leb, eqb, Int.lt_irrefl, decide_false, Int.le_refl, decide_true]
  intro hl hp
  by_cases hM : Mq an_v w n
  case neg => exact ⟨fun e => ⟨fun c1 => ⟨⟨fun f => f.elim, fun f => absurd f.1 hM⟩, fun f => f.elim, fun _ => ⟨trivial, trivial, trivial⟩⟩, fun c1 => absurd (e.1 c1) hM⟩, fun n => n ⟨hp.1, by omega, by omega, by omega⟩⟩
  have hw : 0 ≤ w ∧ w ≤ 33554432 ∧ (¬ n = 0 → ¬ w = 0) := by simp only [Mq, MB] at hM; omega
  have hA : -170141183460469231731687303715884105728 ≤ an_v ∧ an_v < 170141183460469231731687303715884105728 := hp.2.1
  have e1 : x % 18446744073709551616 = x := by omega
  have e2 : (w + x) % 18446744073709551616 = w + x := by omega
  have e3 : (w + 9223372036854775808) % 18446744073709551616 - 9223372036854775808 = w := by omega
  have p1 := mul_le2 (a := an_v) (b := x) (X := 170141183460469231731687303715884105728) (Y := 4294967296) (by omega) (by omega) (by omega) (by omega)
  have p2 := mul_le2 (a := g) (b := w + x) (X := 9223372036854775808) (Y := 8589934592) (by omega) (by omega) (by omega) (by omega)
  have qb : ¬ n = 0 → -1000000000000000000000000000000000000000000000000000000000000000000000000000000000000000000000000 < (an_v * x - g * (w + x)) / w ∧ (an_v * x - g * (w + x)) / w < 1000000000000000000000000000000000000000000000000000000000000000000000000000000000000000000000000 := by
    intro h
    have a : -999999999999999999999999999999999999999999999999999999999999999999999999999999999999999999999999 ≤ (an_v * x - g * (w + x)) / w := by apply Int.le_ediv_of_mul_le (by omega); omega
    exact ⟨by omega, by apply Int.ediv_lt_of_lt_mul (by omega); omega⟩
  simp only [e1, e2, e3, hM, true_and, iff_true]
  clear hM e1 e2 e3
  obtain ⟨hb0, hb1, hb2⟩ := hp
  repeat' (first | assumption | (intro (h : _ ∧ _); obtain ⟨h1, h2⟩ := h; (first | (subst h1; revert h2) | revert h1 h2)) | (intro h; (first | subst h | skip)) | refine And.intro ?_ ?_)
  all_goals try (show False; refine absurd ?_ ‹¬ _›)
  all_goals repeat' (first | assumption | refine And.intro ?_ ?_)
  all_goals first | omega | grind
end Go.Proofs.YthlcpdjpnbbaeaaGreatDoor.Fn
