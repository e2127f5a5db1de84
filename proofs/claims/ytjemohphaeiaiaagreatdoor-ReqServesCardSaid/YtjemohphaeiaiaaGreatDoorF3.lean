/- What is told of turnstone/turnstonelaw15.ReqServes, shown. -/
import Derived.Test.YtjemohphaeiaiaaGreatDoorTab
import Derived.Test.YtjemohphaeiaiaaGreatDoorFm4
import Derived.Test.YtjemohphaeiaiaaGreatDoorSyAwake7
namespace Go.Proofs.YtjemohphaeiaiaaGreatDoor.Fn
open Go Go.RowKit Go.Proofs.YtjemohphaeiaiaaGreatDoor.Sy
set_option linter.unusedVariables false
set_option linter.unusedSimpArgs false
set_option maxRecDepth 100000
open Go.Proofs.YtjemohphaeiaiaaGreatDoor.Awake
def t3 : Tr :=
  .br (.f (.is (.lt (.n 100) (.len 0 11)) true) <|
   .ok [.tru (.le (.n 0) (.n 0))])
  (.f (.is (.lt (.n 100) (.len 0 11)) false) <|
   .br (.f (.rel 10 [.num (.v 0 0), .num (.v 0 1), .num (.v 0 2), .num (.v 0 3), .num (.v 0 4), .num (.v 0 5), .num (.v 0 6), .num (.v 0 7), .num (.v 0 8), .tru (.v 0 9), .num (.v 0 10)] 65545 [.int .u64, .int .u32, .int .u32, .int .i64, .int .u64, .int .u32, .int .u32, .int .u64, .int .u64, .bool, .bool, .bool]) <|
    .br (.f (.rel 12 [.num (.v 0 0), .num (.v 0 1), .num (.v 0 2), .num (.v 0 3), .num (.v 0 4), .num (.v 0 5), .num (.v 0 6), .num (.v 0 7), .num (.v 0 8), .tru (.v 0 9)] 65555 [.int .u64, .int .u32, .int .u32, .int .i64, .int .u64, .int .u32, .int .u32, .int .u64, .int .u64, .bool]) <|
     .br (.f (.rel 11 [.num (.v 65555 0), .num (.v 65555 1), .num (.v 65555 2), .num (.v 65555 3), .num (.v 65555 4), .num (.v 65555 5), .num (.v 65555 6), .num (.v 65555 7), .num (.v 65555 8), .tru (.v 65555 9), .num (.v 0 10)] 65557 [.int .u64, .int .u32, .int .u32, .int .i64, .int .u64, .int .u32, .int .u32, .int .u64, .int .u64, .bool, .bool, .bool]) <|
      .br (.f (.rel 13 [.num (.v 0 0), .num (.v 0 1), .num (.v 0 2), .num (.v 0 3), .num (.v 0 4), .num (.v 0 5), .num (.v 0 6), .num (.v 0 7), .num (.v 0 8), .tru (.v 0 9), .lst 0 11] 65568 [.int .u64, .int .u32, .int .u32, .int .i64, .int .u64, .int .u32, .int .u32, .int .u64, .int .u64, .bool, .int .i64, .bool]) <|
       .br (.f (.rel 12 [.num (.v 0 0), .num (.v 0 1), .num (.v 0 2), .num (.v 0 3), .num (.v 0 4), .num (.v 0 5), .num (.v 0 6), .num (.v 0 7), .num (.v 0 8), .tru (.v 0 9)] 65578 [.int .u64, .int .u32, .int .u32, .int .i64, .int .u64, .int .u32, .int .u32, .int .u64, .int .u64, .bool]) <|
        .br (.f (.rel 14 [.num (.v 65578 0), .num (.v 65578 1), .num (.v 65578 2), .num (.v 65578 3), .num (.v 65578 4), .num (.v 65578 5), .num (.v 65578 6), .num (.v 65578 7), .num (.v 65578 8), .tru (.v 65578 9), .lst 0 11] 65580 [.int .u64, .int .u32, .int .u32, .int .i64, .int .u64, .int .u32, .int .u32, .int .u64, .int .u64, .bool, .int .i64, .bool]) <|
         .br (.f (.rel 12 [.num (.v 65545 0), .num (.v 65545 1), .num (.v 65545 2), .num (.v 65545 3), .num (.v 65545 4), .num (.v 65545 5), .num (.v 65545 6), .num (.v 65545 7), .num (.v 65545 8), .tru (.v 65545 9)] 65590 [.int .u64, .int .u32, .int .u32, .int .i64, .int .u64, .int .u32, .int .u32, .int .u64, .int .u64, .bool]) <|
          .br (.f (.is (.and (.and (.and (.eq (.v 65590 0) (.v 65557 0)) (.and (.eq (.v 65590 1) (.v 65557 1)) (.and (.eq (.v 65590 2) (.v 65557 2)) (.le (.n 0) (.n 0))))) (.and (.eq (.v 65590 3) (.v 65557 3)) (.and (.and (.eq (.v 65590 4) (.v 65557 4)) (.and (.eq (.v 65590 5) (.v 65557 5)) (.and (.eq (.v 65590 6) (.v 65557 6)) (.le (.n 0) (.n 0))))) (.le (.n 0) (.n 0))))) (.and (.eq (.v 65590 7) (.v 65557 7)) (.and (.eq (.v 65590 8) (.v 65557 8)) (.and (.beq (.v 65590 9) (.v 65557 9)) (.le (.n 0) (.n 0)))))) true) <|
           .br (.f (.is (.beq (.v 65545 10) (.v 65557 10)) true) <|
            .br (.f (.is (.beq (.v 65545 11) (.v 65557 11)) true) <|
             .br (.f (.rel 12 [.num (.v 65568 0), .num (.v 65568 1), .num (.v 65568 2), .num (.v 65568 3), .num (.v 65568 4), .num (.v 65568 5), .num (.v 65568 6), .num (.v 65568 7), .num (.v 65568 8), .tru (.v 65568 9)] 65605 [.int .u64, .int .u32, .int .u32, .int .i64, .int .u64, .int .u32, .int .u32, .int .u64, .int .u64, .bool]) <|
              .br (.f (.is (.and (.and (.and (.eq (.v 65605 0) (.v 65580 0)) (.and (.eq (.v 65605 1) (.v 65580 1)) (.and (.eq (.v 65605 2) (.v 65580 2)) (.le (.n 0) (.n 0))))) (.and (.eq (.v 65605 3) (.v 65580 3)) (.and (.and (.eq (.v 65605 4) (.v 65580 4)) (.and (.eq (.v 65605 5) (.v 65580 5)) (.and (.eq (.v 65605 6) (.v 65580 6)) (.le (.n 0) (.n 0))))) (.le (.n 0) (.n 0))))) (.and (.eq (.v 65605 7) (.v 65580 7)) (.and (.eq (.v 65605 8) (.v 65580 8)) (.and (.beq (.v 65605 9) (.v 65580 9)) (.le (.n 0) (.n 0)))))) true) <|
               .br (.f (.is (.eq (.v 65568 10) (.v 65580 10)) true) <|
                .ok [.tru (.beq (.v 65568 11) (.v 65580 11))])
               (.f (.is (.eq (.v 65568 10) (.v 65580 10)) false) <|
                .ok [.tru (.lt (.n 0) (.n 0))]))
              (.f (.is (.and (.and (.and (.eq (.v 65605 0) (.v 65580 0)) (.and (.eq (.v 65605 1) (.v 65580 1)) (.and (.eq (.v 65605 2) (.v 65580 2)) (.le (.n 0) (.n 0))))) (.and (.eq (.v 65605 3) (.v 65580 3)) (.and (.and (.eq (.v 65605 4) (.v 65580 4)) (.and (.eq (.v 65605 5) (.v 65580 5)) (.and (.eq (.v 65605 6) (.v 65580 6)) (.le (.n 0) (.n 0))))) (.le (.n 0) (.n 0))))) (.and (.eq (.v 65605 7) (.v 65580 7)) (.and (.eq (.v 65605 8) (.v 65580 8)) (.and (.beq (.v 65605 9) (.v 65580 9)) (.le (.n 0) (.n 0)))))) false) <|
               .ok [.tru (.lt (.n 0) (.n 0))]))
             (.f (.npre 12 [.num (.v 65568 0), .num (.v 65568 1), .num (.v 65568 2), .num (.v 65568 3), .num (.v 65568 4), .num (.v 65568 5), .num (.v 65568 6), .num (.v 65568 7), .num (.v 65568 8), .tru (.v 65568 9)]) <|
              .bad))
            (.f (.is (.beq (.v 65545 11) (.v 65557 11)) false) <|
             .ok [.tru (.lt (.n 0) (.n 0))]))
           (.f (.is (.beq (.v 65545 10) (.v 65557 10)) false) <|
            .ok [.tru (.lt (.n 0) (.n 0))]))
          (.f (.is (.and (.and (.and (.eq (.v 65590 0) (.v 65557 0)) (.and (.eq (.v 65590 1) (.v 65557 1)) (.and (.eq (.v 65590 2) (.v 65557 2)) (.le (.n 0) (.n 0))))) (.and (.eq (.v 65590 3) (.v 65557 3)) (.and (.and (.eq (.v 65590 4) (.v 65557 4)) (.and (.eq (.v 65590 5) (.v 65557 5)) (.and (.eq (.v 65590 6) (.v 65557 6)) (.le (.n 0) (.n 0))))) (.le (.n 0) (.n 0))))) (.and (.eq (.v 65590 7) (.v 65557 7)) (.and (.eq (.v 65590 8) (.v 65557 8)) (.and (.beq (.v 65590 9) (.v 65557 9)) (.le (.n 0) (.n 0)))))) false) <|
           .ok [.tru (.lt (.n 0) (.n 0))]))
         (.f (.npre 12 [.num (.v 65545 0), .num (.v 65545 1), .num (.v 65545 2), .num (.v 65545 3), .num (.v 65545 4), .num (.v 65545 5), .num (.v 65545 6), .num (.v 65545 7), .num (.v 65545 8), .tru (.v 65545 9)]) <|
          .bad))
        (.f (.npre 14 [.num (.v 65578 0), .num (.v 65578 1), .num (.v 65578 2), .num (.v 65578 3), .num (.v 65578 4), .num (.v 65578 5), .num (.v 65578 6), .num (.v 65578 7), .num (.v 65578 8), .tru (.v 65578 9), .lst 0 11]) <|
         .bad))
       (.f (.npre 12 [.num (.v 0 0), .num (.v 0 1), .num (.v 0 2), .num (.v 0 3), .num (.v 0 4), .num (.v 0 5), .num (.v 0 6), .num (.v 0 7), .num (.v 0 8), .tru (.v 0 9)]) <|
        .bad))
      (.f (.npre 13 [.num (.v 0 0), .num (.v 0 1), .num (.v 0 2), .num (.v 0 3), .num (.v 0 4), .num (.v 0 5), .num (.v 0 6), .num (.v 0 7), .num (.v 0 8), .tru (.v 0 9), .lst 0 11]) <|
       .bad))
     (.f (.npre 11 [.num (.v 65555 0), .num (.v 65555 1), .num (.v 65555 2), .num (.v 65555 3), .num (.v 65555 4), .num (.v 65555 5), .num (.v 65555 6), .num (.v 65555 7), .num (.v 65555 8), .tru (.v 65555 9), .num (.v 0 10)]) <|
      .bad))
    (.f (.npre 12 [.num (.v 0 0), .num (.v 0 1), .num (.v 0 2), .num (.v 0 3), .num (.v 0 4), .num (.v 0 5), .num (.v 0 6), .num (.v 0 7), .num (.v 0 8), .tru (.v 0 9)]) <|
     .bad))
   (.f (.npre 10 [.num (.v 0 0), .num (.v 0 1), .num (.v 0 2), .num (.v 0 3), .num (.v 0 4), .num (.v 0 5), .num (.v 0 6), .num (.v 0 7), .num (.v 0 8), .tru (.v 0 9), .num (.v 0 10)]) <|
    .bad))
theorem c3 : ConS Tryz.prog T C3 := con_tr (cs := [C10, C11, C12, C13, C14]) (lcs := []) (known := [9, 28, 42, 61, 88, 105, 121, 130, 139, 145, 147, 149, 150, 152, 153, 154, 156, 162, 165, 161, 164, 170, 180, 192, 195, 191, 194, 203, 204]) (cons_cons c10 (cons_cons c11 (cons_cons c12 (cons_cons c13 (cons_cons c14 (cons_nil _ _)))))) known9 (N := 400) (d := 40) (t := t3) (by kernel_rfl) <| by
  intro E hl hp
  have hl11 := hl 11 _ rfl
  clear hl
  have hp := hp rfl
  simp only [C3, show T.pre 3 = Q3 from rfl, flatS, SP.flat, dvs, List.append_nil, List.cons_append, List.nil_append, Q3, U64, U32, I64, Big, W, wv, s64, MR, MB] at hp
  simp only [t3, C3, Tr.good, Fact.den, LX.den, DX.ls, DV.ls, DX.den, Bx.den, Ex.den, eo_add, eo_sub, eo_mul, eo_quo, eo_rem, eo_fdv, eo_mn, eo_mx, eo_land, eo_lor, eo_lxor, eo_landn, eo_shl, eo_shr, dvs, flatS, SP.flat, ST.flat, List.map_cons, List.map_nil, List.append_nil, List.cons_append, List.nil_append, ltb_t, ltb_f, leb_t, leb_f, eqb_t, eqb_f, decide_eq_true_eq, decide_eq_false_iff_not, Bool.not_eq_true', Bool.not_eq_false', Bool.and_eq_true, Bool.and_eq_false_imp, beq_iff_eq, beq_eq_false_iff_ne, bne_iff_ne, U64, U32, I64, Big, W, wv, Told, s64, MR, MB, Int.zero_mul, Int.zero_add, Int.add_zero, Int.mul_zero, IntKind.wrap_u64, IntKind.wrap_i64, IntKind.wrap_u32, ne_eq, forall_const, true_implies, show T.rel 3 = R3 from rfl, R3, show T.rel 10 = R10 from rfl, R10, show T.rel 11 = R11 from rfl, R11, show T.rel 12 = R12 from rfl, R12, show T.rel 13 = R13 from rfl, R13, show T.rel 14 = R14 from rfl, R14, show T.pre 3 = Q3 from rfl, Q3, show T.pre 10 = Q10 from rfl, Q10, show T.pre 11 = Q11 from rfl, Q11, show T.pre 12 = Q12 from rfl, Q12, show T.pre 13 = Q13 from rfl, Q13, show T.pre 14 = Q14 from rfl, Q14]
  revert hp hl11
  generalize (E.r 0).i 0 = t
  generalize (E.r 0).i 1 = r
  generalize (E.r 0).i 2 = w
  generalize (E.r 0).i 3 = id
  generalize (E.r 0).i 4 = dt
  generalize (E.r 0).i 5 = dr
  generalize (E.r 0).i 6 = dw
  generalize (E.r 0).i 7 = l
  generalize (E.r 0).i 8 = s
  generalize (E.r 0).c 9 = a
  generalize (E.r 0).i 10 = x
  generalize (E.r 0).l 11 = xs
  generalize (E.r 65545).i 0 = x9_0
  generalize (E.r 65545).i 1 = x9_1
  generalize (E.r 65545).i 2 = x9_2
  generalize (E.r 65545).i 3 = x9_3
  generalize (E.r 65545).i 4 = x9_4
  generalize (E.r 65545).i 5 = x9_5
  generalize (E.r 65545).i 6 = x9_6
  generalize (E.r 65545).i 7 = x9_7
  generalize (E.r 65545).i 8 = x9_8
  generalize (E.r 65545).c 9 = x9_9
  generalize (E.r 65545).c 10 = x9_10
  generalize (E.r 65545).c 11 = x9_11
  generalize (E.r 65555).i 0 = x19_0
  generalize (E.r 65555).i 1 = x19_1
  generalize (E.r 65555).i 2 = x19_2
  generalize (E.r 65555).i 3 = x19_3
  generalize (E.r 65555).i 4 = x19_4
  generalize (E.r 65555).i 5 = x19_5
  generalize (E.r 65555).i 6 = x19_6
  generalize (E.r 65555).i 7 = x19_7
  generalize (E.r 65555).i 8 = x19_8
  generalize (E.r 65555).c 9 = x19_9
  generalize (E.r 65557).i 0 = x21_0
  generalize (E.r 65557).i 1 = x21_1
  generalize (E.r 65557).i 2 = x21_2
  generalize (E.r 65557).i 3 = x21_3
  generalize (E.r 65557).i 4 = x21_4
  generalize (E.r 65557).i 5 = x21_5
  generalize (E.r 65557).i 6 = x21_6
  generalize (E.r 65557).i 7 = x21_7
  generalize (E.r 65557).i 8 = x21_8
  generalize (E.r 65557).c 9 = x21_9
  generalize (E.r 65557).c 10 = x21_10
  generalize (E.r 65557).c 11 = x21_11
  generalize (E.r 65568).i 0 = x32_0
  generalize (E.r 65568).i 1 = x32_1
  generalize (E.r 65568).i 2 = x32_2
  generalize (E.r 65568).i 3 = x32_3
  generalize (E.r 65568).i 4 = x32_4
  generalize (E.r 65568).i 5 = x32_5
  generalize (E.r 65568).i 6 = x32_6
  generalize (E.r 65568).i 7 = x32_7
  generalize (E.r 65568).i 8 = x32_8
  generalize (E.r 65568).c 9 = x32_9
  generalize (E.r 65568).i 10 = x32_10
  generalize (E.r 65568).c 11 = x32_11
  generalize (E.r 65578).i 0 = x42_0
  generalize (E.r 65578).i 1 = x42_1
  generalize (E.r 65578).i 2 = x42_2
  generalize (E.r 65578).i 3 = x42_3
  generalize (E.r 65578).i 4 = x42_4
  generalize (E.r 65578).i 5 = x42_5
  generalize (E.r 65578).i 6 = x42_6
  generalize (E.r 65578).i 7 = x42_7
  generalize (E.r 65578).i 8 = x42_8
  generalize (E.r 65578).c 9 = x42_9
  generalize (E.r 65580).i 0 = x44_0
  generalize (E.r 65580).i 1 = x44_1
  generalize (E.r 65580).i 2 = x44_2
  generalize (E.r 65580).i 3 = x44_3
  generalize (E.r 65580).i 4 = x44_4
  generalize (E.r 65580).i 5 = x44_5
  generalize (E.r 65580).i 6 = x44_6
  generalize (E.r 65580).i 7 = x44_7
  generalize (E.r 65580).i 8 = x44_8
  generalize (E.r 65580).c 9 = x44_9
  generalize (E.r 65580).i 10 = x44_10
  generalize (E.r 65580).c 11 = x44_11
  generalize (E.r 65590).i 0 = x54_0
  generalize (E.r 65590).i 1 = x54_1
  generalize (E.r 65590).i 2 = x54_2
  generalize (E.r 65590).i 3 = x54_3
  generalize (E.r 65590).i 4 = x54_4
  generalize (E.r 65590).i 5 = x54_5
  generalize (E.r 65590).i 6 = x54_6
  generalize (E.r 65590).i 7 = x54_7
  generalize (E.r 65590).i 8 = x54_8
  generalize (E.r 65590).c 9 = x54_9
  generalize (E.r 65605).i 0 = x69_0
  generalize (E.r 65605).i 1 = x69_1
  generalize (E.r 65605).i 2 = x69_2
  generalize (E.r 65605).i 3 = x69_3
  generalize (E.r 65605).i 4 = x69_4
  generalize (E.r 65605).i 5 = x69_5
  generalize (E.r 65605).i 6 = x69_6
  generalize (E.r 65605).i 7 = x69_7
  generalize (E.r 65605).i 8 = x69_8
  generalize (E.r 65605).c 9 = x69_9
  try simp only [mxI, mnI]
  try simp only [ltb, leb, eqb, Int.lt_irrefl, decide_false, Int.le_refl, decide_true]
  intro hl hp
  obtain ⟨p1, p2, p3, p4, p5, p6, p7, p8, p9, p10⟩ := hp
  refine ⟨fun _ => trivial, fun c => ⟨fun A => ⟨fun e19 => ⟨fun B => ⟨fun C => ⟨fun e42 => ⟨fun D => ?_, fun n => n ?_⟩, fun n => n ⟨p1, p2, p3, p4, p5, p6⟩⟩, fun n => n ⟨p1, p2, p3, p4, p5, p6, p7, p8, p10, by omega⟩⟩, fun n => n ?_⟩, fun n => n ⟨p1, p2, p3, p4, p5, p6⟩⟩, fun n => n ⟨p1, p2, p3, p4, p5, p6, p9, p7⟩⟩⟩
  all_goals obtain ⟨g0, g1, g2, g3, g4, g5, g6, g7, g8, g9⟩ := e19
  rotate_left
  · obtain ⟨k0, k1, k2, k3, k4, k5, k6, k7, k8, k9⟩ := e42
    rw [k0, k1, k2, k4, k5, k6, k7, k8]
    exact ⟨p1, p2, p3, p4, p5, p6, p7, p8, p10, by omega⟩
  · rw [g0, g1, g2, g4, g5, g6, g7]
    exact ⟨p1, p2, p3, p4, p5, p6, p9, p7⟩
  obtain ⟨k0, k1, k2, k3, k4, k5, k6, k7, k8, k9⟩ := e42
  rw [g0, g1, g2, g3, g4, g5, g6, g7, g8, g9] at B
  rw [k0, k1, k2, k3, k4, k5, k6, k7, k8, k9] at D
  obtain ⟨q1, q2, q3, q4, q5, q6, q7, _, _⟩ := SRV.kinds p1 p2 p8 A
  obtain ⟨r1, r2, r3, r4, r5, r6, r7⟩ := SVD.kinds ⟨p1, p2, p3, p4, p5, p6, p7, p8⟩ C
  obtain ⟨rfl, rfl, rfl, rfl, rfl, rfl, rfl, rfl, rfl, rfl, rfl, rfl⟩ := SRV.eq A B
  obtain ⟨rfl, rfl, rfl, rfl, rfl, rfl, rfl, rfl, rfl, rfl, rfl, rfl⟩ := SVD.eq C D
  clear A B C D g0 g1 g2 g3 g4 g5 g6 g7 g8 g9 k0 k1 k2 k3 k4 k5 k6 k7 k8 k9
  repeat' (first | assumption | (intro (h : _ ∧ _); obtain ⟨h1, h2⟩ := h; (first | (subst h1; revert h2) | revert h1 h2)) | (intro h; (first | subst h | skip)) | refine And.intro ?_ ?_)
  all_goals try (show False; refine absurd ?_ ‹¬ _›)
  all_goals repeat' (first | assumption | refine And.intro ?_ ?_)
  all_goals first | omega | grind
end Go.Proofs.YtjemohphaeiaiaaGreatDoor.Fn
