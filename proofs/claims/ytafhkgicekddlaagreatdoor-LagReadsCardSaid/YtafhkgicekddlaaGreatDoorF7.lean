/- What is told of turnstone/turnstonelaw09.LagReads, shown. -/
import Derived.Test.YtafhkgicekddlaaGreatDoorTab
import Derived.Test.YtafhkgicekddlaaGreatDoorFm4
import Derived.Test.YtafhkgicekddlaaGreatDoorSyAwake5
namespace Go.Proofs.YtafhkgicekddlaaGreatDoor.Fn
open Go Go.RowKit Go.Proofs.YtafhkgicekddlaaGreatDoor.Sy
set_option linter.unusedVariables false
set_option linter.unusedSimpArgs false
set_option maxRecDepth 100000
open Go.Proofs.YtafhkgicekddlaaGreatDoor.Awake
def t7 : Tr :=
  .br (.f (.is (.lt (.v 0 4) (.n 0)) true) <|
   .br (.f (.rel 35 [.num (.v 0 0), .num (.v 0 1), .num (.v 0 2), .num (.v 0 3), .num (.v 0 4), .num (.v 0 5), .num (.v 0 6), .num (.v 0 7)] 65551 [.bool]) <|
    .ok [.tru (.not (.v 65551 0))])
   (.f (.npre 35 [.num (.v 0 0), .num (.v 0 1), .num (.v 0 2), .num (.v 0 3), .num (.v 0 4), .num (.v 0 5), .num (.v 0 6), .num (.v 0 7)]) <|
    .bad))
  (.f (.is (.lt (.v 0 4) (.n 0)) false) <|
   .br (.f (.is (.lt (.n 1000) (.v 0 4)) true) <|
    .br (.f (.rel 35 [.num (.v 0 0), .num (.v 0 1), .num (.v 0 2), .num (.v 0 3), .num (.v 0 4), .num (.v 0 5), .num (.v 0 6), .num (.v 0 7)] 65551 [.bool]) <|
     .ok [.tru (.not (.v 65551 0))])
    (.f (.npre 35 [.num (.v 0 0), .num (.v 0 1), .num (.v 0 2), .num (.v 0 3), .num (.v 0 4), .num (.v 0 5), .num (.v 0 6), .num (.v 0 7)]) <|
     .bad))
   (.f (.is (.lt (.n 1000) (.v 0 4)) false) <|
    .br (.f (.rel 36 [.num (.v 0 0), .num (.v 0 1), .num (.v 0 2), .num (.v 0 3), .num (.v 0 4), .num (.v 0 5), .num (.v 0 6), .num (.v 0 7)] 65551 [.int .i64, .bool]) <|
     .br (.f (.rel 15 [.num (.v 0 0), .num (.v 0 1), .num (.v 0 2), .num (.v 0 3), .num (.v 0 4), .num (.v 0 5), .num (.v 0 6), .num (.v 0 7)] 65559 [.int .i64, .int .u64, .bool]) <|
      .br (.f (.rel 38 [.num (.v 0 0), .num (.v 0 1), .num (.v 0 2), .num (.v 0 3), .num (.v 0 4)] 65567 [.int .u64, .bool, .list [.int .i64], .int .u64, .int .i64]) <|
       .br (.f (.rel 28 [.num (.v 0 5), .num (.v 0 6), .num (.v 0 7)] 65569 [.int .u64, .int .u32, .int .u32]) <|
        .br (.f (.rel 37 [.num (.v 65567 0), .tru (.v 65567 1), .lst 65567 2, .num (.v 65567 3), .num (.v 65567 4), .num (.v 65569 0), .num (.v 65569 1), .num (.v 65569 2)] 65570 [.bool, .list [.int .i64], .bool]) <|
         .br (.f (.rel 38 [.num (.v 0 0), .num (.v 0 1), .num (.v 0 2), .num (.v 0 3), .num (.v 0 4)] 65578 [.int .u64, .bool, .list [.int .i64], .int .u64, .int .i64]) <|
          .br (.f (.rel 28 [.num (.v 0 5), .num (.v 0 6), .num (.v 0 7)] 65580 [.int .u64, .int .u32, .int .u32]) <|
           .br (.f (.rel 39 [.num (.v 65578 0), .tru (.v 65578 1), .lst 65578 2, .num (.v 65578 3), .num (.v 65578 4), .num (.v 65580 0), .num (.v 65580 1), .num (.v 65580 2)] 65581 [.bool, .list [.int .i64], .bool]) <|
            .br (.f (.is (.beq (.v 65551 1) (.v 65570 2)) true) <|
             .br (.f (.is (.beq (.v 65559 2) (.v 65570 2)) true) <|
              .br (.f (.rel 40 [.tru (.v 65570 0), .lst 65570 1] 65599 [.int .i64]) <|
               .br (.f (.is (.eq (.v 65551 0) (.v 65599 0)) true) <|
                .br (.f (.rel 41 [.num (.v 65559 0), .num (.v 65559 1), .tru (.v 65581 0), .lst 65581 1] 65605 [.bool]) <|
                 .br (.f (.is (.v 65605 0) true) <|
                  .br (.f (.rel 35 [.num (.v 0 0), .num (.v 0 1), .num (.v 0 2), .num (.v 0 3), .num (.v 0 4), .num (.v 0 5), .num (.v 0 6), .num (.v 0 7)] 65610 [.bool]) <|
                   .br (.f (.is (.v 65570 2) true) <|
                    .br (.f (.rel 40 [.tru (.v 65570 0), .lst 65570 1] 65614 [.int .i64]) <|
                     .ok [.tru (.beq (.v 65610 0) (.le (.n 0) (.v 65614 0)))])
                    (.f (.npre 40 [.tru (.v 65570 0), .lst 65570 1]) <|
                     .bad))
                   (.f (.is (.v 65570 2) false) <|
                    .ok [.tru (.beq (.v 65610 0) (.lt (.n 0) (.n 0)))]))
                  (.f (.npre 35 [.num (.v 0 0), .num (.v 0 1), .num (.v 0 2), .num (.v 0 3), .num (.v 0 4), .num (.v 0 5), .num (.v 0 6), .num (.v 0 7)]) <|
                   .bad))
                 (.f (.is (.v 65605 0) false) <|
                  .ok [.tru (.lt (.n 0) (.n 0))]))
                (.f (.npre 41 [.num (.v 65559 0), .num (.v 65559 1), .tru (.v 65581 0), .lst 65581 1]) <|
                 .bad))
               (.f (.is (.eq (.v 65551 0) (.v 65599 0)) false) <|
                .ok [.tru (.lt (.n 0) (.n 0))]))
              (.f (.npre 40 [.tru (.v 65570 0), .lst 65570 1]) <|
               .bad))
             (.f (.is (.beq (.v 65559 2) (.v 65570 2)) false) <|
              .ok [.tru (.lt (.n 0) (.n 0))]))
            (.f (.is (.beq (.v 65551 1) (.v 65570 2)) false) <|
             .ok [.tru (.lt (.n 0) (.n 0))]))
           (.f (.npre 39 [.num (.v 65578 0), .tru (.v 65578 1), .lst 65578 2, .num (.v 65578 3), .num (.v 65578 4), .num (.v 65580 0), .num (.v 65580 1), .num (.v 65580 2)]) <|
            .bad))
          (.f (.npre 28 [.num (.v 0 5), .num (.v 0 6), .num (.v 0 7)]) <|
           .bad))
         (.f (.npre 38 [.num (.v 0 0), .num (.v 0 1), .num (.v 0 2), .num (.v 0 3), .num (.v 0 4)]) <|
          .bad))
        (.f (.npre 37 [.num (.v 65567 0), .tru (.v 65567 1), .lst 65567 2, .num (.v 65567 3), .num (.v 65567 4), .num (.v 65569 0), .num (.v 65569 1), .num (.v 65569 2)]) <|
         .bad))
       (.f (.npre 28 [.num (.v 0 5), .num (.v 0 6), .num (.v 0 7)]) <|
        .bad))
      (.f (.npre 38 [.num (.v 0 0), .num (.v 0 1), .num (.v 0 2), .num (.v 0 3), .num (.v 0 4)]) <|
       .bad))
     (.f (.npre 15 [.num (.v 0 0), .num (.v 0 1), .num (.v 0 2), .num (.v 0 3), .num (.v 0 4), .num (.v 0 5), .num (.v 0 6), .num (.v 0 7)]) <|
      .bad))
    (.f (.npre 36 [.num (.v 0 0), .num (.v 0 1), .num (.v 0 2), .num (.v 0 3), .num (.v 0 4), .num (.v 0 5), .num (.v 0 6), .num (.v 0 7)]) <|
     .bad)))
theorem c7 : ConS Tryz.prog T C7 := con_tr (cs := [C15, C28, C35, C36, C37, C38, C39, C40, C41]) (lcs := []) (known := [19, 56, 9, 43, 78, 99, 34, 67, 27, 64, 93, 109, 119, 108, 118, 129, 141, 159, 162, 158, 161, 170, 171]) (cons_cons c15 (cons_cons c28 (cons_cons c35 (cons_cons c36 (cons_cons c37 (cons_cons c38 (cons_cons c39 (cons_cons c40 (cons_cons c41 (cons_nil _ _)))))))))) known19 (N := 400) (d := 40) (t := t7) (by kernel_rfl) <| by
  intro E hl hp
  clear hl
  have hp := hp rfl
  simp only [C7, show T.pre 7 = Q7 from rfl, flatS, SP.flat, dvs, List.append_nil, List.cons_append, List.nil_append, Q7, U64, U32, I64, s64, WT, MB] at hp
  simp only [t7, C7, Tr.good, Fact.den, LX.den, DX.ls, DV.ls, DX.den, Bx.den, Ex.den, eo_add, eo_sub, eo_mul, eo_quo, eo_rem, eo_fdv, eo_mn, eo_mx, eo_land, eo_lor, eo_lxor, eo_landn, eo_shl, eo_shr, dvs, flatS, SP.flat, ST.flat, List.map_cons, List.map_nil, List.append_nil, List.cons_append, List.nil_append, ltb_t, ltb_f, leb_t, leb_f, eqb_t, eqb_f, decide_eq_true_eq, decide_eq_false_iff_not, Bool.not_eq_true', Bool.not_eq_false', Bool.and_eq_true, Bool.and_eq_false_imp, beq_iff_eq, beq_eq_false_iff_ne, bne_iff_ne, U64, U32, I64, Told, s64, WT, MB, Int.zero_mul, Int.zero_add, Int.add_zero, Int.mul_zero, IntKind.wrap_u64, IntKind.wrap_i64, IntKind.wrap_u32, ne_eq, forall_const, true_implies, show T.rel 7 = R7 from rfl, R7, show T.rel 15 = R15 from rfl, R15, show T.rel 28 = R28 from rfl, R28, show T.rel 35 = R35 from rfl, R35, show T.rel 36 = R36 from rfl, R36, show T.rel 37 = R37 from rfl, R37, show T.rel 38 = R38 from rfl, R38, show T.rel 39 = R39 from rfl, R39, show T.rel 40 = R40 from rfl, R40, show T.rel 41 = R41 from rfl, R41, show T.pre 7 = Q7 from rfl, Q7, show T.pre 15 = Q15 from rfl, Q15, show T.pre 28 = Q28 from rfl, Q28, show T.pre 35 = Q35 from rfl, Q35, show T.pre 36 = Q36 from rfl, Q36, show T.pre 37 = Q37 from rfl, Q37, show T.pre 38 = Q38 from rfl, Q38, show T.pre 39 = Q39 from rfl, Q39, show T.pre 40 = Q40 from rfl, Q40, show T.pre 41 = Q41 from rfl, Q41]
  revert hp
  generalize (E.r 0).i 0 = b
  generalize (E.r 0).i 1 = h
  generalize (E.r 0).i 2 = l
  generalize (E.r 0).i 3 = w
  generalize (E.r 0).i 4 = n
  generalize (E.r 0).i 5 = t
  generalize (E.r 0).i 6 = r
  generalize (E.r 0).i 7 = v
  generalize (E.r 65551).i 0 = x15_0
  generalize (E.r 65551).c 0 = x15_0c
  generalize (E.r 65551).c 1 = x15_1
  generalize (E.r 65559).i 0 = x23_0
  generalize (E.r 65559).i 1 = x23_1
  generalize (E.r 65559).c 2 = x23_2
  generalize (E.r 65567).i 0 = x31_0
  generalize (E.r 65567).c 1 = x31_1
  generalize (E.r 65567).l 2 = x31_2
  generalize (E.r 65567).i 3 = x31_3
  generalize (E.r 65567).i 4 = x31_4
  generalize (E.r 65569).i 0 = x33_0
  generalize (E.r 65569).i 1 = x33_1
  generalize (E.r 65569).i 2 = x33_2
  generalize (E.r 65570).c 0 = x34_0
  generalize (E.r 65570).l 1 = x34_1
  generalize (E.r 65570).c 2 = x34_2
  generalize (E.r 65578).i 0 = x42_0
  generalize (E.r 65578).c 1 = x42_1
  generalize (E.r 65578).l 2 = x42_2
  generalize (E.r 65578).i 3 = x42_3
  generalize (E.r 65578).i 4 = x42_4
  generalize (E.r 65580).i 0 = x44_0
  generalize (E.r 65580).i 1 = x44_1
  generalize (E.r 65580).i 2 = x44_2
  generalize (E.r 65581).c 0 = x45_0
  generalize (E.r 65581).l 1 = x45_1
  generalize (E.r 65581).c 2 = x45_2
  generalize (E.r 65599).i 0 = x63_0
  generalize (E.r 65605).c 0 = x69_0
  generalize (E.r 65610).c 0 = x74_0
  generalize (E.r 65614).i 0 = x78_0
  simp only [Bg]
  try generalize bval x31_1 x31_2 = y31_1
  try generalize bval x34_0 x34_1 = y34_0
  try generalize bval x42_1 x42_2 = y42_1
  try generalize bval x45_0 x45_1 = y45_0
  try simp only [mxI, mnI]
  try simp only [ltb, leb, eqb, Int.lt_irrefl, decide_false, Int.le_refl, decide_true]
  intro hp
  have hM := Mq_eq (w := w) (n := n) hp.1
  have hB : Big (wv h l) := by have := hp.1; simp only [W] at this; simp only [Big, wv]; omega
  have hR : MR h l w n → 0 ≤ n ∧ n ≤ 32 := by simp only [MR]; omega
  repeat' (first | assumption | (intro (h : _ ∧ _); obtain ⟨h1, h2⟩ := h; (first | subst h1 | skip); revert h2) | (intro h; (first | subst h | skip)) | refine And.intro ?_ ?_)
  all_goals try (show False; refine absurd ?_ ‹¬ _›)
  all_goals repeat' (first | assumption | refine And.intro ?_ ?_)
  all_goals simp only [Bi_eq, Pq_eq, hM] at *
  all_goals first
    | (cases hc : x15_0c with
       | false => rfl
       | true => exact absurd (hR (h.1 hc).1) (by omega))
    | omega
    | grind
end Go.Proofs.YtafhkgicekddlaaGreatDoor.Fn
