/- What is told of turnstone/turnstonelaw13.SpanTells, shown. -/
import Derived.Test.YthlcpdjpnbbaeaaGreatDoorTab
import Derived.Test.YthlcpdjpnbbaeaaGreatDoorFm5
import Derived.Test.YthlcpdjpnbbaeaaGreatDoorSyAwake5
namespace Go.Proofs.YthlcpdjpnbbaeaaGreatDoor.Fn
open Go Go.RowKit Go.Proofs.YthlcpdjpnbbaeaaGreatDoor.Sy
set_option linter.unusedVariables false
set_option linter.unusedSimpArgs false
set_option maxRecDepth 100000
open Go.Proofs.YthlcpdjpnbbaeaaGreatDoor.Awake
def t7 : Tr :=
  .br (.f (.is (.lt (.n 40) (.len 0 1)) true) <|
   .ok [.tru (.le (.n 0) (.n 0))])
  (.f (.is (.lt (.n 40) (.len 0 1)) false) <|
   .br (.f (.rel 33 [.lst 0 1] 65543 [.int .u64, .bool]) <|
    .br (.f (.rel 35 [.lst 0 1] 65550 [.list [.int .u64, .int .u32, .int .u32, .int .i64, .int .u64, .int .u32, .int .u32]]) <|
     .br (.f (.rel 34 [.lst 65550 0] 65551 [.int .u64, .bool]) <|
      .br (.f (.rel 31 [.num (.v 0 0), .lst 0 1] 65559 [.bool]) <|
       .br (.f (.rel 35 [.lst 0 1] 65562 [.list [.int .u64, .int .u32, .int .u32, .int .i64, .int .u64, .int .u32, .int .u32]]) <|
        .br (.f (.rel 36 [.num (.v 0 0), .lst 65562 0] 65563 [.bool]) <|
         .br (.f (.is (.beq (.v 65559 0) (.v 65563 0)) true) <|
          .br (.f (.rel 30 [.num (.v 0 0), .lst 0 1] 65568 [.int .u64]) <|
           .br (.f (.rel 38 [.num (.v 65568 0)] 65569 [.bool, .list [.int .i64]]) <|
            .br (.f (.rel 35 [.lst 0 1] 65572 [.list [.int .u64, .int .u32, .int .u32, .int .i64, .int .u64, .int .u32, .int .u32]]) <|
             .br (.f (.rel 39 [.num (.v 0 0), .lst 65572 0] 65573 [.bool, .list [.int .i64]]) <|
              .br (.f (.rel 37 [.tru (.v 65569 0), .lst 65569 1, .tru (.v 65573 0), .lst 65573 1] 65574 [.int .i64]) <|
               .br (.f (.is (.eq (.v 65574 0) (.n 0)) true) <|
                .br (.f (.is (.eq (.v 65543 0) (.v 65551 0)) true) <|
                 .ok [.tru (.beq (.v 65543 1) (.v 65551 1))])
                (.f (.is (.eq (.v 65543 0) (.v 65551 0)) false) <|
                 .ok [.tru (.lt (.n 0) (.n 0))]))
               (.f (.is (.eq (.v 65574 0) (.n 0)) false) <|
                .ok [.tru (.lt (.n 0) (.n 0))]))
              (.f (.npre 37 [.tru (.v 65569 0), .lst 65569 1, .tru (.v 65573 0), .lst 65573 1]) <|
               .bad))
             (.f (.npre 39 [.num (.v 0 0), .lst 65572 0]) <|
              .bad))
            (.f (.npre 35 [.lst 0 1]) <|
             .bad))
           (.f (.npre 38 [.num (.v 65568 0)]) <|
            .bad))
          (.f (.npre 30 [.num (.v 0 0), .lst 0 1]) <|
           .bad))
         (.f (.is (.beq (.v 65559 0) (.v 65563 0)) false) <|
          .ok [.tru (.lt (.n 0) (.n 0))]))
        (.f (.npre 36 [.num (.v 0 0), .lst 65562 0]) <|
         .bad))
       (.f (.npre 35 [.lst 0 1]) <|
        .bad))
      (.f (.npre 31 [.num (.v 0 0), .lst 0 1]) <|
       .bad))
     (.f (.npre 34 [.lst 65550 0]) <|
      .bad))
    (.f (.npre 35 [.lst 0 1]) <|
     .bad))
   (.f (.npre 33 [.lst 0 1]) <|
    .bad))
theorem c7 : ConS Tryz.prog T C7 := con_tr (cs := [C30, C31, C33, C34, C35, C36, C37, C38, C39]) (lcs := []) (known := [29, 75, 22, 65, 104, 115, 19, 55, 9, 44, 85, 110, 120, 131, 140, 130, 139, 150, 161, 179, 182, 178, 181, 190, 191]) (cons_cons c30 (cons_cons c31 (cons_cons c33 (cons_cons c34 (cons_cons c35 (cons_cons c36 (cons_cons c37 (cons_cons c38 (cons_cons c39 (cons_nil _ _)))))))))) known29 (N := 400) (d := 40) (t := t7) (by kernel_rfl) <| by
  intro E hl hp
  have hl1 := hl 1 _ rfl
  clear hl
  have hp := hp rfl
  simp only [C7, show T.pre 7 = Q7 from rfl, flatS, SP.flat, dvs, List.append_nil, List.cons_append, List.nil_append, Q7, U64, U32, I64, Big, W, wv, s64, WT, PR, MR, MB] at hp
  simp only [t7, C7, Tr.good, Fact.den, LX.den, DX.ls, DV.ls, DX.den, Bx.den, Ex.den, eo_add, eo_sub, eo_mul, eo_quo, eo_rem, eo_fdv, eo_mn, eo_mx, eo_land, eo_lor, eo_lxor, eo_landn, eo_shl, eo_shr, dvs, flatS, SP.flat, ST.flat, List.map_cons, List.map_nil, List.append_nil, List.cons_append, List.nil_append, ltb_t, ltb_f, leb_t, leb_f, eqb_t, eqb_f, decide_eq_true_eq, decide_eq_false_iff_not, Bool.not_eq_true', Bool.not_eq_false', Bool.and_eq_true, Bool.and_eq_false_imp, beq_iff_eq, beq_eq_false_iff_ne, bne_iff_ne, U64, U32, I64, Big, W, wv, Told, s64, WT, PR, MR, MB, Int.zero_mul, Int.zero_add, Int.add_zero, Int.mul_zero, IntKind.wrap_u64, IntKind.wrap_i64, IntKind.wrap_u32, ne_eq, forall_const, true_implies, show T.rel 7 = R7 from rfl, R7, show T.rel 30 = R30 from rfl, R30, show T.rel 31 = R31 from rfl, R31, show T.rel 33 = R33 from rfl, R33, show T.rel 34 = R34 from rfl, R34, show T.rel 35 = R35 from rfl, R35, show T.rel 36 = R36 from rfl, R36, show T.rel 37 = R37 from rfl, R37, show T.rel 38 = R38 from rfl, R38, show T.rel 39 = R39 from rfl, R39, show T.pre 7 = Q7 from rfl, Q7, show T.pre 30 = Q30 from rfl, Q30, show T.pre 31 = Q31 from rfl, Q31, show T.pre 33 = Q33 from rfl, Q33, show T.pre 34 = Q34 from rfl, Q34, show T.pre 35 = Q35 from rfl, Q35, show T.pre 36 = Q36 from rfl, Q36, show T.pre 37 = Q37 from rfl, Q37, show T.pre 38 = Q38 from rfl, Q38, show T.pre 39 = Q39 from rfl, Q39]
  revert hp hl1
  generalize (E.r 0).i 0 = base
  generalize (E.r 0).l 1 = xs
  generalize (E.r 65543).i 0 = x7_0
  generalize (E.r 65543).c 1 = x7_1
  generalize (E.r 65550).l 0 = x14_0
  generalize (E.r 65551).i 0 = x15_0
  generalize (E.r 65551).c 1 = x15_1
  generalize (E.r 65559).c 0 = x23_0
  generalize (E.r 65562).l 0 = x26_0
  generalize (E.r 65563).c 0 = x27_0
  generalize (E.r 65568).i 0 = x32_0
  generalize (E.r 65569).c 0 = x33_0
  generalize (E.r 65569).l 1 = x33_1
  generalize (E.r 65572).l 0 = x36_0
  generalize (E.r 65573).c 0 = x37_0
  generalize (E.r 65573).l 1 = x37_1
  generalize (E.r 65574).i 0 = x38_0
  try simp only [Bg]
  try generalize bval x33_0 x33_1 = y33_0
  try generalize bval x37_0 x37_1 = y37_0
  try simp only [mxI, mnI]
  try simp only [ltb, leb, eqb, Int.lt_irrefl, decide_false, Int.le_refl, decide_true]
  intro hl hp
  have h := SPR_le base xs
  repeat' (first | assumption | (intro (h : _ ∧ _); obtain ⟨h1, h2⟩ := h; (first | (subst h1; revert h2) | revert h1 h2)) | (intro h; (first | subst h | skip)) | refine And.intro ?_ ?_)
  all_goals try (show False; refine absurd ?_ ‹¬ _›)
  all_goals repeat' (first | assumption | refine And.intro ?_ ?_)
  all_goals first | omega | grind
end Go.Proofs.YthlcpdjpnbbaeaaGreatDoor.Fn
