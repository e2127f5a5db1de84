/- What is told of turnstone/turnstonelaw12.ClampWindows, shown. -/
import Derived.Test.YtafhkgicekddlaaGreatDoorTab
import Derived.Test.YtafhkgicekddlaaGreatDoorFm1
import Derived.Test.YtafhkgicekddlaaGreatDoorSyAwake5
namespace Go.Proofs.YtafhkgicekddlaaGreatDoor.Fn
open Go Go.RowKit Go.Proofs.YtafhkgicekddlaaGreatDoor.Sy
set_option linter.unusedVariables false
set_option linter.unusedSimpArgs false
set_option maxRecDepth 100000
open Go.Proofs.YtafhkgicekddlaaGreatDoor.Awake
def t5 : Tr :=
  .br (.f (.rel 20 [.num (.v 0 0), .num (.v 0 1)] 65542 [.int .i64, .bool]) <|
   .br (.f (.rel 21 [.num (.v 0 0), .num (.v 0 1)] 65550 [.bool, .list [.int .i64], .bool]) <|
    .br (.f (.is (.beq (.v 65542 1) (.v 65550 2)) true) <|
     .br (.f (.rel 23 [.num (.v 65542 0)] 65562 [.bool, .list [.int .i64]]) <|
      .br (.f (.rel 22 [.tru (.v 65562 0), .lst 65562 1, .tru (.v 65550 0), .lst 65550 1] 65564 [.int .i64]) <|
       .br (.f (.is (.eq (.v 65564 0) (.n 0)) true) <|
        .br (.f (.rel 24 [.num (.v 0 2), .num (.v 0 3), .num (.v 0 4)] 65570 [.int .i64]) <|
         .br (.f (.rel 23 [.num (.v 65570 0)] 65571 [.bool, .list [.int .i64]]) <|
          .br (.f (.rel 26 [.num (.v 0 2), .num (.v 0 3)] 65573 [.bool, .list [.int .i64]]) <|
           .br (.f (.rel 23 [.num (.v 0 4)] 65575 [.bool, .list [.int .i64]]) <|
            .br (.f (.rel 25 [.tru (.v 65573 0), .lst 65573 1, .tru (.v 65575 0), .lst 65575 1] 65576 [.bool, .list [.int .i64]]) <|
             .br (.f (.rel 22 [.tru (.v 65571 0), .lst 65571 1, .tru (.v 65576 0), .lst 65576 1] 65577 [.int .i64]) <|
              .ok [.tru (.eq (.v 65577 0) (.n 0))])
             (.f (.npre 22 [.tru (.v 65571 0), .lst 65571 1, .tru (.v 65576 0), .lst 65576 1]) <|
              .bad))
            (.f (.npre 25 [.tru (.v 65573 0), .lst 65573 1, .tru (.v 65575 0), .lst 65575 1]) <|
             .bad))
           (.f (.npre 23 [.num (.v 0 4)]) <|
            .bad))
          (.f (.npre 26 [.num (.v 0 2), .num (.v 0 3)]) <|
           .bad))
         (.f (.npre 23 [.num (.v 65570 0)]) <|
          .bad))
        (.f (.npre 24 [.num (.v 0 2), .num (.v 0 3), .num (.v 0 4)]) <|
         .bad))
       (.f (.is (.eq (.v 65564 0) (.n 0)) false) <|
        .ok [.tru (.lt (.n 0) (.n 0))]))
      (.f (.npre 22 [.tru (.v 65562 0), .lst 65562 1, .tru (.v 65550 0), .lst 65550 1]) <|
       .bad))
     (.f (.npre 23 [.num (.v 65542 0)]) <|
      .bad))
    (.f (.is (.beq (.v 65542 1) (.v 65550 2)) false) <|
     .ok [.tru (.lt (.n 0) (.n 0))]))
   (.f (.npre 21 [.num (.v 0 0), .num (.v 0 1)]) <|
    .bad))
  (.f (.npre 20 [.num (.v 0 0), .num (.v 0 1)]) <|
   .bad)
theorem c5 : ConS Tryz.prog T C5 := con_tr (cs := [C20, C21, C22, C23, C24, C25, C26]) (lcs := []) (known := [19, 56, 9, 43, 78, 99, 34, 67, 27, 64, 93, 109, 119, 108, 118, 129, 141, 159, 162, 158, 161, 170, 171]) (cons_cons c20 (cons_cons c21 (cons_cons c22 (cons_cons c23 (cons_cons c24 (cons_cons c25 (cons_cons c26 (cons_nil _ _)))))))) known19 (N := 400) (d := 40) (t := t5) (by kernel_rfl) <| by
  intro E hl hp
  clear hl
  have hp := hp rfl
  simp only [C5, show T.pre 5 = Q5 from rfl, flatS, SP.flat, dvs, List.append_nil, List.cons_append, List.nil_append, Q5, U64, U32, I64, Big, W, wv, s64, WT, PR, MR, MB] at hp
  simp only [t5, C5, Tr.good, Fact.den, LX.den, DX.ls, DV.ls, DX.den, Bx.den, Ex.den, eo_add, eo_sub, eo_mul, eo_quo, eo_rem, eo_fdv, eo_mn, eo_mx, eo_land, eo_lor, eo_lxor, eo_landn, eo_shl, eo_shr, dvs, flatS, SP.flat, ST.flat, List.map_cons, List.map_nil, List.append_nil, List.cons_append, List.nil_append, ltb_t, ltb_f, leb_t, leb_f, eqb_t, eqb_f, decide_eq_true_eq, decide_eq_false_iff_not, Bool.not_eq_true', Bool.not_eq_false', Bool.and_eq_true, Bool.and_eq_false_imp, beq_iff_eq, beq_eq_false_iff_ne, bne_iff_ne, U64, U32, I64, Big, W, wv, Told, s64, WT, PR, MR, MB, Int.zero_mul, Int.zero_add, Int.add_zero, Int.mul_zero, IntKind.wrap_u64, IntKind.wrap_i64, IntKind.wrap_u32, ne_eq, forall_const, true_implies, show T.rel 5 = R5 from rfl, R5, show T.rel 20 = R20 from rfl, R20, show T.rel 21 = R21 from rfl, R21, show T.rel 22 = R22 from rfl, R22, show T.rel 23 = R23 from rfl, R23, show T.rel 24 = R24 from rfl, R24, show T.rel 25 = R25 from rfl, R25, show T.rel 26 = R26 from rfl, R26, show T.pre 5 = Q5 from rfl, Q5, show T.pre 20 = Q20 from rfl, Q20, show T.pre 21 = Q21 from rfl, Q21, show T.pre 22 = Q22 from rfl, Q22, show T.pre 23 = Q23 from rfl, Q23, show T.pre 24 = Q24 from rfl, Q24, show T.pre 25 = Q25 from rfl, Q25, show T.pre 26 = Q26 from rfl, Q26]
  revert hp
  generalize (E.r 0).i 0 = s
  generalize (E.r 0).i 1 = t
  generalize (E.r 0).i 2 = h
  generalize (E.r 0).i 3 = l
  generalize (E.r 0).i 4 = w
  generalize (E.r 65542).i 0 = x6_0
  generalize (E.r 65542).c 1 = x6_1
  generalize (E.r 65550).c 0 = x14_0
  generalize (E.r 65550).l 1 = x14_1
  generalize (E.r 65550).c 2 = x14_2
  generalize (E.r 65562).c 0 = x26_0
  generalize (E.r 65562).l 1 = x26_1
  generalize (E.r 65564).i 0 = x28_0
  generalize (E.r 65570).i 0 = x34_0
  generalize (E.r 65571).c 0 = x35_0
  generalize (E.r 65571).l 1 = x35_1
  generalize (E.r 65573).c 0 = x37_0
  generalize (E.r 65573).l 1 = x37_1
  generalize (E.r 65575).c 0 = x39_0
  generalize (E.r 65575).l 1 = x39_1
  generalize (E.r 65576).c 0 = x40_0
  generalize (E.r 65576).l 1 = x40_1
  generalize (E.r 65577).i 0 = x41_0
  simp only [Bg]
  try generalize bval x14_0 x14_1 = y14_0
  try generalize bval x26_0 x26_1 = y26_0
  try generalize bval x35_0 x35_1 = y35_0
  try generalize bval x37_0 x37_1 = y37_0
  try generalize bval x39_0 x39_1 = y39_0
  try generalize bval x40_0 x40_1 = y40_0
  try simp only [mxI, mnI]
  try simp only [ltb, leb, eqb, Int.lt_irrefl, decide_false, Int.le_refl, decide_true]
  intro hp
  repeat' (first | assumption | (intro (h : _ ∧ _); obtain ⟨h1, h2⟩ := h; (first | (subst h1; revert h2) | revert h1 h2)) | (intro h; (first | subst h | skip)) | refine And.intro ?_ ?_)
  all_goals try (show False; refine absurd ?_ ‹¬ _›)
  all_goals repeat' (first | assumption | refine And.intro ?_ ?_)
  all_goals first | omega | grind
end Go.Proofs.YtafhkgicekddlaaGreatDoor.Fn
