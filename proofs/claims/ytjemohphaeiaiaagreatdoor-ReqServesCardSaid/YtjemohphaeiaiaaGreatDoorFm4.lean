/- What is told of the functions, shown: turnstone/turnstoneref05.Right, turnstone/turnstoneref15.may, turnstone/turnstoneref15.Right, turnstone/turnstoneref15.Set, turnstone/turnstoneref15.Serve, turnstone/turnstonelaw04.Of, turnstone/turnstonelaw05.Of, turnstone/turnstonelaw15.Of, turnstone/req.Served, turnstone/turnstoneref15.Served. -/
import Derived.Test.YtjemohphaeiaiaaGreatDoorFm3
namespace Go.Proofs.YtjemohphaeiaiaaGreatDoor.Fn
open Go Go.RowKit Go.Proofs.YtjemohphaeiaiaaGreatDoor.Sy
set_option linter.unusedVariables false
set_option linter.unusedSimpArgs false
set_option maxRecDepth 100000
def t40 : Tr :=
  .br (.f (.rel 52 [.num (.v 0 4), .num (.v 0 0)] 65544 [.bool, .list [.int .i64]]) <|
   .f (.rel 53 [.num (.v 0 0), .num (.v 0 1), .num (.v 0 2)] 65549 [.bool]) <|
    .br (.f (.is (.v 65549 0) true) <|
     .f (.rel 53 [.num (.v 0 4), .num (.v 0 5), .num (.v 0 6)] 65553 [.bool]) <|
      .br (.f (.is (.v 65553 0) true) <|
       .br (.f (.is (.eq (.v 0 2) (.v 0 6)) true) <|
        .br (.f (.is (.lt (.n 0) (.v 0 3)) true) <|
         .br (.f (.rel 54 [.tru (.v 65544 0), .lst 65544 1] 65571 [.int .i64]) <|
          .br (.f (.is (.le (.n 0) (.v 65571 0)) true) <|
           .br (.f (.rel 56 [.num (.n 60)] 65576 [.bool, .list [.int .i64]]) <|
            .br (.f (.rel 55 [.tru (.v 65544 0), .lst 65544 1, .tru (.v 65576 0), .lst 65576 1] 65577 [.int .i64]) <|
             .ok [.tru (.le (.v 65577 0) (.n 0))])
            (.f (.npre 55 [.tru (.v 65544 0), .lst 65544 1, .tru (.v 65576 0), .lst 65576 1]) <|
             .bad))
           (.f (.npre 56 [.num (.n 60)]) <|
            .bad))
          (.f (.is (.le (.n 0) (.v 65571 0)) false) <|
           .ok [.tru (.lt (.n 0) (.n 0))]))
         (.f (.npre 54 [.tru (.v 65544 0), .lst 65544 1]) <|
          .bad))
        (.f (.is (.lt (.n 0) (.v 0 3)) false) <|
         .ok [.tru (.lt (.n 0) (.n 0))]))
       (.f (.is (.eq (.v 0 2) (.v 0 6)) false) <|
        .ok [.tru (.lt (.n 0) (.n 0))]))
      (.f (.is (.v 65553 0) false) <|
       .ok [.tru (.lt (.n 0) (.n 0))]))
    (.f (.is (.v 65549 0) false) <|
     .ok [.tru (.lt (.n 0) (.n 0))]))
  (.f (.npre 52 [.num (.v 0 4), .num (.v 0 0)]) <|
   .bad)
theorem c40 : ConS Tryz.prog T C40 := con_tr (cs := [C52, C53, C54, C55, C56]) (lcs := []) (known := []) (cons_cons c52 (cons_cons c53 (cons_cons c54 (cons_cons c55 (cons_cons c56 (cons_nil _ _)))))) (Known.nil _) (N := 400) (d := 40) (t := t40) (by kernel_rfl) <| by
  intro E hl hp
  clear hl
  have hp := hp rfl
  simp only [C40, show T.pre 40 = Q40 from rfl, flatS, SP.flat, dvs, List.append_nil, List.cons_append, List.nil_append, Q40, U64, U32, I64, Big, W, wv, s64, WT, PR, MR, MB] at hp
  simp only [t40, C40, Tr.good, Fact.den, LX.den, DX.ls, DV.ls, DX.den, Bx.den, Ex.den, eo_add, eo_sub, eo_mul, eo_quo, eo_rem, eo_fdv, eo_mn, eo_mx, eo_land, eo_lor, eo_lxor, eo_landn, eo_shl, eo_shr, dvs, flatS, SP.flat, ST.flat, List.map_cons, List.map_nil, List.append_nil, List.cons_append, List.nil_append, ltb_t, ltb_f, leb_t, leb_f, eqb_t, eqb_f, decide_eq_true_eq, decide_eq_false_iff_not, Bool.not_eq_true', Bool.not_eq_false', Bool.and_eq_true, Bool.and_eq_false_imp, beq_iff_eq, beq_eq_false_iff_ne, bne_iff_ne, U64, U32, I64, Big, W, wv, Told, s64, WT, PR, MR, MB, Int.zero_mul, Int.zero_add, Int.add_zero, Int.mul_zero, IntKind.wrap_u64, IntKind.wrap_i64, IntKind.wrap_u32, ne_eq, forall_const, true_implies, show T.rel 40 = R40 from rfl, R40, show T.rel 52 = R52 from rfl, R52, show T.rel 53 = R53 from rfl, R53, show T.rel 54 = R54 from rfl, R54, show T.rel 55 = R55 from rfl, R55, show T.rel 56 = R56 from rfl, R56, show T.pre 40 = Q40 from rfl, Q40, show T.pre 52 = Q52 from rfl, Q52, show T.pre 54 = Q54 from rfl, Q54, show T.pre 55 = Q55 from rfl, Q55, show T.pre 56 = Q56 from rfl, Q56]
  revert hp
  generalize (E.r 0).i 0 = t
  generalize (E.r 0).i 1 = r
  generalize (E.r 0).i 2 = w
  generalize (E.r 0).i 3 = id
  generalize (E.r 0).i 4 = dt
  generalize (E.r 0).i 5 = dr
  generalize (E.r 0).i 6 = dw
  generalize (E.r 65544).c 0 = x8_0
  generalize (E.r 65544).l 1 = x8_1
  generalize (E.r 65549).c 0 = x13_0
  generalize (E.r 65553).c 0 = x17_0
  generalize (E.r 65571).i 0 = x35_0
  generalize (E.r 65576).c 0 = x40_0
  generalize (E.r 65576).l 1 = x40_1
  generalize (E.r 65577).i 0 = x41_0
  try simp only [Bg]
  try generalize bval x8_0 x8_1 = y8_0
  try generalize bval x40_0 x40_1 = y40_0
  try simp only [mxI, mnI]
  try simp only [ltb, leb, eqb, Int.lt_irrefl, decide_false, Int.le_refl, decide_true]
  intro hp
  simp only [Pq]
  rw [show (2 : Int) ^ (Int.toNat 60) = 1152921504606846976 from rfl]
  repeat' (first | assumption | (intro (h : _ ∧ _); obtain ⟨h1, h2⟩ := h; (first | (subst h1; revert h2) | revert h1 h2)) | (intro h; (first | subst h | skip)) | refine And.intro ?_ ?_)
  all_goals try (show False; refine absurd ?_ ‹¬ _›)
  all_goals repeat' (first | assumption | refine And.intro ?_ ?_)
  all_goals first | omega | grind
end Go.Proofs.YtjemohphaeiaiaaGreatDoor.Fn
namespace Go.Proofs.YtjemohphaeiaiaaGreatDoor.Fn
open Go Go.RowKit Go.Proofs.YtjemohphaeiaiaaGreatDoor.Sy
set_option linter.unusedVariables false
set_option linter.unusedSimpArgs false
set_option maxRecDepth 100000
def t41 : Tr :=
  .br (.f (.is (.le (.n 1) (.v 0 0)) true) <|
   .ok [.tru (.le (.v 0 0) (.n 1099511627776))])
  (.f (.is (.le (.n 1) (.v 0 0)) false) <|
   .ok [.tru (.lt (.n 0) (.n 0))])
theorem c41 : ConS Tryz.prog T C41 := con_tr (cs := []) (lcs := []) (known := []) (cons_nil _ _) (Known.nil _) (N := 400) (d := 40) (t := t41) (by kernel_rfl) <| by
  intro E hl hp
  clear hl
  clear hp
  simp only [t41, C41, Tr.good, Fact.den, LX.den, DX.ls, DV.ls, DX.den, Bx.den, Ex.den, eo_add, eo_sub, eo_mul, eo_quo, eo_rem, eo_fdv, eo_mn, eo_mx, eo_land, eo_lor, eo_lxor, eo_landn, eo_shl, eo_shr, dvs, flatS, SP.flat, ST.flat, List.map_cons, List.map_nil, List.append_nil, List.cons_append, List.nil_append, ltb_t, ltb_f, leb_t, leb_f, eqb_t, eqb_f, decide_eq_true_eq, decide_eq_false_iff_not, Bool.not_eq_true', Bool.not_eq_false', Bool.and_eq_true, Bool.and_eq_false_imp, beq_iff_eq, beq_eq_false_iff_ne, bne_iff_ne, U64, U32, I64, Big, W, wv, Told, s64, WT, PR, MR, MB, Int.zero_mul, Int.zero_add, Int.add_zero, Int.mul_zero, IntKind.wrap_u64, IntKind.wrap_i64, IntKind.wrap_u32, ne_eq, forall_const, true_implies, show T.rel 41 = R41 from rfl, R41]
  generalize (E.r 0).i 0 = ns
  try simp only [mxI, mnI]
  try simp only [ltb, leb, eqb, Int.lt_irrefl, decide_false, Int.le_refl, decide_true]
  simp only [NS]
  repeat' (first | intro _ | refine And.intro ?_ ?_ | refine Iff.intro ?_ ?_)
  all_goals first | omega | (simp_all; done) | (simp_all; omega)
end Go.Proofs.YtjemohphaeiaiaaGreatDoor.Fn
namespace Go.Proofs.YtjemohphaeiaiaaGreatDoor.Fn
open Go Go.RowKit Go.Proofs.YtjemohphaeiaiaaGreatDoor.Sy
set_option linter.unusedVariables false
set_option linter.unusedSimpArgs false
set_option maxRecDepth 100000
def t27 : Tr :=
  .br (.f (.rel 30 [.num (.v 0 0), .num (.v 0 1), .num (.v 0 2), .num (.v 0 7)] 65543 [.int .u64, .int .u32, .int .u32, .bool]) <|
   .br (.f (.rel 40 [.num (.v 0 0), .num (.v 0 1), .num (.v 0 2), .num (.v 0 3), .num (.v 0 4), .num (.v 0 5), .num (.v 0 6)] 65552 [.bool]) <|
    .br (.f (.is (.v 65552 0) true) <|
     .f (.rel 41 [.num (.v 0 7)] 65556 [.bool]) <|
      .br (.f (.is (.v 65556 0) true) <|
       .f (.rel 41 [.num (.v 0 8)] 65561 [.bool]) <|
        .br (.f (.is (.v 65561 0) true) <|
         .br (.f (.is (.v 65543 3) true) <|
          .ok [.tru (.and (.eq (.v 65543 0) (.v 0 4)) (.and (.eq (.v 65543 1) (.v 0 5)) (.and (.eq (.v 65543 2) (.v 0 6)) (.le (.n 0) (.n 0)))))])
         (.f (.is (.v 65543 3) false) <|
          .ok [.tru (.lt (.n 0) (.n 0))]))
        (.f (.is (.v 65561 0) false) <|
         .ok [.tru (.lt (.n 0) (.n 0))]))
      (.f (.is (.v 65556 0) false) <|
       .ok [.tru (.lt (.n 0) (.n 0))]))
    (.f (.is (.v 65552 0) false) <|
     .ok [.tru (.lt (.n 0) (.n 0))]))
   (.f (.npre 40 [.num (.v 0 0), .num (.v 0 1), .num (.v 0 2), .num (.v 0 3), .num (.v 0 4), .num (.v 0 5), .num (.v 0 6)]) <|
    .bad))
  (.f (.npre 30 [.num (.v 0 0), .num (.v 0 1), .num (.v 0 2), .num (.v 0 7)]) <|
   .bad)
theorem c27 : ConS Tryz.prog T C27 := con_tr (cs := [C30, C40, C41]) (lcs := []) (known := []) (cons_cons c30 (cons_cons c40 (cons_cons c41 (cons_nil _ _)))) (Known.nil _) (N := 400) (d := 40) (t := t27) (by kernel_rfl) <| by
  intro E hl hp
  clear hl
  have hp := hp rfl
  simp only [C27, show T.pre 27 = Q27 from rfl, flatS, SP.flat, dvs, List.append_nil, List.cons_append, List.nil_append, Q27, U64, U32, I64, Big, W, wv, s64, MR, MB] at hp
  simp only [t27, C27, Tr.good, Fact.den, LX.den, DX.ls, DV.ls, DX.den, Bx.den, Ex.den, eo_add, eo_sub, eo_mul, eo_quo, eo_rem, eo_fdv, eo_mn, eo_mx, eo_land, eo_lor, eo_lxor, eo_landn, eo_shl, eo_shr, dvs, flatS, SP.flat, ST.flat, List.map_cons, List.map_nil, List.append_nil, List.cons_append, List.nil_append, ltb_t, ltb_f, leb_t, leb_f, eqb_t, eqb_f, decide_eq_true_eq, decide_eq_false_iff_not, Bool.not_eq_true', Bool.not_eq_false', Bool.and_eq_true, Bool.and_eq_false_imp, beq_iff_eq, beq_eq_false_iff_ne, bne_iff_ne, U64, U32, I64, Big, W, wv, Told, s64, MR, MB, Int.zero_mul, Int.zero_add, Int.add_zero, Int.mul_zero, IntKind.wrap_u64, IntKind.wrap_i64, IntKind.wrap_u32, ne_eq, forall_const, true_implies, show T.rel 27 = R27 from rfl, R27, show T.rel 30 = R30 from rfl, R30, show T.rel 40 = R40 from rfl, R40, show T.rel 41 = R41 from rfl, R41, show T.pre 27 = Q27 from rfl, Q27, show T.pre 30 = Q30 from rfl, Q30, show T.pre 40 = Q40 from rfl, Q40]
  revert hp
  generalize (E.r 0).i 0 = t
  generalize (E.r 0).i 1 = r
  generalize (E.r 0).i 2 = w
  generalize (E.r 0).i 3 = id
  generalize (E.r 0).i 4 = dt
  generalize (E.r 0).i 5 = dr
  generalize (E.r 0).i 6 = dw
  generalize (E.r 0).i 7 = l
  generalize (E.r 0).i 8 = s
  generalize (E.r 0).c 9 = a
  generalize (E.r 65543).i 0 = x7_0
  generalize (E.r 65543).i 1 = x7_1
  generalize (E.r 65543).i 2 = x7_2
  generalize (E.r 65543).c 3 = x7_3
  generalize (E.r 65552).c 0 = x16_0
  generalize (E.r 65556).c 0 = x20_0
  generalize (E.r 65561).c 0 = x25_0
  try simp only [Bg]
  try simp only [mxI, mnI]
  try simp only [ltb, leb, eqb, Int.lt_irrefl, decide_false, Int.le_refl, decide_true]
  intro hp
  simp only [RQ]
  have d := due_right (t := t) (r := r) (w := w) (l := l) hp.1 hp.2.1.1
  have wt : PR r w → WT w := fun h => ⟨h.1, h.2.1⟩
  simp only [s64] at d
  repeat' (first | assumption | (intro (h : _ ∧ _); obtain ⟨h1, h2⟩ := h; (first | (subst h1; revert h2) | revert h1 h2)) | (intro h; (first | subst h | skip)) | refine And.intro ?_ ?_)
  all_goals try (show False; refine absurd ?_ ‹¬ _›)
  all_goals repeat' (first | assumption | refine And.intro ?_ ?_)
  all_goals first | omega | grind
end Go.Proofs.YtjemohphaeiaiaaGreatDoor.Fn
namespace Go.Proofs.YtjemohphaeiaiaaGreatDoor.Fn
open Go Go.RowKit Go.Proofs.YtjemohphaeiaiaaGreatDoor.Sy
set_option linter.unusedVariables false
set_option linter.unusedSimpArgs false
set_option maxRecDepth 100000
def t31 : Tr :=
  .br (.f (.rel 30 [.num (.v 0 0), .num (.v 0 1), .num (.v 0 2), .num (.v 0 7)] 65544 [.int .u64, .int .u32, .int .u32, .bool]) <|
   .br (.f (.rel 27 [.num (.v 0 0), .num (.v 0 1), .num (.v 0 2), .num (.v 0 3), .num (.v 65544 0), .num (.v 65544 1), .num (.v 65544 2), .num (.v 0 7), .num (.v 0 8), .tru (.v 0 9)] 65552 [.bool]) <|
    .br (.f (.is (.v 65552 0) false) <|
     .ok [.num (.n 0), .num (.n 0), .num (.n 0), .num (.n 0), .num (.n 0), .num (.n 0), .num (.n 0), .num (.n 0), .num (.n 0), .tru (.lt (.n 0) (.n 0)), .tru (.lt (.n 0) (.n 0))])
    (.f (.is (.v 65552 0) true) <|
     .ok [.num (.v 0 0), .num (.v 0 1), .num (.v 0 2), .num (.v 0 3), .num (.v 65544 0), .num (.v 65544 1), .num (.v 65544 2), .num (.v 0 7), .num (.v 0 8), .tru (.v 0 9), .tru (.le (.n 0) (.n 0))]))
   (.f (.npre 27 [.num (.v 0 0), .num (.v 0 1), .num (.v 0 2), .num (.v 0 3), .num (.v 65544 0), .num (.v 65544 1), .num (.v 65544 2), .num (.v 0 7), .num (.v 0 8), .tru (.v 0 9)]) <|
    .bad))
  (.f (.npre 30 [.num (.v 0 0), .num (.v 0 1), .num (.v 0 2), .num (.v 0 7)]) <|
   .bad)
theorem c31 : ConS Tryz.prog T C31 := con_tr (cs := [C27, C30]) (lcs := []) (known := []) (cons_cons c27 (cons_cons c30 (cons_nil _ _))) (Known.nil _) (N := 400) (d := 40) (t := t31) (by kernel_rfl) <| by
  intro E hl hp
  clear hl
  have hp := hp rfl
  simp only [C31, show T.pre 31 = Q31 from rfl, flatS, SP.flat, dvs, List.append_nil, List.cons_append, List.nil_append, Q31, U64, U32, I64, Big, W, wv, s64, MR, MB] at hp
  simp only [t31, C31, Tr.good, Fact.den, LX.den, DX.ls, DV.ls, DX.den, Bx.den, Ex.den, eo_add, eo_sub, eo_mul, eo_quo, eo_rem, eo_fdv, eo_mn, eo_mx, eo_land, eo_lor, eo_lxor, eo_landn, eo_shl, eo_shr, dvs, flatS, SP.flat, ST.flat, List.map_cons, List.map_nil, List.append_nil, List.cons_append, List.nil_append, ltb_t, ltb_f, leb_t, leb_f, eqb_t, eqb_f, decide_eq_true_eq, decide_eq_false_iff_not, Bool.not_eq_true', Bool.not_eq_false', Bool.and_eq_true, Bool.and_eq_false_imp, beq_iff_eq, beq_eq_false_iff_ne, bne_iff_ne, U64, U32, I64, Big, W, wv, Told, s64, MR, MB, Int.zero_mul, Int.zero_add, Int.add_zero, Int.mul_zero, IntKind.wrap_u64, IntKind.wrap_i64, IntKind.wrap_u32, ne_eq, forall_const, true_implies, show T.rel 27 = R27 from rfl, R27, show T.rel 30 = R30 from rfl, R30, show T.rel 31 = R31 from rfl, R31, show T.pre 27 = Q27 from rfl, Q27, show T.pre 30 = Q30 from rfl, Q30, show T.pre 31 = Q31 from rfl, Q31]
  revert hp
  generalize (E.r 0).i 0 = t
  generalize (E.r 0).i 1 = r
  generalize (E.r 0).i 2 = w
  generalize (E.r 0).i 3 = id
  generalize (E.r 0).i 4 = dt
  generalize (E.r 0).i 5 = dr
  generalize (E.r 0).i 6 = dw
  generalize (E.r 0).i 7 = l
  generalize (E.r 0).i 8 = s
  generalize (E.r 0).c 9 = a
  generalize (E.r 65544).i 0 = x8_0
  generalize (E.r 65544).i 1 = x8_1
  generalize (E.r 65544).i 2 = x8_2
  generalize (E.r 65544).c 3 = x8_3
  generalize (E.r 65552).c 0 = x16_0
  try simp only [mxI, mnI]
  try simp only [ltb, leb, eqb, Int.lt_irrefl, decide_false, Int.le_refl, decide_true]
  intro hp
  simp only [RQ]
  have d := due_right (t := t) (r := r) (w := w) (l := l) hp.1 hp.2.1.1
  have wt : PR r w → WT w := fun h => ⟨h.1, h.2.1⟩
  simp only [s64] at d
  have mu := mvt_u t r w l
  have ru := fun h : WT w => mvr_u r l h
  repeat' (first | assumption | (intro (h : _ ∧ _); obtain ⟨h1, h2⟩ := h; (first | (subst h1; revert h2) | revert h1 h2)) | (intro h; (first | subst h | skip)) | refine And.intro ?_ ?_)
  all_goals try (show False; refine absurd ?_ ‹¬ _›)
  all_goals repeat' (first | assumption | refine And.intro ?_ ?_)
  all_goals first | omega | grind
end Go.Proofs.YtjemohphaeiaiaaGreatDoor.Fn
namespace Go.Proofs.YtjemohphaeiaiaaGreatDoor.Fn
open Go Go.RowKit Go.Proofs.YtjemohphaeiaiaaGreatDoor.Sy
set_option linter.unusedVariables false
set_option linter.unusedSimpArgs false
set_option maxRecDepth 100000
set_option maxHeartbeats 8000000
def t11 : Tr :=
  .br (.f (.rel 27 [.num (.v 0 0), .num (.v 0 1), .num (.v 0 2), .num (.v 0 3), .num (.v 0 4), .num (.v 0 5), .num (.v 0 6), .num (.v 0 7), .num (.v 0 8), .tru (.v 0 9)] 65541 [.bool]) <|
   .br (.f (.is (.v 65541 0) false) <|
    .ok [.num (.n 0), .num (.n 0), .num (.n 0), .num (.n 0), .num (.n 0), .num (.n 0), .num (.n 0), .num (.n 0), .num (.n 0), .tru (.lt (.n 0) (.n 0)), .tru (.lt (.n 0) (.n 0)), .tru (.lt (.n 0) (.n 0))])
   (.f (.is (.v 65541 0) true) <|
    .br (.f (.is (.lt (.v 0 10) (.n 1)) true) <|
     .ok [.num (.n 0), .num (.n 0), .num (.n 0), .num (.n 0), .num (.n 0), .num (.n 0), .num (.n 0), .num (.n 0), .num (.n 0), .tru (.lt (.n 0) (.n 0)), .tru (.lt (.n 0) (.n 0)), .tru (.lt (.n 0) (.n 0))])
    (.f (.is (.lt (.v 0 10) (.n 1)) false) <|
     .br (.f (.is (.lt (.v 0 7) (.v 0 10)) true) <|
      .ok [.num (.n 0), .num (.n 0), .num (.n 0), .num (.n 0), .num (.n 0), .num (.n 0), .num (.n 0), .num (.n 0), .num (.n 0), .tru (.lt (.n 0) (.n 0)), .tru (.lt (.n 0) (.n 0)), .tru (.lt (.n 0) (.n 0))])
     (.f (.is (.lt (.v 0 7) (.v 0 10)) false) <|
      .br (.f (.rel 30 [.num (.v 0 0), .num (.v 0 1), .num (.v 0 2), .num (.v 0 10)] 65557 [.int .u64, .int .u32, .int .u32, .bool]) <|
       .br (.f (.is (.v 65557 3) false) <|
        .ok [.num (.n 0), .num (.n 0), .num (.n 0), .num (.n 0), .num (.n 0), .num (.n 0), .num (.n 0), .num (.n 0), .num (.n 0), .tru (.lt (.n 0) (.n 0)), .tru (.lt (.n 0) (.n 0)), .tru (.lt (.n 0) (.n 0))])
       (.f (.is (.v 65557 3) true) <|
        .br (.f (.is (.eq (.wrap .u64 (.bin .sub (.v 0 7) (.v 0 10))) (.n 0)) true) <|
         .br (.f (.rel 31 [.num (.v 65557 0), .num (.v 65557 1), .num (.v 65557 2), .num (.v 0 3), .num (.v 0 4), .num (.v 0 5), .num (.v 0 6), .num (.v 0 8), .num (.v 0 8), .tru (.v 0 9)] 65586 [.int .u64, .int .u32, .int .u32, .int .i64, .int .u64, .int .u32, .int .u32, .int .u64, .int .u64, .bool, .bool]) <|
          .ok [.num (.v 65586 0), .num (.v 65586 1), .num (.v 65586 2), .num (.v 65586 3), .num (.v 65586 4), .num (.v 65586 5), .num (.v 65586 6), .num (.v 65586 7), .num (.v 65586 8), .tru (.v 65586 9), .tru (.v 65586 10), .tru (.v 65586 10)])
         (.f (.npre 31 [.num (.v 65557 0), .num (.v 65557 1), .num (.v 65557 2), .num (.v 0 3), .num (.v 0 4), .num (.v 0 5), .num (.v 0 6), .num (.v 0 8), .num (.v 0 8), .tru (.v 0 9)]) <|
          .bad))
        (.f (.is (.eq (.wrap .u64 (.bin .sub (.v 0 7) (.v 0 10))) (.n 0)) false) <|
         .br (.f (.rel 31 [.num (.v 65557 0), .num (.v 65557 1), .num (.v 65557 2), .num (.v 0 3), .num (.v 0 4), .num (.v 0 5), .num (.v 0 6), .num (.wrap .u64 (.bin .sub (.v 0 7) (.v 0 10))), .num (.v 0 8), .tru (.v 0 9)] 65582 [.int .u64, .int .u32, .int .u32, .int .i64, .int .u64, .int .u32, .int .u32, .int .u64, .int .u64, .bool, .bool]) <|
          .ok [.num (.v 65582 0), .num (.v 65582 1), .num (.v 65582 2), .num (.v 65582 3), .num (.v 65582 4), .num (.v 65582 5), .num (.v 65582 6), .num (.v 65582 7), .num (.v 65582 8), .tru (.v 65582 9), .tru (.lt (.n 0) (.n 0)), .tru (.v 65582 10)])
         (.f (.npre 31 [.num (.v 65557 0), .num (.v 65557 1), .num (.v 65557 2), .num (.v 0 3), .num (.v 0 4), .num (.v 0 5), .num (.v 0 6), .num (.wrap .u64 (.bin .sub (.v 0 7) (.v 0 10))), .num (.v 0 8), .tru (.v 0 9)]) <|
          .bad))))
      (.f (.npre 30 [.num (.v 0 0), .num (.v 0 1), .num (.v 0 2), .num (.v 0 10)]) <|
       .bad)))))
  (.f (.npre 27 [.num (.v 0 0), .num (.v 0 1), .num (.v 0 2), .num (.v 0 3), .num (.v 0 4), .num (.v 0 5), .num (.v 0 6), .num (.v 0 7), .num (.v 0 8), .tru (.v 0 9)]) <|
   .bad)
theorem c11 : ConS Tryz.prog T C11 := con_tr (cs := [C27, C30, C31]) (lcs := []) (known := []) (cons_cons c27 (cons_cons c30 (cons_cons c31 (cons_nil _ _)))) (Known.nil _) (N := 400) (d := 40) (t := t11) (by kernel_rfl) <| by
  intro E hl hp
  clear hl
  have hp := hp rfl
  simp only [C11, show T.pre 11 = Q11 from rfl, flatS, SP.flat, dvs, List.append_nil, List.cons_append, List.nil_append, Q11, U64, U32, I64, Big, W, wv, s64, MR, MB] at hp
  simp only [t11, C11, Tr.good, Fact.den, LX.den, DX.ls, DV.ls, DX.den, Bx.den, Ex.den, eo_add, eo_sub, eo_mul, eo_quo, eo_rem, eo_fdv, eo_mn, eo_mx, eo_land, eo_lor, eo_lxor, eo_landn, eo_shl, eo_shr, dvs, flatS, SP.flat, ST.flat, List.map_cons, List.map_nil, List.append_nil, List.cons_append, List.nil_append, ltb_t, ltb_f, leb_t, leb_f, eqb_t, eqb_f, decide_eq_true_eq, decide_eq_false_iff_not, Bool.not_eq_true', Bool.not_eq_false', Bool.and_eq_true, Bool.and_eq_false_imp, beq_iff_eq, beq_eq_false_iff_ne, bne_iff_ne, U64, U32, I64, Big, W, wv, Told, s64, MR, MB, Int.zero_mul, Int.zero_add, Int.add_zero, Int.mul_zero, IntKind.wrap_u64, IntKind.wrap_i64, IntKind.wrap_u32, ne_eq, forall_const, true_implies, show T.rel 11 = R11 from rfl, R11, show T.rel 27 = R27 from rfl, R27, show T.rel 30 = R30 from rfl, R30, show T.rel 31 = R31 from rfl, R31, show T.pre 11 = Q11 from rfl, Q11, show T.pre 27 = Q27 from rfl, Q27, show T.pre 30 = Q30 from rfl, Q30, show T.pre 31 = Q31 from rfl, Q31]
  revert hp
  generalize (E.r 0).i 0 = t
  generalize (E.r 0).i 1 = r
  generalize (E.r 0).i 2 = w
  generalize (E.r 0).i 3 = id
  generalize (E.r 0).i 4 = dt
  generalize (E.r 0).i 5 = dr
  generalize (E.r 0).i 6 = dw
  generalize (E.r 0).i 7 = l
  generalize (E.r 0).i 8 = s
  generalize (E.r 0).c 9 = a
  generalize (E.r 0).i 10 = x
  generalize (E.r 65541).c 0 = x5_0
  generalize (E.r 65557).i 0 = x21_0
  generalize (E.r 65557).i 1 = x21_1
  generalize (E.r 65557).i 2 = x21_2
  generalize (E.r 65557).c 3 = x21_3
  generalize (E.r 65582).i 0 = x46_0
  generalize (E.r 65582).i 1 = x46_1
  generalize (E.r 65582).i 2 = x46_2
  generalize (E.r 65582).i 3 = x46_3
  generalize (E.r 65582).i 4 = x46_4
  generalize (E.r 65582).i 5 = x46_5
  generalize (E.r 65582).i 6 = x46_6
  generalize (E.r 65582).i 7 = x46_7
  generalize (E.r 65582).i 8 = x46_8
  generalize (E.r 65582).c 9 = x46_9
  generalize (E.r 65582).c 10 = x46_10
  generalize (E.r 65586).i 0 = x50_0
  generalize (E.r 65586).i 1 = x50_1
  generalize (E.r 65586).i 2 = x50_2
  generalize (E.r 65586).i 3 = x50_3
  generalize (E.r 65586).i 4 = x50_4
  generalize (E.r 65586).i 5 = x50_5
  generalize (E.r 65586).i 6 = x50_6
  generalize (E.r 65586).i 7 = x50_7
  generalize (E.r 65586).i 8 = x50_8
  generalize (E.r 65586).c 9 = x50_9
  generalize (E.r 65586).c 10 = x50_10
  try simp only [mxI, mnI]
  try simp only [ltb, leb, eqb, Int.lt_irrefl, decide_false, Int.le_refl, decide_true]
  intro hp
  simp only [SRV]
  by_cases R : RQ t r w id dt dr dw l s
  case neg =>
    repeat' (first | assumption | (intro (h : _ ∧ _); obtain ⟨h1, h2⟩ := h; (first | (subst h1; revert h2) | revert h1 h2)) | (intro h; (first | subst h | skip)) | refine And.intro ?_ ?_)
    all_goals try (show False; refine absurd ?_ ‹¬ _›)
    all_goals repeat' (first | assumption | refine And.intro ?_ ?_)
    all_goals first | omega | grind
  have R' := R
  obtain ⟨hP, hid, hl, hs, h4, h5, h6⟩ := R'
  by_cases c : 1 ≤ x ∧ x ≤ l
  case neg =>
    repeat' (first | assumption | (intro (h : _ ∧ _); obtain ⟨h1, h2⟩ := h; (first | (subst h1; revert h2) | revert h1 h2)) | (intro h; (first | subst h | skip)) | refine And.intro ?_ ?_)
    all_goals try (show False; refine absurd ?_ ‹¬ _›)
    all_goals repeat' (first | assumption | refine And.intro ?_ ?_)
    all_goals first | omega | grind
  obtain ⟨c1, c2⟩ := c
  have e : x * 1048576 % 18446744073709551616 = x * 1048576 := by have := hl.2; omega
  have q := quo_le2 (x := x) (r := r) (w := w) (by omega) (by have := hl.2; omega) (by omega) hP.2.2 hP.1
  have hn : ¬ x = 0 := by omega
  have e2 : (l - x) % 18446744073709551616 = l - x := by omega
  have hnx : NS x := ⟨c1, by have := hl.2; omega⟩
  have hnl : ¬ l - x = 0 → NS (l - x) := fun h => ⟨by omega, by have := hl.2; omega⟩
  have mv : (t + (x * 1048576 + r) / w) % 18446744073709551616 = mvt t r w x := rfl
  have mr : (x * 1048576 + r) % w = mvr r w x := rfl
  rw [mr] at q
  have hP2 : PR (mvr r w x) w := ⟨hP.1, hP.2.1, q.2.2.2⟩
  have wt : WT w := ⟨hP.1, hP.2.1⟩
  have mu := mvt_u t r w x
  have hw := hP.2.1
  have xb := hnx.2
  have lb := hl.2
  have sb := hs.1
  have sb2 := hs.2
  simp only [e, e2, mv, mr, R, c1, c2, hn, true_and, true_imp_iff, iff_true, and_self, not_true_eq_false, false_imp_iff, not_false_eq_true]
  clear mv mr e e2 hn h4 h5 h6 R
  generalize (x * 1048576 + r) / w = Q at *
  generalize mvt t r w x = T' at *
  generalize mvr r w x = R' at *
  repeat' (first | assumption | (intro (h : _ ∧ _); obtain ⟨h1, h2⟩ := h; (first | (subst h1; revert h2) | revert h1 h2)) | (intro h; (first | subst h | skip)) | refine And.intro ?_ ?_)
  all_goals try (show False; refine absurd ?_ ‹¬ _›)
  all_goals repeat' (first | assumption | refine And.intro ?_ ?_)
  all_goals first | omega | grind
end Go.Proofs.YtjemohphaeiaiaaGreatDoor.Fn
namespace Go.Proofs.YtjemohphaeiaiaaGreatDoor.Fn
open Go Go.RowKit Go.Proofs.YtjemohphaeiaiaaGreatDoor.Sy
set_option linter.unusedVariables false
set_option linter.unusedSimpArgs false
set_option maxRecDepth 100000
def t24 : Tr :=
  .ok [.num (.v 0 0), .num (.v 0 1), .num (.v 0 2)]
theorem c24 : ConS Tryz.prog T C24 := con_tr (cs := []) (lcs := []) (known := []) (cons_nil _ _) (Known.nil _) (N := 400) (d := 40) (t := t24) (by kernel_rfl) <| by
  intro E hl hp
  clear hl
  have hp := hp rfl
  simp only [C24, show T.pre 24 = Q24 from rfl, flatS, SP.flat, dvs, List.append_nil, List.cons_append, List.nil_append, Q24, U64, U32, I64, Big, W, wv, s64, WT, PR, MR, MB] at hp
  simp only [t24, C24, Tr.good, Fact.den, LX.den, DX.ls, DV.ls, DX.den, Bx.den, Ex.den, eo_add, eo_sub, eo_mul, eo_quo, eo_rem, eo_fdv, eo_mn, eo_mx, eo_land, eo_lor, eo_lxor, eo_landn, eo_shl, eo_shr, dvs, flatS, SP.flat, ST.flat, List.map_cons, List.map_nil, List.append_nil, List.cons_append, List.nil_append, ltb_t, ltb_f, leb_t, leb_f, eqb_t, eqb_f, decide_eq_true_eq, decide_eq_false_iff_not, Bool.not_eq_true', Bool.not_eq_false', Bool.and_eq_true, Bool.and_eq_false_imp, beq_iff_eq, beq_eq_false_iff_ne, bne_iff_ne, U64, U32, I64, Big, W, wv, Told, s64, WT, PR, MR, MB, Int.zero_mul, Int.zero_add, Int.add_zero, Int.mul_zero, IntKind.wrap_u64, IntKind.wrap_i64, IntKind.wrap_u32, ne_eq, forall_const, true_implies, show T.rel 24 = R24 from rfl, R24, show T.pre 24 = Q24 from rfl, Q24]
  revert hp
  generalize (E.r 0).i 0 = t
  generalize (E.r 0).i 1 = r
  generalize (E.r 0).i 2 = w
  try simp only [mxI, mnI]
  try simp only [ltb, leb, eqb, Int.lt_irrefl, decide_false, Int.le_refl, decide_true]
  repeat' (first | intro _ | refine And.intro ?_ ?_ | refine Iff.intro ?_ ?_)
  all_goals first | omega | (simp_all; done) | (simp_all; omega)
end Go.Proofs.YtjemohphaeiaiaaGreatDoor.Fn
namespace Go.Proofs.YtjemohphaeiaiaaGreatDoor.Fn
open Go Go.RowKit Go.Proofs.YtjemohphaeiaiaaGreatDoor.Sy
set_option linter.unusedVariables false
set_option linter.unusedSimpArgs false
set_option maxRecDepth 100000
def t32 : Tr :=
  .br (.f (.rel 24 [.num (.v 0 0), .num (.v 0 1), .num (.v 0 2)] 65540 [.int .u64, .int .u32, .int .u32]) <|
   .br (.f (.rel 24 [.num (.v 0 4), .num (.v 0 5), .num (.v 0 6)] 65545 [.int .u64, .int .u32, .int .u32]) <|
    .ok [.num (.v 65540 0), .num (.v 65540 1), .num (.v 65540 2), .num (.v 0 3), .num (.v 65545 0), .num (.v 65545 1), .num (.v 65545 2)])
   (.f (.npre 24 [.num (.v 0 4), .num (.v 0 5), .num (.v 0 6)]) <|
    .bad))
  (.f (.npre 24 [.num (.v 0 0), .num (.v 0 1), .num (.v 0 2)]) <|
   .bad)
theorem c32 : ConS Tryz.prog T C32 := con_tr (cs := [C24]) (lcs := []) (known := []) (cons_cons c24 (cons_nil _ _)) (Known.nil _) (N := 400) (d := 40) (t := t32) (by kernel_rfl) <| by
  intro E hl hp
  clear hl
  have hp := hp rfl
  simp only [C32, show T.pre 32 = Q32 from rfl, flatS, SP.flat, dvs, List.append_nil, List.cons_append, List.nil_append, Q32, U64, U32, I64, Big, W, wv, s64, WT, PR, MR, MB] at hp
  simp only [t32, C32, Tr.good, Fact.den, LX.den, DX.ls, DV.ls, DX.den, Bx.den, Ex.den, eo_add, eo_sub, eo_mul, eo_quo, eo_rem, eo_fdv, eo_mn, eo_mx, eo_land, eo_lor, eo_lxor, eo_landn, eo_shl, eo_shr, dvs, flatS, SP.flat, ST.flat, List.map_cons, List.map_nil, List.append_nil, List.cons_append, List.nil_append, ltb_t, ltb_f, leb_t, leb_f, eqb_t, eqb_f, decide_eq_true_eq, decide_eq_false_iff_not, Bool.not_eq_true', Bool.not_eq_false', Bool.and_eq_true, Bool.and_eq_false_imp, beq_iff_eq, beq_eq_false_iff_ne, bne_iff_ne, U64, U32, I64, Big, W, wv, Told, s64, WT, PR, MR, MB, Int.zero_mul, Int.zero_add, Int.add_zero, Int.mul_zero, IntKind.wrap_u64, IntKind.wrap_i64, IntKind.wrap_u32, ne_eq, forall_const, true_implies, show T.rel 24 = R24 from rfl, R24, show T.rel 32 = R32 from rfl, R32, show T.pre 24 = Q24 from rfl, Q24, show T.pre 32 = Q32 from rfl, Q32]
  revert hp
  generalize (E.r 0).i 0 = t
  generalize (E.r 0).i 1 = r
  generalize (E.r 0).i 2 = w
  generalize (E.r 0).i 3 = id
  generalize (E.r 0).i 4 = dt
  generalize (E.r 0).i 5 = dr
  generalize (E.r 0).i 6 = dw
  generalize (E.r 65540).i 0 = x4_0
  generalize (E.r 65540).i 1 = x4_1
  generalize (E.r 65540).i 2 = x4_2
  generalize (E.r 65545).i 0 = x9_0
  generalize (E.r 65545).i 1 = x9_1
  generalize (E.r 65545).i 2 = x9_2
  try simp only [mxI, mnI]
  try simp only [ltb, leb, eqb, Int.lt_irrefl, decide_false, Int.le_refl, decide_true]
  repeat' (first | intro _ | refine And.intro ?_ ?_ | refine Iff.intro ?_ ?_)
  all_goals first | omega | (simp_all; done) | (simp_all; omega)
end Go.Proofs.YtjemohphaeiaiaaGreatDoor.Fn
namespace Go.Proofs.YtjemohphaeiaiaaGreatDoor.Fn
open Go Go.RowKit Go.Proofs.YtjemohphaeiaiaaGreatDoor.Sy
set_option linter.unusedVariables false
set_option linter.unusedSimpArgs false
set_option maxRecDepth 100000
def t12 : Tr :=
  .br (.f (.rel 32 [.num (.v 0 0), .num (.v 0 1), .num (.v 0 2), .num (.v 0 3), .num (.v 0 4), .num (.v 0 5), .num (.v 0 6)] 65540 [.int .u64, .int .u32, .int .u32, .int .i64, .int .u64, .int .u32, .int .u32]) <|
   .ok [.num (.v 65540 0), .num (.v 65540 1), .num (.v 65540 2), .num (.v 65540 3), .num (.v 65540 4), .num (.v 65540 5), .num (.v 65540 6), .num (.v 0 7), .num (.v 0 8), .tru (.v 0 9)])
  (.f (.npre 32 [.num (.v 0 0), .num (.v 0 1), .num (.v 0 2), .num (.v 0 3), .num (.v 0 4), .num (.v 0 5), .num (.v 0 6)]) <|
   .bad)
theorem c12 : ConS Tryz.prog T C12 := con_tr (cs := [C32]) (lcs := []) (known := []) (cons_cons c32 (cons_nil _ _)) (Known.nil _) (N := 400) (d := 40) (t := t12) (by kernel_rfl) <| by
  intro E hl hp
  clear hl
  have hp := hp rfl
  simp only [C12, show T.pre 12 = Q12 from rfl, flatS, SP.flat, dvs, List.append_nil, List.cons_append, List.nil_append, Q12, U64, U32, I64, Big, W, wv, s64, WT, PR, MR, MB] at hp
  simp only [t12, C12, Tr.good, Fact.den, LX.den, DX.ls, DV.ls, DX.den, Bx.den, Ex.den, eo_add, eo_sub, eo_mul, eo_quo, eo_rem, eo_fdv, eo_mn, eo_mx, eo_land, eo_lor, eo_lxor, eo_landn, eo_shl, eo_shr, dvs, flatS, SP.flat, ST.flat, List.map_cons, List.map_nil, List.append_nil, List.cons_append, List.nil_append, ltb_t, ltb_f, leb_t, leb_f, eqb_t, eqb_f, decide_eq_true_eq, decide_eq_false_iff_not, Bool.not_eq_true', Bool.not_eq_false', Bool.and_eq_true, Bool.and_eq_false_imp, beq_iff_eq, beq_eq_false_iff_ne, bne_iff_ne, U64, U32, I64, Big, W, wv, Told, s64, WT, PR, MR, MB, Int.zero_mul, Int.zero_add, Int.add_zero, Int.mul_zero, IntKind.wrap_u64, IntKind.wrap_i64, IntKind.wrap_u32, ne_eq, forall_const, true_implies, show T.rel 12 = R12 from rfl, R12, show T.rel 32 = R32 from rfl, R32, show T.pre 12 = Q12 from rfl, Q12, show T.pre 32 = Q32 from rfl, Q32]
  revert hp
  generalize (E.r 0).i 0 = t
  generalize (E.r 0).i 1 = r
  generalize (E.r 0).i 2 = w
  generalize (E.r 0).i 3 = id
  generalize (E.r 0).i 4 = dt
  generalize (E.r 0).i 5 = dr
  generalize (E.r 0).i 6 = dw
  generalize (E.r 0).i 7 = l
  generalize (E.r 0).i 8 = s
  generalize (E.r 0).c 9 = a
  generalize (E.r 65540).i 0 = x4_0
  generalize (E.r 65540).i 1 = x4_1
  generalize (E.r 65540).i 2 = x4_2
  generalize (E.r 65540).i 3 = x4_3
  generalize (E.r 65540).i 4 = x4_4
  generalize (E.r 65540).i 5 = x4_5
  generalize (E.r 65540).i 6 = x4_6
  try simp only [mxI, mnI]
  try simp only [ltb, leb, eqb, Int.lt_irrefl, decide_false, Int.le_refl, decide_true]
  repeat' (first | intro _ | refine And.intro ?_ ?_ | refine Iff.intro ?_ ?_)
  all_goals first | omega | (simp_all; done) | (simp_all; omega)
end Go.Proofs.YtjemohphaeiaiaaGreatDoor.Fn
namespace Go.Proofs.YtjemohphaeiaiaaGreatDoor.Fn
open Go Go.RowKit Go.Proofs.YtjemohphaeiaiaaGreatDoor.Sy
set_option linter.unusedVariables false
set_option linter.unusedSimpArgs false
set_option maxRecDepth 100000
def t13 : Tr :=
  .br (.f (.rel 101303 [.lst 0 10, .num (.v 0 0), .num (.v 0 1), .num (.v 0 2), .num (.v 0 3), .num (.v 0 4), .num (.v 0 5), .num (.v 0 6), .num (.v 0 7), .num (.v 0 8), .tru (.v 0 9), .num (.n 0), .num (.n 0)] 65544 [.int .u64, .int .u32, .int .u32, .int .i64, .int .u64, .int .u32, .int .u32, .int .u64, .int .u64, .bool, .int .i64, .int .i64]) <|
   .br (.f (.is (.lt (.v 65544 11) (.len 0 10)) true) <|
    .br (.f (.is (.lt (.v 65544 11) (.n 0)) false) <|
     .br (.f (.rel 10 [.num (.v 65544 0), .num (.v 65544 1), .num (.v 65544 2), .num (.v 65544 3), .num (.v 65544 4), .num (.v 65544 5), .num (.v 65544 6), .num (.v 65544 7), .num (.v 65544 8), .tru (.v 65544 9), .num (.bin .mn (.at 0 10 (.v 65544 11) 0) (.v 65544 7))] 65554 [.int .u64, .int .u32, .int .u32, .int .i64, .int .u64, .int .u32, .int .u32, .int .u64, .int .u64, .bool, .bool, .bool]) <|
      .br (.f (.is (.v 65554 11) false) <|
       .ok [.num (.n 0), .num (.n 0), .num (.n 0), .num (.n 0), .num (.n 0), .num (.n 0), .num (.n 0), .num (.n 0), .num (.n 0), .tru (.lt (.n 0) (.n 0)), .num (.n 0), .tru (.lt (.n 0) (.n 0))])
      (.f (.is (.v 65554 11) true) <|
       .br (.f (.is (.v 65554 10) true) <|
        .br (.f (.nrel 101303 [.lst 0 10, .num (.v 0 0), .num (.v 0 1), .num (.v 0 2), .num (.v 0 3), .num (.v 0 4), .num (.v 0 5), .num (.v 0 6), .num (.v 0 7), .num (.v 0 8), .tru (.v 0 9), .num (.n 0), .num (.n 0)] [.num (.v 65554 0), .num (.v 65554 1), .num (.v 65554 2), .num (.v 65554 3), .num (.v 65554 4), .num (.v 65554 5), .num (.v 65554 6), .num (.v 65554 7), .num (.v 65554 8), .tru (.v 65554 9), .num (.wrap .i64 (.bin .add (.v 65544 10) (.n 1))), .num (.wrap .i64 (.bin .add (.v 65544 11) (.n 1)))]) <|
         .bad)
        (.f (.ndec 101303 [.lst 0 10, .num (.v 0 0), .num (.v 0 1), .num (.v 0 2), .num (.v 0 3), .num (.v 0 4), .num (.v 0 5), .num (.v 0 6), .num (.v 0 7), .num (.v 0 8), .tru (.v 0 9), .num (.n 0), .num (.n 0)] [.num (.v 65544 0), .num (.v 65544 1), .num (.v 65544 2), .num (.v 65544 3), .num (.v 65544 4), .num (.v 65544 5), .num (.v 65544 6), .num (.v 65544 7), .num (.v 65544 8), .tru (.v 65544 9), .num (.v 65544 10), .num (.v 65544 11)] [.num (.v 65554 0), .num (.v 65554 1), .num (.v 65554 2), .num (.v 65554 3), .num (.v 65554 4), .num (.v 65554 5), .num (.v 65554 6), .num (.v 65554 7), .num (.v 65554 8), .tru (.v 65554 9), .num (.wrap .i64 (.bin .add (.v 65544 10) (.n 1))), .num (.wrap .i64 (.bin .add (.v 65544 11) (.n 1)))]) <|
         .bad))
       (.f (.is (.v 65554 10) false) <|
        .br (.f (.nrel 101303 [.lst 0 10, .num (.v 0 0), .num (.v 0 1), .num (.v 0 2), .num (.v 0 3), .num (.v 0 4), .num (.v 0 5), .num (.v 0 6), .num (.v 0 7), .num (.v 0 8), .tru (.v 0 9), .num (.n 0), .num (.n 0)] [.num (.v 65554 0), .num (.v 65554 1), .num (.v 65554 2), .num (.v 65554 3), .num (.v 65554 4), .num (.v 65554 5), .num (.v 65554 6), .num (.v 65554 7), .num (.v 65554 8), .tru (.v 65554 9), .num (.v 65544 10), .num (.wrap .i64 (.bin .add (.v 65544 11) (.n 1)))]) <|
         .bad)
        (.f (.ndec 101303 [.lst 0 10, .num (.v 0 0), .num (.v 0 1), .num (.v 0 2), .num (.v 0 3), .num (.v 0 4), .num (.v 0 5), .num (.v 0 6), .num (.v 0 7), .num (.v 0 8), .tru (.v 0 9), .num (.n 0), .num (.n 0)] [.num (.v 65544 0), .num (.v 65544 1), .num (.v 65544 2), .num (.v 65544 3), .num (.v 65544 4), .num (.v 65544 5), .num (.v 65544 6), .num (.v 65544 7), .num (.v 65544 8), .tru (.v 65544 9), .num (.v 65544 10), .num (.v 65544 11)] [.num (.v 65554 0), .num (.v 65554 1), .num (.v 65554 2), .num (.v 65554 3), .num (.v 65554 4), .num (.v 65554 5), .num (.v 65554 6), .num (.v 65554 7), .num (.v 65554 8), .tru (.v 65554 9), .num (.v 65544 10), .num (.wrap .i64 (.bin .add (.v 65544 11) (.n 1)))]) <|
         .bad))))
     (.f (.npre 10 [.num (.v 65544 0), .num (.v 65544 1), .num (.v 65544 2), .num (.v 65544 3), .num (.v 65544 4), .num (.v 65544 5), .num (.v 65544 6), .num (.v 65544 7), .num (.v 65544 8), .tru (.v 65544 9), .num (.bin .mn (.at 0 10 (.v 65544 11) 0) (.v 65544 7))]) <|
      .bad))
    (.f (.is (.lt (.v 65544 11) (.n 0)) true) <|
     .bad))
   (.f (.is (.lt (.v 65544 11) (.len 0 10)) false) <|
    .ok [.num (.v 65544 0), .num (.v 65544 1), .num (.v 65544 2), .num (.v 65544 3), .num (.v 65544 4), .num (.v 65544 5), .num (.v 65544 6), .num (.v 65544 7), .num (.v 65544 8), .tru (.v 65544 9), .num (.v 65544 10), .tru (.le (.n 0) (.n 0))]))
  (.f (.nrel 101303 [.lst 0 10, .num (.v 0 0), .num (.v 0 1), .num (.v 0 2), .num (.v 0 3), .num (.v 0 4), .num (.v 0 5), .num (.v 0 6), .num (.v 0 7), .num (.v 0 8), .tru (.v 0 9), .num (.n 0), .num (.n 0)] [.num (.v 0 0), .num (.v 0 1), .num (.v 0 2), .num (.v 0 3), .num (.v 0 4), .num (.v 0 5), .num (.v 0 6), .num (.v 0 7), .num (.v 0 8), .tru (.v 0 9), .num (.n 0), .num (.n 0)]) <|
   .bad)
theorem c13 : ConS Tryz.prog T C13 := con_tr (cs := [C10]) (lcs := [L101303]) (known := []) (cons_cons c10 (cons_nil _ _)) (Known.nil _) (N := 400) (d := 40) (t := t13) (by kernel_rfl) <| by
  intro E hl hp
  have hl10 := hl 10 _ rfl
  clear hl
  have hp := hp rfl
  simp only [C13, show T.pre 13 = Q13 from rfl, flatS, SP.flat, dvs, List.append_nil, List.cons_append, List.nil_append, Q13, U64, U32, I64, Big, W, wv, s64, MR, MB] at hp
  simp only [t13, C13, Tr.good, Fact.den, LX.den, DX.ls, DV.ls, DX.den, Bx.den, Ex.den, eo_add, eo_sub, eo_mul, eo_quo, eo_rem, eo_fdv, eo_mn, eo_mx, eo_land, eo_lor, eo_lxor, eo_landn, eo_shl, eo_shr, dvs, flatS, SP.flat, ST.flat, List.map_cons, List.map_nil, List.append_nil, List.cons_append, List.nil_append, ltb_t, ltb_f, leb_t, leb_f, eqb_t, eqb_f, decide_eq_true_eq, decide_eq_false_iff_not, Bool.not_eq_true', Bool.not_eq_false', Bool.and_eq_true, Bool.and_eq_false_imp, beq_iff_eq, beq_eq_false_iff_ne, bne_iff_ne, U64, U32, I64, Big, W, wv, Told, s64, MR, MB, Int.zero_mul, Int.zero_add, Int.add_zero, Int.mul_zero, IntKind.wrap_u64, IntKind.wrap_i64, IntKind.wrap_u32, ne_eq, forall_const, true_implies, show T.rel 10 = R10 from rfl, R10, show T.rel 13 = R13 from rfl, R13, show T.rel 101303 = R101303 from rfl, R101303, show T.mu 101303 = M101303 from rfl, M101303, show T.pre 10 = Q10 from rfl, Q10, show T.pre 13 = Q13 from rfl, Q13]
  revert hp hl10
  generalize (E.r 0).i 0 = t
  generalize (E.r 0).i 1 = r
  generalize (E.r 0).i 2 = w
  generalize (E.r 0).i 3 = id
  generalize (E.r 0).i 4 = dt
  generalize (E.r 0).i 5 = dr
  generalize (E.r 0).i 6 = dw
  generalize (E.r 0).i 7 = l
  generalize (E.r 0).i 8 = s
  generalize (E.r 0).c 9 = a
  generalize (E.r 0).l 10 = xs
  generalize (E.r 65544).i 0 = x8_0
  generalize (E.r 65544).i 1 = x8_1
  generalize (E.r 65544).i 2 = x8_2
  generalize (E.r 65544).i 3 = x8_3
  generalize (E.r 65544).i 4 = x8_4
  generalize (E.r 65544).i 5 = x8_5
  generalize (E.r 65544).i 6 = x8_6
  generalize (E.r 65544).i 7 = x8_7
  generalize (E.r 65544).i 8 = x8_8
  generalize (E.r 65544).c 9 = x8_9
  generalize (E.r 65544).i 10 = x8_10
  generalize (E.r 65544).i 11 = x8_11
  generalize (E.r 65554).i 0 = x18_0
  generalize (E.r 65554).i 1 = x18_1
  generalize (E.r 65554).i 2 = x18_2
  generalize (E.r 65554).i 3 = x18_3
  generalize (E.r 65554).i 4 = x18_4
  generalize (E.r 65554).i 5 = x18_5
  generalize (E.r 65554).i 6 = x18_6
  generalize (E.r 65554).i 7 = x18_7
  generalize (E.r 65554).i 8 = x18_8
  generalize (E.r 65554).c 9 = x18_9
  generalize (E.r 65554).c 10 = x18_10
  generalize (E.r 65554).c 11 = x18_11
  try simp only [mxI, mnI]
  try simp only [ltb, leb, eqb, Int.lt_irrefl, decide_false, Int.le_refl, decide_true]
  simp only [SRV]
  intro hl hp
  obtain ⟨p1, p2, p3, p4, p5, p6, p7, p8, hu, hn⟩ := hp
  refine ⟨fun ⟨i0, i1, i2⟩ => ?_, fun n => n ⟨trivial, by omega, SVI.init⟩⟩
  obtain ⟨k, rfl⟩ := Int.eq_ofNat_of_zero_le i0
  have ew : ((k : Int) + 1 + 9223372036854775808) % 18446744073709551616 - 9223372036854775808 = ((k + 1 : Nat) : Int) := by omega
  simp only [Int.toNat_natCast] at i2
  simp only [ew, Int.toNat_natCast]
  obtain ⟨k1, k2, k3, k4, k5, k6, k7, k8, k9⟩ := i2.kinds ⟨p1, p2, p3, p4, p5, p6, p7, p8⟩
  have rq := i2.rq p1 p2.1
  have hk := hu k
  have en : (x8_10 + 1 + 9223372036854775808) % 18446744073709551616 - 9223372036854775808 = x8_10 + 1 := by omega
  simp only [en]
  refine ⟨fun c => ⟨fun _ => ⟨fun ⟨b1, b2, b3⟩ => ⟨fun f => ?_, fun f => ?_⟩, fun n => n ⟨k1, k2, k3, k4, k5, k6, ?_, k7⟩⟩, fun h => by omega⟩, fun c => ?_⟩
  · refine ⟨⟨fun h => (by cases h), fun h => ?_⟩, fun h => (by cases h), fun _ => ⟨rfl, rfl, rfl, rfl, rfl, rfl, rfl, rfl, rfl, rfl, rfl⟩⟩
    rcases h with h | ⟨h1, h2⟩
    · omega
    · have ns := (i2.ns p1 p2.1 h1).1.1
      have hx := h2 k (by omega)
      have := b1.2 ⟨rq.2 h1, by split <;> omega, by split <;> omega⟩
      rw [f] at this
      cases this
  · obtain ⟨q1, q2, q3⟩ := b1.1 f
    have hR := rq.1 q1
    have ns := (i2.ns p1 p2.1 hR).1.1
    have hx : 1 ≤ Sy.rowAt xs k 0 := by
      clear b2 b3
      split at q2 <;> omega
    obtain ⟨e1, e2, e3, e4, e5, e6, e7, e8, e9, e10, e11⟩ := b2 f
    have m := fun n2 h => i2.more hR hx (y := if x8_7 < Sy.rowAt xs k 0 then x8_7 else Sy.rowAt xs k 0) (n2 := n2) rfl e1 e2 e5 e6 e7 e8 h
    rw [← e3, ← e4, ← e9, ← e10] at m
    exact ⟨fun g => ⟨fun n => n ⟨by omega, by omega, m _ (by rw [if_pos (e11.1 g)])⟩, by omega⟩, fun g => ⟨fun n => n ⟨by omega, by omega, m _ (by rw [if_neg (fun h => by have := e11.2 h; rw [g] at this; cases this)])⟩, by omega⟩⟩
  · split <;> omega
  · have ek : k = xs.length := by omega
    subst ek
    refine ⟨⟨fun _ => ?_, fun _ => rfl⟩, fun _ => i2, fun h => (by cases h)⟩
    by_cases hR : RQ t r w id dt dr dw l s
    · exact .inr ⟨hR, (i2.ns p1 p2.1 hR).2⟩
    · exact .inl (i2.2.2.2.2.2 hR).1
end Go.Proofs.YtjemohphaeiaiaaGreatDoor.Fn
namespace Go.Proofs.YtjemohphaeiaiaaGreatDoor.Fn
open Go Go.RowKit Go.Proofs.YtjemohphaeiaiaaGreatDoor.Sy
set_option linter.unusedVariables false
set_option linter.unusedSimpArgs false
set_option maxRecDepth 100000
def t14 : Tr :=
  .br (.f (.rel 101403 [.lst 0 10, .num (.v 0 0), .num (.v 0 1), .num (.v 0 2), .num (.v 0 3), .num (.v 0 4), .num (.v 0 5), .num (.v 0 6), .num (.v 0 7), .num (.v 0 8), .tru (.v 0 9), .num (.n 0), .num (.n 0)] 65544 [.int .u64, .int .u32, .int .u32, .int .i64, .int .u64, .int .u32, .int .u32, .int .u64, .int .u64, .bool, .int .i64, .int .i64]) <|
   .br (.f (.is (.lt (.v 65544 11) (.len 0 10)) true) <|
    .br (.f (.is (.lt (.v 65544 11) (.n 0)) false) <|
     .br (.f (.rel 11 [.num (.v 65544 0), .num (.v 65544 1), .num (.v 65544 2), .num (.v 65544 3), .num (.v 65544 4), .num (.v 65544 5), .num (.v 65544 6), .num (.v 65544 7), .num (.v 65544 8), .tru (.v 65544 9), .num (.bin .mn (.at 0 10 (.v 65544 11) 0) (.v 65544 7))] 65554 [.int .u64, .int .u32, .int .u32, .int .i64, .int .u64, .int .u32, .int .u32, .int .u64, .int .u64, .bool, .bool, .bool]) <|
      .br (.f (.is (.v 65554 11) false) <|
       .ok [.num (.n 0), .num (.n 0), .num (.n 0), .num (.n 0), .num (.n 0), .num (.n 0), .num (.n 0), .num (.n 0), .num (.n 0), .tru (.lt (.n 0) (.n 0)), .num (.n 0), .tru (.lt (.n 0) (.n 0))])
      (.f (.is (.v 65554 11) true) <|
       .br (.f (.is (.v 65554 10) true) <|
        .br (.f (.nrel 101403 [.lst 0 10, .num (.v 0 0), .num (.v 0 1), .num (.v 0 2), .num (.v 0 3), .num (.v 0 4), .num (.v 0 5), .num (.v 0 6), .num (.v 0 7), .num (.v 0 8), .tru (.v 0 9), .num (.n 0), .num (.n 0)] [.num (.v 65554 0), .num (.v 65554 1), .num (.v 65554 2), .num (.v 65554 3), .num (.v 65554 4), .num (.v 65554 5), .num (.v 65554 6), .num (.v 65554 7), .num (.v 65554 8), .tru (.v 65554 9), .num (.wrap .i64 (.bin .add (.v 65544 10) (.n 1))), .num (.wrap .i64 (.bin .add (.v 65544 11) (.n 1)))]) <|
         .bad)
        (.f (.ndec 101403 [.lst 0 10, .num (.v 0 0), .num (.v 0 1), .num (.v 0 2), .num (.v 0 3), .num (.v 0 4), .num (.v 0 5), .num (.v 0 6), .num (.v 0 7), .num (.v 0 8), .tru (.v 0 9), .num (.n 0), .num (.n 0)] [.num (.v 65544 0), .num (.v 65544 1), .num (.v 65544 2), .num (.v 65544 3), .num (.v 65544 4), .num (.v 65544 5), .num (.v 65544 6), .num (.v 65544 7), .num (.v 65544 8), .tru (.v 65544 9), .num (.v 65544 10), .num (.v 65544 11)] [.num (.v 65554 0), .num (.v 65554 1), .num (.v 65554 2), .num (.v 65554 3), .num (.v 65554 4), .num (.v 65554 5), .num (.v 65554 6), .num (.v 65554 7), .num (.v 65554 8), .tru (.v 65554 9), .num (.wrap .i64 (.bin .add (.v 65544 10) (.n 1))), .num (.wrap .i64 (.bin .add (.v 65544 11) (.n 1)))]) <|
         .bad))
       (.f (.is (.v 65554 10) false) <|
        .br (.f (.nrel 101403 [.lst 0 10, .num (.v 0 0), .num (.v 0 1), .num (.v 0 2), .num (.v 0 3), .num (.v 0 4), .num (.v 0 5), .num (.v 0 6), .num (.v 0 7), .num (.v 0 8), .tru (.v 0 9), .num (.n 0), .num (.n 0)] [.num (.v 65554 0), .num (.v 65554 1), .num (.v 65554 2), .num (.v 65554 3), .num (.v 65554 4), .num (.v 65554 5), .num (.v 65554 6), .num (.v 65554 7), .num (.v 65554 8), .tru (.v 65554 9), .num (.v 65544 10), .num (.wrap .i64 (.bin .add (.v 65544 11) (.n 1)))]) <|
         .bad)
        (.f (.ndec 101403 [.lst 0 10, .num (.v 0 0), .num (.v 0 1), .num (.v 0 2), .num (.v 0 3), .num (.v 0 4), .num (.v 0 5), .num (.v 0 6), .num (.v 0 7), .num (.v 0 8), .tru (.v 0 9), .num (.n 0), .num (.n 0)] [.num (.v 65544 0), .num (.v 65544 1), .num (.v 65544 2), .num (.v 65544 3), .num (.v 65544 4), .num (.v 65544 5), .num (.v 65544 6), .num (.v 65544 7), .num (.v 65544 8), .tru (.v 65544 9), .num (.v 65544 10), .num (.v 65544 11)] [.num (.v 65554 0), .num (.v 65554 1), .num (.v 65554 2), .num (.v 65554 3), .num (.v 65554 4), .num (.v 65554 5), .num (.v 65554 6), .num (.v 65554 7), .num (.v 65554 8), .tru (.v 65554 9), .num (.v 65544 10), .num (.wrap .i64 (.bin .add (.v 65544 11) (.n 1)))]) <|
         .bad))))
     (.f (.npre 11 [.num (.v 65544 0), .num (.v 65544 1), .num (.v 65544 2), .num (.v 65544 3), .num (.v 65544 4), .num (.v 65544 5), .num (.v 65544 6), .num (.v 65544 7), .num (.v 65544 8), .tru (.v 65544 9), .num (.bin .mn (.at 0 10 (.v 65544 11) 0) (.v 65544 7))]) <|
      .bad))
    (.f (.is (.lt (.v 65544 11) (.n 0)) true) <|
     .bad))
   (.f (.is (.lt (.v 65544 11) (.len 0 10)) false) <|
    .ok [.num (.v 65544 0), .num (.v 65544 1), .num (.v 65544 2), .num (.v 65544 3), .num (.v 65544 4), .num (.v 65544 5), .num (.v 65544 6), .num (.v 65544 7), .num (.v 65544 8), .tru (.v 65544 9), .num (.v 65544 10), .tru (.le (.n 0) (.n 0))]))
  (.f (.nrel 101403 [.lst 0 10, .num (.v 0 0), .num (.v 0 1), .num (.v 0 2), .num (.v 0 3), .num (.v 0 4), .num (.v 0 5), .num (.v 0 6), .num (.v 0 7), .num (.v 0 8), .tru (.v 0 9), .num (.n 0), .num (.n 0)] [.num (.v 0 0), .num (.v 0 1), .num (.v 0 2), .num (.v 0 3), .num (.v 0 4), .num (.v 0 5), .num (.v 0 6), .num (.v 0 7), .num (.v 0 8), .tru (.v 0 9), .num (.n 0), .num (.n 0)]) <|
   .bad)
theorem c14 : ConS Tryz.prog T C14 := con_tr (cs := [C11]) (lcs := [L101403]) (known := []) (cons_cons c11 (cons_nil _ _)) (Known.nil _) (N := 400) (d := 40) (t := t14) (by kernel_rfl) <| by
  intro E hl hp
  have hl10 := hl 10 _ rfl
  clear hl
  have hp := hp rfl
  simp only [C14, show T.pre 14 = Q14 from rfl, flatS, SP.flat, dvs, List.append_nil, List.cons_append, List.nil_append, Q14, U64, U32, I64, Big, W, wv, s64, MR, MB] at hp
  simp only [t14, C14, Tr.good, Fact.den, LX.den, DX.ls, DV.ls, DX.den, Bx.den, Ex.den, eo_add, eo_sub, eo_mul, eo_quo, eo_rem, eo_fdv, eo_mn, eo_mx, eo_land, eo_lor, eo_lxor, eo_landn, eo_shl, eo_shr, dvs, flatS, SP.flat, ST.flat, List.map_cons, List.map_nil, List.append_nil, List.cons_append, List.nil_append, ltb_t, ltb_f, leb_t, leb_f, eqb_t, eqb_f, decide_eq_true_eq, decide_eq_false_iff_not, Bool.not_eq_true', Bool.not_eq_false', Bool.and_eq_true, Bool.and_eq_false_imp, beq_iff_eq, beq_eq_false_iff_ne, bne_iff_ne, U64, U32, I64, Big, W, wv, Told, s64, MR, MB, Int.zero_mul, Int.zero_add, Int.add_zero, Int.mul_zero, IntKind.wrap_u64, IntKind.wrap_i64, IntKind.wrap_u32, ne_eq, forall_const, true_implies, show T.rel 11 = R11 from rfl, R11, show T.rel 14 = R14 from rfl, R14, show T.rel 101403 = R101403 from rfl, R101403, show T.mu 101403 = M101403 from rfl, M101403, show T.pre 11 = Q11 from rfl, Q11, show T.pre 14 = Q14 from rfl, Q14]
  revert hp hl10
  generalize (E.r 0).i 0 = t
  generalize (E.r 0).i 1 = r
  generalize (E.r 0).i 2 = w
  generalize (E.r 0).i 3 = id
  generalize (E.r 0).i 4 = dt
  generalize (E.r 0).i 5 = dr
  generalize (E.r 0).i 6 = dw
  generalize (E.r 0).i 7 = l
  generalize (E.r 0).i 8 = s
  generalize (E.r 0).c 9 = a
  generalize (E.r 0).l 10 = xs
  generalize (E.r 65544).i 0 = x8_0
  generalize (E.r 65544).i 1 = x8_1
  generalize (E.r 65544).i 2 = x8_2
  generalize (E.r 65544).i 3 = x8_3
  generalize (E.r 65544).i 4 = x8_4
  generalize (E.r 65544).i 5 = x8_5
  generalize (E.r 65544).i 6 = x8_6
  generalize (E.r 65544).i 7 = x8_7
  generalize (E.r 65544).i 8 = x8_8
  generalize (E.r 65544).c 9 = x8_9
  generalize (E.r 65544).i 10 = x8_10
  generalize (E.r 65544).i 11 = x8_11
  generalize (E.r 65554).i 0 = x18_0
  generalize (E.r 65554).i 1 = x18_1
  generalize (E.r 65554).i 2 = x18_2
  generalize (E.r 65554).i 3 = x18_3
  generalize (E.r 65554).i 4 = x18_4
  generalize (E.r 65554).i 5 = x18_5
  generalize (E.r 65554).i 6 = x18_6
  generalize (E.r 65554).i 7 = x18_7
  generalize (E.r 65554).i 8 = x18_8
  generalize (E.r 65554).c 9 = x18_9
  generalize (E.r 65554).c 10 = x18_10
  generalize (E.r 65554).c 11 = x18_11
  try simp only [mxI, mnI]
  try simp only [ltb, leb, eqb, Int.lt_irrefl, decide_false, Int.le_refl, decide_true]
  simp only [SRV]
  intro hl hp
  obtain ⟨p1, p2, p3, p4, p5, p6, p7, p8, hu, hn⟩ := hp
  refine ⟨fun ⟨i0, i1, i2⟩ => ?_, fun n => n ⟨trivial, by omega, SVI.init⟩⟩
  obtain ⟨k, rfl⟩ := Int.eq_ofNat_of_zero_le i0
  have ew : ((k : Int) + 1 + 9223372036854775808) % 18446744073709551616 - 9223372036854775808 = ((k + 1 : Nat) : Int) := by omega
  simp only [Int.toNat_natCast] at i2
  simp only [ew, Int.toNat_natCast]
  obtain ⟨k1, k2, k3, k4, k5, k6, k7, k8, k9⟩ := i2.kinds ⟨p1, p2, p3, p4, p5, p6, p7, p8⟩
  have rq := i2.rq p1 p2.1
  have hk := hu k
  have en : (x8_10 + 1 + 9223372036854775808) % 18446744073709551616 - 9223372036854775808 = x8_10 + 1 := by omega
  simp only [en]
  refine ⟨fun c => ⟨fun _ => ⟨fun ⟨b1, b2, b3⟩ => ⟨fun f => ?_, fun f => ?_⟩, fun n => n ⟨k1, k2, k3, k4, k5, k6, ?_, k7⟩⟩, fun h => by omega⟩, fun c => ?_⟩
  · refine ⟨⟨fun h => (by cases h), fun h => ?_⟩, fun h => (by cases h), fun _ => ⟨rfl, rfl, rfl, rfl, rfl, rfl, rfl, rfl, rfl, rfl, rfl⟩⟩
    rcases h with h | ⟨h1, h2⟩
    · omega
    · have ns := (i2.ns p1 p2.1 h1).1.1
      have hx := h2 k (by omega)
      have := b1.2 ⟨rq.2 h1, by split <;> omega, by split <;> omega⟩
      rw [f] at this
      cases this
  · obtain ⟨q1, q2, q3⟩ := b1.1 f
    have hR := rq.1 q1
    have ns := (i2.ns p1 p2.1 hR).1.1
    have hx : 1 ≤ Sy.rowAt xs k 0 := by
      clear b2 b3
      split at q2 <;> omega
    obtain ⟨e1, e2, e3, e4, e5, e6, e7, e8, e9, e10, e11⟩ := b2 f
    have m := fun n2 h => i2.more hR hx (y := if x8_7 < Sy.rowAt xs k 0 then x8_7 else Sy.rowAt xs k 0) (n2 := n2) rfl e1 e2 e5 e6 e7 e8 h
    rw [← e3, ← e4, ← e9, ← e10] at m
    exact ⟨fun g => ⟨fun n => n ⟨by omega, by omega, m _ (by rw [if_pos (e11.1 g)])⟩, by omega⟩, fun g => ⟨fun n => n ⟨by omega, by omega, m _ (by rw [if_neg (fun h => by have := e11.2 h; rw [g] at this; cases this)])⟩, by omega⟩⟩
  · split <;> omega
  · have ek : k = xs.length := by omega
    subst ek
    refine ⟨⟨fun _ => ?_, fun _ => rfl⟩, fun _ => i2, fun h => (by cases h)⟩
    by_cases hR : RQ t r w id dt dr dw l s
    · exact .inr ⟨hR, (i2.ns p1 p2.1 hR).2⟩
    · exact .inl (i2.2.2.2.2.2 hR).1
end Go.Proofs.YtjemohphaeiaiaaGreatDoor.Fn
