/- What is told of the functions, shown: (turnstone/req.Req).Right, turnstone/req.set, turnstone/req.New, (turnstone/req.Req).Sliced, (turnstone/req.Req).Moved, turnstone/turnstoneref01.trim, turnstone/turnstoneref01.digit, turnstone/turnstoneref01.plus, turnstone/turnstoneref01.larger, turnstone/turnstoneref01.minus, turnstone/turnstoneref01.Add. -/
import Derived.Test.YtjemohphaeiaiaaGreatDoorFm1
namespace Go.Proofs.YtjemohphaeiaiaaGreatDoor.Fn
open Go Go.RowKit Go.Proofs.YtjemohphaeiaiaaGreatDoor.Sy
set_option linter.unusedVariables false
set_option linter.unusedSimpArgs false
set_option maxRecDepth 100000
def t18 : Tr :=
  .br (.f (.rel 37 [.num (.v 0 0), .num (.v 0 1), .num (.v 0 2), .num (.v 0 3), .num (.v 0 4), .num (.v 0 5), .num (.v 0 6)] 65540 [.bool]) <|
   .br (.f (.is (.v 65540 0) true) <|
    .f (.rel 38 [.num (.v 0 7)] 65544 [.bool]) <|
     .br (.f (.is (.v 65544 0) true) <|
      .f (.rel 38 [.num (.v 0 8)] 65549 [.bool]) <|
       .br (.f (.is (.v 65549 0) true) <|
        .br (.f (.rel 39 [.num (.v 0 0), .num (.v 0 1), .num (.v 0 2), .num (.v 0 7)] 65557 [.int .u64, .int .u32, .int .u32]) <|
         .ok [.tru (.and (.eq (.v 65557 0) (.v 0 4)) (.and (.eq (.v 65557 1) (.v 0 5)) (.and (.eq (.v 65557 2) (.v 0 6)) (.le (.n 0) (.n 0)))))])
        (.f (.npre 39 [.num (.v 0 0), .num (.v 0 1), .num (.v 0 2), .num (.v 0 7)]) <|
         .bad))
       (.f (.is (.v 65549 0) false) <|
        .ok [.tru (.lt (.n 0) (.n 0))]))
     (.f (.is (.v 65544 0) false) <|
      .ok [.tru (.lt (.n 0) (.n 0))]))
   (.f (.is (.v 65540 0) false) <|
    .ok [.tru (.lt (.n 0) (.n 0))]))
  (.f (.npre 37 [.num (.v 0 0), .num (.v 0 1), .num (.v 0 2), .num (.v 0 3), .num (.v 0 4), .num (.v 0 5), .num (.v 0 6)]) <|
   .bad)
theorem c18 : ConS Tryz.prog T C18 := con_tr (cs := [C37, C38, C39]) (lcs := []) (known := []) (cons_cons c37 (cons_cons c38 (cons_cons c39 (cons_nil _ _)))) (Known.nil _) (N := 400) (d := 40) (t := t18) (by kernel_rfl) <| by
  intro E hl hp
  clear hl
  have hp := hp rfl
  simp only [C18, show T.pre 18 = Q18 from rfl, flatS, SP.flat, dvs, List.append_nil, List.cons_append, List.nil_append, Q18, U64, U32, I64, Big, W, wv, s64, MR, MB] at hp
  simp only [t18, C18, Tr.good, Fact.den, LX.den, DX.ls, DV.ls, DX.den, Bx.den, Ex.den, eo_add, eo_sub, eo_mul, eo_quo, eo_rem, eo_fdv, eo_mn, eo_mx, eo_land, eo_lor, eo_lxor, eo_landn, eo_shl, eo_shr, dvs, flatS, SP.flat, ST.flat, List.map_cons, List.map_nil, List.append_nil, List.cons_append, List.nil_append, ltb_t, ltb_f, leb_t, leb_f, eqb_t, eqb_f, decide_eq_true_eq, decide_eq_false_iff_not, Bool.not_eq_true', Bool.not_eq_false', Bool.and_eq_true, Bool.and_eq_false_imp, beq_iff_eq, beq_eq_false_iff_ne, bne_iff_ne, U64, U32, I64, Big, W, wv, Told, s64, MR, MB, Int.zero_mul, Int.zero_add, Int.add_zero, Int.mul_zero, IntKind.wrap_u64, IntKind.wrap_i64, IntKind.wrap_u32, ne_eq, forall_const, true_implies, show T.rel 18 = R18 from rfl, R18, show T.rel 37 = R37 from rfl, R37, show T.rel 38 = R38 from rfl, R38, show T.rel 39 = R39 from rfl, R39, show T.pre 18 = Q18 from rfl, Q18, show T.pre 37 = Q37 from rfl, Q37, show T.pre 39 = Q39 from rfl, Q39]
  revert hp
  generalize (E.r 0).i 0 = t
  generalize (E.r 0).i 1 = r
  generalize (E.r 0).i 2 = w
  generalize (E.r 0).i 3 = id
  generalize (E.r 0).i 4 = dt
  generalize (E.r 0).i 5 = dr
  generalize (E.r 0).i 6 = dw
  generalize (E.r 0).i 7 = l
  generalize (E.r 0).i 8 = s
  generalize (E.r 0).c 9 = a
  generalize (E.r 65540).c 0 = x4_0
  generalize (E.r 65544).c 0 = x8_0
  generalize (E.r 65549).c 0 = x13_0
  generalize (E.r 65557).i 0 = x21_0
  generalize (E.r 65557).i 1 = x21_1
  generalize (E.r 65557).i 2 = x21_2
  try simp only [mxI, mnI]
  try simp only [ltb, leb, eqb, Int.lt_irrefl, decide_false, Int.le_refl, decide_true]
  intro hp
  simp only [RQ]
  have d := due_right (t := t) (r := r) (w := w) (l := l) hp.1 hp.2.1.1
  have wt : PR r w → WT w := fun h => ⟨h.1, h.2.1⟩
  simp only [s64] at d
  repeat' (first | assumption | (intro (h : _ ∧ _); obtain ⟨h1, h2⟩ := h; (first | (subst h1; revert h2) | revert h1 h2)) | (intro h; (first | subst h | skip)) | refine And.intro ?_ ?_)
  all_goals try (show False; refine absurd ?_ ‹¬ _›)
  all_goals repeat' (first | assumption | refine And.intro ?_ ?_)
  all_goals first | omega | grind
end Go.Proofs.YtjemohphaeiaiaaGreatDoor.Fn
namespace Go.Proofs.YtjemohphaeiaiaaGreatDoor.Fn
open Go Go.RowKit Go.Proofs.YtjemohphaeiaiaaGreatDoor.Sy
set_option linter.unusedVariables false
set_option linter.unusedSimpArgs false
set_option maxRecDepth 100000
def t29 : Tr :=
  .f (.rel 38 [.num (.v 0 7)] 65541 [.bool]) <|
   .br (.f (.is (.v 65541 0) true) <|
    .br (.f (.rel 39 [.num (.v 0 0), .num (.v 0 1), .num (.v 0 2), .num (.v 0 7)] 65547 [.int .u64, .int .u32, .int .u32]) <|
     .br (.f (.rel 18 [.num (.v 0 0), .num (.v 0 1), .num (.v 0 2), .num (.v 0 3), .num (.v 65547 0), .num (.v 65547 1), .num (.v 65547 2), .num (.v 0 7), .num (.v 0 8), .tru (.v 0 9)] 65552 [.bool]) <|
      .br (.f (.is (.v 65552 0) false) <|
       .ok [.num (.n 0), .num (.n 0), .num (.n 0), .num (.n 0), .num (.n 0), .num (.n 0), .num (.n 0), .num (.n 0), .num (.n 0), .tru (.lt (.n 0) (.n 0)), .tru (.lt (.n 0) (.n 0))])
      (.f (.is (.v 65552 0) true) <|
       .ok [.num (.v 0 0), .num (.v 0 1), .num (.v 0 2), .num (.v 0 3), .num (.v 65547 0), .num (.v 65547 1), .num (.v 65547 2), .num (.v 0 7), .num (.v 0 8), .tru (.v 0 9), .tru (.le (.n 0) (.n 0))]))
     (.f (.npre 18 [.num (.v 0 0), .num (.v 0 1), .num (.v 0 2), .num (.v 0 3), .num (.v 65547 0), .num (.v 65547 1), .num (.v 65547 2), .num (.v 0 7), .num (.v 0 8), .tru (.v 0 9)]) <|
      .bad))
    (.f (.npre 39 [.num (.v 0 0), .num (.v 0 1), .num (.v 0 2), .num (.v 0 7)]) <|
     .bad))
   (.f (.is (.v 65541 0) false) <|
    .br (.f (.rel 18 [.num (.v 0 0), .num (.v 0 1), .num (.v 0 2), .num (.v 0 3), .num (.v 0 4), .num (.v 0 5), .num (.v 0 6), .num (.v 0 7), .num (.v 0 8), .tru (.v 0 9)] 65543 [.bool]) <|
     .br (.f (.is (.v 65543 0) false) <|
      .ok [.num (.n 0), .num (.n 0), .num (.n 0), .num (.n 0), .num (.n 0), .num (.n 0), .num (.n 0), .num (.n 0), .num (.n 0), .tru (.lt (.n 0) (.n 0)), .tru (.lt (.n 0) (.n 0))])
     (.f (.is (.v 65543 0) true) <|
      .ok [.num (.v 0 0), .num (.v 0 1), .num (.v 0 2), .num (.v 0 3), .num (.v 0 4), .num (.v 0 5), .num (.v 0 6), .num (.v 0 7), .num (.v 0 8), .tru (.v 0 9), .tru (.le (.n 0) (.n 0))]))
    (.f (.npre 18 [.num (.v 0 0), .num (.v 0 1), .num (.v 0 2), .num (.v 0 3), .num (.v 0 4), .num (.v 0 5), .num (.v 0 6), .num (.v 0 7), .num (.v 0 8), .tru (.v 0 9)]) <|
     .bad))
theorem c29 : ConS Tryz.prog T C29 := con_tr (cs := [C18, C38, C39]) (lcs := []) (known := []) (cons_cons c18 (cons_cons c38 (cons_cons c39 (cons_nil _ _)))) (Known.nil _) (N := 400) (d := 40) (t := t29) (by kernel_rfl) <| by
  intro E hl hp
  clear hl
  have hp := hp rfl
  simp only [C29, show T.pre 29 = Q29 from rfl, flatS, SP.flat, dvs, List.append_nil, List.cons_append, List.nil_append, Q29, U64, U32, I64, Big, W, wv, s64, MR, MB] at hp
  simp only [t29, C29, Tr.good, Fact.den, LX.den, DX.ls, DV.ls, DX.den, Bx.den, Ex.den, eo_add, eo_sub, eo_mul, eo_quo, eo_rem, eo_fdv, eo_mn, eo_mx, eo_land, eo_lor, eo_lxor, eo_landn, eo_shl, eo_shr, dvs, flatS, SP.flat, ST.flat, List.map_cons, List.map_nil, List.append_nil, List.cons_append, List.nil_append, ltb_t, ltb_f, leb_t, leb_f, eqb_t, eqb_f, decide_eq_true_eq, decide_eq_false_iff_not, Bool.not_eq_true', Bool.not_eq_false', Bool.and_eq_true, Bool.and_eq_false_imp, beq_iff_eq, beq_eq_false_iff_ne, bne_iff_ne, U64, U32, I64, Big, W, wv, Told, s64, MR, MB, Int.zero_mul, Int.zero_add, Int.add_zero, Int.mul_zero, IntKind.wrap_u64, IntKind.wrap_i64, IntKind.wrap_u32, ne_eq, forall_const, true_implies, show T.rel 18 = R18 from rfl, R18, show T.rel 29 = R29 from rfl, R29, show T.rel 38 = R38 from rfl, R38, show T.rel 39 = R39 from rfl, R39, show T.pre 18 = Q18 from rfl, Q18, show T.pre 29 = Q29 from rfl, Q29, show T.pre 39 = Q39 from rfl, Q39]
  revert hp
  generalize (E.r 0).i 0 = t
  generalize (E.r 0).i 1 = r
  generalize (E.r 0).i 2 = w
  generalize (E.r 0).i 3 = id
  generalize (E.r 0).i 4 = dt
  generalize (E.r 0).i 5 = dr
  generalize (E.r 0).i 6 = dw
  generalize (E.r 0).i 7 = l
  generalize (E.r 0).i 8 = s
  generalize (E.r 0).c 9 = a
  generalize (E.r 65541).c 0 = x5_0
  generalize (E.r 65543).c 0 = x7_0
  generalize (E.r 65547).i 0 = x11_0
  generalize (E.r 65547).i 1 = x11_1
  generalize (E.r 65547).i 2 = x11_2
  generalize (E.r 65552).c 0 = x16_0
  try simp only [mxI, mnI]
  try simp only [ltb, leb, eqb, Int.lt_irrefl, decide_false, Int.le_refl, decide_true]
  intro hp
  simp only [RQ]
  have d := due_right (t := t) (r := r) (w := w) (l := l) hp.1 hp.2.1.1
  have wt : PR r w → WT w := fun h => ⟨h.1, h.2.1⟩
  simp only [s64] at d
  have mu := mvt_u t r w l
  have ru := fun h : WT w => mvr_u r l h
  repeat' (first | assumption | (intro (h : _ ∧ _); obtain ⟨h1, h2⟩ := h; (first | (subst h1; revert h2) | revert h1 h2)) | (intro h; (first | subst h | skip)) | refine And.intro ?_ ?_)
  all_goals try (show False; refine absurd ?_ ‹¬ _›)
  all_goals repeat' (first | assumption | refine And.intro ?_ ?_)
  all_goals first | omega | grind
end Go.Proofs.YtjemohphaeiaiaaGreatDoor.Fn
namespace Go.Proofs.YtjemohphaeiaiaaGreatDoor.Fn
open Go Go.RowKit Go.Proofs.YtjemohphaeiaiaaGreatDoor.Sy
set_option linter.unusedVariables false
set_option linter.unusedSimpArgs false
set_option maxRecDepth 100000
def t16 : Tr :=
  .br (.f (.rel 29 [.num (.v 0 0), .num (.v 0 1), .num (.v 0 2), .num (.v 0 3), .num (.n 0), .num (.n 0), .num (.n 0), .num (.v 0 4), .num (.v 0 4), .tru (.lt (.n 0) (.n 0))] 65545 [.int .u64, .int .u32, .int .u32, .int .i64, .int .u64, .int .u32, .int .u32, .int .u64, .int .u64, .bool, .bool]) <|
   .ok [.num (.v 65545 0), .num (.v 65545 1), .num (.v 65545 2), .num (.v 65545 3), .num (.v 65545 4), .num (.v 65545 5), .num (.v 65545 6), .num (.v 65545 7), .num (.v 65545 8), .tru (.v 65545 9), .tru (.v 65545 10)])
  (.f (.npre 29 [.num (.v 0 0), .num (.v 0 1), .num (.v 0 2), .num (.v 0 3), .num (.n 0), .num (.n 0), .num (.n 0), .num (.v 0 4), .num (.v 0 4), .tru (.lt (.n 0) (.n 0))]) <|
   .bad)
theorem c16 : ConS Tryz.prog T C16 := con_tr (cs := [C29]) (lcs := []) (known := []) (cons_cons c29 (cons_nil _ _)) (Known.nil _) (N := 400) (d := 40) (t := t16) (by kernel_rfl) <| by
  intro E hl hp
  clear hl
  have hp := hp rfl
  simp only [C16, show T.pre 16 = Q16 from rfl, flatS, SP.flat, dvs, List.append_nil, List.cons_append, List.nil_append, Q16, U64, U32, I64, Big, W, wv, s64, MR, MB] at hp
  simp only [t16, C16, Tr.good, Fact.den, LX.den, DX.ls, DV.ls, DX.den, Bx.den, Ex.den, eo_add, eo_sub, eo_mul, eo_quo, eo_rem, eo_fdv, eo_mn, eo_mx, eo_land, eo_lor, eo_lxor, eo_landn, eo_shl, eo_shr, dvs, flatS, SP.flat, ST.flat, List.map_cons, List.map_nil, List.append_nil, List.cons_append, List.nil_append, ltb_t, ltb_f, leb_t, leb_f, eqb_t, eqb_f, decide_eq_true_eq, decide_eq_false_iff_not, Bool.not_eq_true', Bool.not_eq_false', Bool.and_eq_true, Bool.and_eq_false_imp, beq_iff_eq, beq_eq_false_iff_ne, bne_iff_ne, U64, U32, I64, Big, W, wv, Told, s64, MR, MB, Int.zero_mul, Int.zero_add, Int.add_zero, Int.mul_zero, IntKind.wrap_u64, IntKind.wrap_i64, IntKind.wrap_u32, ne_eq, forall_const, true_implies, show T.rel 16 = R16 from rfl, R16, show T.rel 29 = R29 from rfl, R29, show T.pre 16 = Q16 from rfl, Q16, show T.pre 29 = Q29 from rfl, Q29]
  revert hp
  generalize (E.r 0).i 0 = t
  generalize (E.r 0).i 1 = r
  generalize (E.r 0).i 2 = w
  generalize (E.r 0).i 3 = id
  generalize (E.r 0).i 4 = s
  generalize (E.r 65545).i 0 = x9_0
  generalize (E.r 65545).i 1 = x9_1
  generalize (E.r 65545).i 2 = x9_2
  generalize (E.r 65545).i 3 = x9_3
  generalize (E.r 65545).i 4 = x9_4
  generalize (E.r 65545).i 5 = x9_5
  generalize (E.r 65545).i 6 = x9_6
  generalize (E.r 65545).i 7 = x9_7
  generalize (E.r 65545).i 8 = x9_8
  generalize (E.r 65545).c 9 = x9_9
  generalize (E.r 65545).c 10 = x9_10
  try simp only [mxI, mnI]
  try simp only [ltb, leb, eqb, Int.lt_irrefl, decide_false, Int.le_refl, decide_true]
  intro hp
  repeat' (first | assumption | (intro (h : _ ∧ _); obtain ⟨h1, h2⟩ := h; (first | (subst h1; revert h2) | revert h1 h2)) | (intro h; (first | subst h | skip)) | refine And.intro ?_ ?_)
  all_goals try (show False; refine absurd ?_ ‹¬ _›)
  all_goals repeat' (first | assumption | refine And.intro ?_ ?_)
  all_goals first | omega | grind
end Go.Proofs.YtjemohphaeiaiaaGreatDoor.Fn
namespace Go.Proofs.YtjemohphaeiaiaaGreatDoor.Fn
open Go Go.RowKit Go.Proofs.YtjemohphaeiaiaaGreatDoor.Sy
set_option linter.unusedVariables false
set_option linter.unusedSimpArgs false
set_option maxRecDepth 100000
def t21 : Tr :=
  .br (.f (.rel 18 [.num (.v 0 0), .num (.v 0 1), .num (.v 0 2), .num (.v 0 3), .num (.v 0 4), .num (.v 0 5), .num (.v 0 6), .num (.v 0 7), .num (.v 0 8), .tru (.v 0 9)] 65540 [.bool]) <|
   .br (.f (.is (.v 65540 0) false) <|
    .ok [.num (.n 0), .num (.n 0), .num (.n 0), .num (.n 0), .num (.n 0), .num (.n 0), .num (.n 0), .num (.n 0), .num (.n 0), .tru (.lt (.n 0) (.n 0)), .tru (.lt (.n 0) (.n 0))])
   (.f (.is (.v 65540 0) true) <|
    .br (.f (.rel 29 [.num (.v 0 0), .num (.v 0 1), .num (.v 0 2), .num (.v 0 3), .num (.v 0 4), .num (.v 0 5), .num (.v 0 6), .num (.v 0 7), .num (.v 0 10), .tru (.v 0 9)] 65546 [.int .u64, .int .u32, .int .u32, .int .i64, .int .u64, .int .u32, .int .u32, .int .u64, .int .u64, .bool, .bool]) <|
     .ok [.num (.v 65546 0), .num (.v 65546 1), .num (.v 65546 2), .num (.v 65546 3), .num (.v 65546 4), .num (.v 65546 5), .num (.v 65546 6), .num (.v 65546 7), .num (.v 65546 8), .tru (.v 65546 9), .tru (.v 65546 10)])
    (.f (.npre 29 [.num (.v 0 0), .num (.v 0 1), .num (.v 0 2), .num (.v 0 3), .num (.v 0 4), .num (.v 0 5), .num (.v 0 6), .num (.v 0 7), .num (.v 0 10), .tru (.v 0 9)]) <|
     .bad)))
  (.f (.npre 18 [.num (.v 0 0), .num (.v 0 1), .num (.v 0 2), .num (.v 0 3), .num (.v 0 4), .num (.v 0 5), .num (.v 0 6), .num (.v 0 7), .num (.v 0 8), .tru (.v 0 9)]) <|
   .bad)
theorem c21 : ConS Tryz.prog T C21 := con_tr (cs := [C18, C29]) (lcs := []) (known := []) (cons_cons c18 (cons_cons c29 (cons_nil _ _))) (Known.nil _) (N := 400) (d := 40) (t := t21) (by kernel_rfl) <| by
  intro E hl hp
  clear hl
  have hp := hp rfl
  simp only [C21, show T.pre 21 = Q21 from rfl, flatS, SP.flat, dvs, List.append_nil, List.cons_append, List.nil_append, Q21, U64, U32, I64, Big, W, wv, s64, MR, MB] at hp
  simp only [t21, C21, Tr.good, Fact.den, LX.den, DX.ls, DV.ls, DX.den, Bx.den, Ex.den, eo_add, eo_sub, eo_mul, eo_quo, eo_rem, eo_fdv, eo_mn, eo_mx, eo_land, eo_lor, eo_lxor, eo_landn, eo_shl, eo_shr, dvs, flatS, SP.flat, ST.flat, List.map_cons, List.map_nil, List.append_nil, List.cons_append, List.nil_append, ltb_t, ltb_f, leb_t, leb_f, eqb_t, eqb_f, decide_eq_true_eq, decide_eq_false_iff_not, Bool.not_eq_true', Bool.not_eq_false', Bool.and_eq_true, Bool.and_eq_false_imp, beq_iff_eq, beq_eq_false_iff_ne, bne_iff_ne, U64, U32, I64, Big, W, wv, Told, s64, MR, MB, Int.zero_mul, Int.zero_add, Int.add_zero, Int.mul_zero, IntKind.wrap_u64, IntKind.wrap_i64, IntKind.wrap_u32, ne_eq, forall_const, true_implies, show T.rel 18 = R18 from rfl, R18, show T.rel 21 = R21 from rfl, R21, show T.rel 29 = R29 from rfl, R29, show T.pre 18 = Q18 from rfl, Q18, show T.pre 21 = Q21 from rfl, Q21, show T.pre 29 = Q29 from rfl, Q29]
  revert hp
  generalize (E.r 0).i 0 = t
  generalize (E.r 0).i 1 = r
  generalize (E.r 0).i 2 = w
  generalize (E.r 0).i 3 = id
  generalize (E.r 0).i 4 = dt
  generalize (E.r 0).i 5 = dr
  generalize (E.r 0).i 6 = dw
  generalize (E.r 0).i 7 = l
  generalize (E.r 0).i 8 = s
  generalize (E.r 0).c 9 = a
  generalize (E.r 0).i 10 = y
  generalize (E.r 65540).c 0 = x4_0
  generalize (E.r 65546).i 0 = x10_0
  generalize (E.r 65546).i 1 = x10_1
  generalize (E.r 65546).i 2 = x10_2
  generalize (E.r 65546).i 3 = x10_3
  generalize (E.r 65546).i 4 = x10_4
  generalize (E.r 65546).i 5 = x10_5
  generalize (E.r 65546).i 6 = x10_6
  generalize (E.r 65546).i 7 = x10_7
  generalize (E.r 65546).i 8 = x10_8
  generalize (E.r 65546).c 9 = x10_9
  generalize (E.r 65546).c 10 = x10_10
  try simp only [mxI, mnI]
  try simp only [ltb, leb, eqb, Int.lt_irrefl, decide_false, Int.le_refl, decide_true]
  intro hp
  have e : RQ t r w id dt dr dw l s → PR r w ∧ 0 < id ∧ NS l ∧ dt = mvt t r w l ∧ dr = mvr r w l ∧ dw = w := fun h => ⟨h.1, h.2.1, h.2.2.1, h.2.2.2.2.1, h.2.2.2.2.2.1, h.2.2.2.2.2.2⟩
  repeat' (first | assumption | (intro (h : _ ∧ _); obtain ⟨h1, h2⟩ := h; (first | (subst h1; revert h2) | revert h1 h2)) | (intro h; (first | subst h | skip)) | refine And.intro ?_ ?_)
  all_goals try (show False; refine absurd ?_ ‹¬ _›)
  all_goals repeat' (first | assumption | refine And.intro ?_ ?_)
  all_goals first | omega | grind
end Go.Proofs.YtjemohphaeiaiaaGreatDoor.Fn
namespace Go.Proofs.YtjemohphaeiaiaaGreatDoor.Fn
open Go Go.RowKit Go.Proofs.YtjemohphaeiaiaaGreatDoor.Sy
set_option linter.unusedVariables false
set_option linter.unusedSimpArgs false
set_option maxRecDepth 100000
def t22 : Tr :=
  .br (.f (.rel 18 [.num (.v 0 0), .num (.v 0 1), .num (.v 0 2), .num (.v 0 3), .num (.v 0 4), .num (.v 0 5), .num (.v 0 6), .num (.v 0 7), .num (.v 0 8), .tru (.v 0 9)] 65541 [.bool]) <|
   .br (.f (.is (.v 65541 0) false) <|
    .ok [.num (.n 0), .num (.n 0), .num (.n 0), .num (.n 0), .num (.n 0), .num (.n 0), .num (.n 0), .num (.n 0), .num (.n 0), .tru (.lt (.n 0) (.n 0)), .tru (.lt (.n 0) (.n 0))])
   (.f (.is (.v 65541 0) true) <|
    .br (.f (.rel 29 [.num (.v 0 10), .num (.v 0 11), .num (.v 0 12), .num (.v 0 3), .num (.v 0 4), .num (.v 0 5), .num (.v 0 6), .num (.v 0 7), .num (.v 0 8), .tru (.v 0 9)] 65548 [.int .u64, .int .u32, .int .u32, .int .i64, .int .u64, .int .u32, .int .u32, .int .u64, .int .u64, .bool, .bool]) <|
     .ok [.num (.v 65548 0), .num (.v 65548 1), .num (.v 65548 2), .num (.v 65548 3), .num (.v 65548 4), .num (.v 65548 5), .num (.v 65548 6), .num (.v 65548 7), .num (.v 65548 8), .tru (.v 65548 9), .tru (.v 65548 10)])
    (.f (.npre 29 [.num (.v 0 10), .num (.v 0 11), .num (.v 0 12), .num (.v 0 3), .num (.v 0 4), .num (.v 0 5), .num (.v 0 6), .num (.v 0 7), .num (.v 0 8), .tru (.v 0 9)]) <|
     .bad)))
  (.f (.npre 18 [.num (.v 0 0), .num (.v 0 1), .num (.v 0 2), .num (.v 0 3), .num (.v 0 4), .num (.v 0 5), .num (.v 0 6), .num (.v 0 7), .num (.v 0 8), .tru (.v 0 9)]) <|
   .bad)
theorem c22 : ConS Tryz.prog T C22 := con_tr (cs := [C18, C29]) (lcs := []) (known := []) (cons_cons c18 (cons_cons c29 (cons_nil _ _))) (Known.nil _) (N := 400) (d := 40) (t := t22) (by kernel_rfl) <| by
  intro E hl hp
  clear hl
  have hp := hp rfl
  simp only [C22, show T.pre 22 = Q22 from rfl, flatS, SP.flat, dvs, List.append_nil, List.cons_append, List.nil_append, Q22, U64, U32, I64, Big, W, wv, s64, MR, MB] at hp
  simp only [t22, C22, Tr.good, Fact.den, LX.den, DX.ls, DV.ls, DX.den, Bx.den, Ex.den, eo_add, eo_sub, eo_mul, eo_quo, eo_rem, eo_fdv, eo_mn, eo_mx, eo_land, eo_lor, eo_lxor, eo_landn, eo_shl, eo_shr, dvs, flatS, SP.flat, ST.flat, List.map_cons, List.map_nil, List.append_nil, List.cons_append, List.nil_append, ltb_t, ltb_f, leb_t, leb_f, eqb_t, eqb_f, decide_eq_true_eq, decide_eq_false_iff_not, Bool.not_eq_true', Bool.not_eq_false', Bool.and_eq_true, Bool.and_eq_false_imp, beq_iff_eq, beq_eq_false_iff_ne, bne_iff_ne, U64, U32, I64, Big, W, wv, Told, s64, MR, MB, Int.zero_mul, Int.zero_add, Int.add_zero, Int.mul_zero, IntKind.wrap_u64, IntKind.wrap_i64, IntKind.wrap_u32, ne_eq, forall_const, true_implies, show T.rel 18 = R18 from rfl, R18, show T.rel 22 = R22 from rfl, R22, show T.rel 29 = R29 from rfl, R29, show T.pre 18 = Q18 from rfl, Q18, show T.pre 22 = Q22 from rfl, Q22, show T.pre 29 = Q29 from rfl, Q29]
  revert hp
  generalize (E.r 0).i 0 = t
  generalize (E.r 0).i 1 = r
  generalize (E.r 0).i 2 = w
  generalize (E.r 0).i 3 = id
  generalize (E.r 0).i 4 = dt
  generalize (E.r 0).i 5 = dr
  generalize (E.r 0).i 6 = dw
  generalize (E.r 0).i 7 = l
  generalize (E.r 0).i 8 = s
  generalize (E.r 0).c 9 = a
  generalize (E.r 0).i 10 = u
  generalize (E.r 0).i 11 = q
  generalize (E.r 0).i 12 = v
  generalize (E.r 65541).c 0 = x5_0
  generalize (E.r 65548).i 0 = x12_0
  generalize (E.r 65548).i 1 = x12_1
  generalize (E.r 65548).i 2 = x12_2
  generalize (E.r 65548).i 3 = x12_3
  generalize (E.r 65548).i 4 = x12_4
  generalize (E.r 65548).i 5 = x12_5
  generalize (E.r 65548).i 6 = x12_6
  generalize (E.r 65548).i 7 = x12_7
  generalize (E.r 65548).i 8 = x12_8
  generalize (E.r 65548).c 9 = x12_9
  generalize (E.r 65548).c 10 = x12_10
  try simp only [mxI, mnI]
  try simp only [ltb, leb, eqb, Int.lt_irrefl, decide_false, Int.le_refl, decide_true]
  intro hp
  have e : RQ t r w id dt dr dw l s → 0 < id ∧ NS l ∧ NS s := fun h => ⟨h.2.1, h.2.2.1, h.2.2.2.1⟩
  repeat' (first | assumption | (intro (h : _ ∧ _); obtain ⟨h1, h2⟩ := h; (first | (subst h1; revert h2) | revert h1 h2)) | (intro h; (first | subst h | skip)) | refine And.intro ?_ ?_)
  all_goals try (show False; refine absurd ?_ ‹¬ _›)
  all_goals repeat' (first | assumption | refine And.intro ?_ ?_)
  all_goals first | omega | grind
end Go.Proofs.YtjemohphaeiaiaaGreatDoor.Fn
namespace Go.Proofs.YtjemohphaeiaiaaGreatDoor.Fn
open Go Go.RowKit Go.Proofs.YtjemohphaeiaiaaGreatDoor.Sy
set_option linter.unusedVariables false
set_option linter.unusedSimpArgs false
set_option maxRecDepth 100000
def t66 : Tr :=
  .br (.f (.rel 106601 [.lst 0 1] 65538 [.list [.int .i64]]) <|
   .br (.f (.is (.lt (.n 0) (.len 65538 0)) true) <|
    .br (.f (.is (.lt (.wrap .i64 (.bin .sub (.len 65538 0) (.n 1))) (.n 0)) false) <|
     .br (.f (.is (.lt (.wrap .i64 (.bin .sub (.len 65538 0) (.n 1))) (.len 65538 0)) true) <|
      .br (.f (.is (.eq (.at 65538 0 (.wrap .i64 (.bin .sub (.len 65538 0) (.n 1))) 0) (.n 0)) false) <|
       .br (.f (.is (.eq (.len 65538 0) (.n 0)) true) <|
        .ok [.tru (.lt (.n 0) (.n 0)), .rows []])
       (.f (.is (.eq (.len 65538 0) (.n 0)) false) <|
        .ok [.tru (.v 0 0), .lst 65538 0]))
      (.f (.is (.eq (.at 65538 0 (.wrap .i64 (.bin .sub (.len 65538 0) (.n 1))) 0) (.n 0)) true) <|
       .br (.f (.is (.le (.wrap .i64 (.bin .sub (.len 65538 0) (.n 1))) (.len 65538 0)) false) <|
        .bad)
       (.f (.is (.le (.wrap .i64 (.bin .sub (.len 65538 0) (.n 1))) (.len 65538 0)) true) <|
        .f (.lseq 65560 (.sub (.lst 65538 0) (.n 0) (.wrap .i64 (.bin .sub (.len 65538 0) (.n 1))))) <|
         .br (.f (.nrel 106601 [.lst 0 1] [.lst 65560 0]) <|
          .bad)
         (.f (.ndec 106601 [.lst 0 1] [.lst 65538 0] [.lst 65560 0]) <|
          .bad))))
     (.f (.is (.lt (.wrap .i64 (.bin .sub (.len 65538 0) (.n 1))) (.len 65538 0)) false) <|
      .bad))
    (.f (.is (.lt (.wrap .i64 (.bin .sub (.len 65538 0) (.n 1))) (.n 0)) true) <|
     .bad))
   (.f (.is (.lt (.n 0) (.len 65538 0)) false) <|
    .br (.f (.is (.eq (.len 65538 0) (.n 0)) true) <|
     .ok [.tru (.lt (.n 0) (.n 0)), .rows []])
    (.f (.is (.eq (.len 65538 0) (.n 0)) false) <|
     .ok [.tru (.v 0 0), .lst 65538 0])))
  (.f (.nrel 106601 [.lst 0 1] [.lst 0 1]) <|
   .bad)
theorem c66 : ConS Tryz.prog T C66 := con_tr (cs := []) (lcs := [L106601]) (known := []) (cons_nil _ _) (Known.nil _) (N := 400) (d := 40) (t := t66) (by kernel_rfl) <| by
  intro E hl hp
  have hl1 := hl 1 _ rfl
  clear hl
  have hp := hp rfl
  simp only [C66, show T.pre 66 = Q66 from rfl, flatS, SP.flat, dvs, List.append_nil, List.cons_append, List.nil_append, Q66, U64, U32, I64, Big, W, wv, s64, WT, PR, MR, MB] at hp
  simp only [t66, C66, Tr.good, Fact.den, LX.den, DX.ls, DV.ls, DX.den, Bx.den, Ex.den, eo_add, eo_sub, eo_mul, eo_quo, eo_rem, eo_fdv, eo_mn, eo_mx, eo_land, eo_lor, eo_lxor, eo_landn, eo_shl, eo_shr, dvs, flatS, SP.flat, ST.flat, List.map_cons, List.map_nil, List.append_nil, List.cons_append, List.nil_append, ltb_t, ltb_f, leb_t, leb_f, eqb_t, eqb_f, decide_eq_true_eq, decide_eq_false_iff_not, Bool.not_eq_true', Bool.not_eq_false', Bool.and_eq_true, Bool.and_eq_false_imp, beq_iff_eq, beq_eq_false_iff_ne, bne_iff_ne, U64, U32, I64, Big, W, wv, Told, s64, WT, PR, MR, MB, Int.zero_mul, Int.zero_add, Int.add_zero, Int.mul_zero, IntKind.wrap_u64, IntKind.wrap_i64, IntKind.wrap_u32, ne_eq, forall_const, true_implies, show T.rel 66 = R66 from rfl, R66, show T.rel 106601 = R106601 from rfl, R106601, show T.mu 106601 = M106601 from rfl, M106601, show T.pre 66 = Q66 from rfl, Q66]
  revert hp hl1
  generalize (E.r 0).c 0 = n
  generalize (E.r 0).l 1 = l
  generalize (E.r 65538).l 0 = x2_0
  generalize (E.r 65560).l 0 = x24_0
  try simp only [mxI, mnI]
  try simp only [ltb, leb, eqb, Int.lt_irrefl, decide_false, Int.le_refl, decide_true]
  intro hl hp
  refine ⟨fun ⟨i0, i1, i2⟩ => ?_, fun n => n ⟨hp.1, hp.2, by first | trivial | rfl⟩⟩
  have hb : bval n l = bval n x2_0 := by simp only [bval, i2]
  have z : x2_0.length = 0 → BOK false [] ∧ bval false [] = bval n l := by
    intro h
    rw [List.eq_nil_of_length_eq_zero h] at hb
    rw [hb]
    refine ⟨BOK_nil, ?_⟩
    cases n <;> rfl
  by_cases h0 : x2_0.length = 0
  · have := z h0
    refine ⟨by omega, fun _ => ⟨fun _ => this, by omega⟩⟩
  obtain ⟨k, hk⟩ : ∃ k, x2_0.length = k + 1 := ⟨x2_0.length - 1, by omega⟩
  have ew : ((x2_0.length : Int) - 1 + 9223372036854775808) % 18446744073709551616 - 9223372036854775808 = (k : Int) := by omega
  simp only [ew, Int.toNat_natCast, Int.toNat_zero, List.drop_zero]
  refine ⟨fun _ => ⟨fun _ => ⟨fun _ => ⟨fun c => ⟨by omega, fun _ => ?_⟩, fun c => ⟨by omega, fun _ e => ?_⟩⟩, by omega⟩, by omega⟩, by omega⟩
  · exact ⟨⟨i0, fun _ => by rw [hk, show ((k + 1 : Nat) : Int) - 1 = k by omega]; exact c, by omega⟩, hb.symm⟩
  · subst e
    have e1 := dval_trim hk c
    refine ⟨fun n => n ⟨dig_take i0 k, by rw [List.length_take]; omega, by rw [e1]; exact i2⟩, fun n => n (by rw [List.length_take]; omega)⟩
end Go.Proofs.YtjemohphaeiaiaaGreatDoor.Fn
namespace Go.Proofs.YtjemohphaeiaiaaGreatDoor.Fn
open Go Go.RowKit Go.Proofs.YtjemohphaeiaiaaGreatDoor.Sy
set_option linter.unusedVariables false
set_option linter.unusedSimpArgs false
set_option maxRecDepth 100000
def t70 : Tr :=
  .br (.f (.is (.lt (.v 0 2) (.len 0 1)) true) <|
   .br (.f (.is (.lt (.v 0 2) (.n 0)) false) <|
    .ok [.num (.at 0 1 (.v 0 2) 0)])
   (.f (.is (.lt (.v 0 2) (.n 0)) true) <|
    .bad))
  (.f (.is (.lt (.v 0 2) (.len 0 1)) false) <|
   .ok [.num (.n 0)])
theorem c70 : ConS Tryz.prog T C70 := con_tr (cs := []) (lcs := []) (known := []) (cons_nil _ _) (Known.nil _) (N := 400) (d := 40) (t := t70) (by kernel_rfl) <| by
  intro E hl hp
  have hl1 := hl 1 _ rfl
  clear hl
  have hp := hp rfl
  simp only [C70, show T.pre 70 = Q70 from rfl, flatS, SP.flat, dvs, List.append_nil, List.cons_append, List.nil_append, Q70, U64, U32, I64, Big, W, wv, s64, WT, PR, MR, MB] at hp
  simp only [t70, C70, Tr.good, Fact.den, LX.den, DX.ls, DV.ls, DX.den, Bx.den, Ex.den, eo_add, eo_sub, eo_mul, eo_quo, eo_rem, eo_fdv, eo_mn, eo_mx, eo_land, eo_lor, eo_lxor, eo_landn, eo_shl, eo_shr, dvs, flatS, SP.flat, ST.flat, List.map_cons, List.map_nil, List.append_nil, List.cons_append, List.nil_append, ltb_t, ltb_f, leb_t, leb_f, eqb_t, eqb_f, decide_eq_true_eq, decide_eq_false_iff_not, Bool.not_eq_true', Bool.not_eq_false', Bool.and_eq_true, Bool.and_eq_false_imp, beq_iff_eq, beq_eq_false_iff_ne, bne_iff_ne, U64, U32, I64, Big, W, wv, Told, s64, WT, PR, MR, MB, Int.zero_mul, Int.zero_add, Int.add_zero, Int.mul_zero, IntKind.wrap_u64, IntKind.wrap_i64, IntKind.wrap_u32, ne_eq, forall_const, true_implies, show T.rel 70 = R70 from rfl, R70, show T.pre 70 = Q70 from rfl, Q70]
  revert hp hl1
  generalize (E.r 0).c 0 = n
  generalize (E.r 0).l 1 = l
  generalize (E.r 0).i 2 = i
  try simp only [mxI, mnI]
  try simp only [ltb, leb, eqb, Int.lt_irrefl, decide_false, Int.le_refl, decide_true]
  intro hl hp
  refine ⟨fun h => ⟨fun _ => trivial, by omega⟩, fun h => ?_⟩
  exact (rowAt_out (by omega) 0).symm
end Go.Proofs.YtjemohphaeiaiaaGreatDoor.Fn
namespace Go.Proofs.YtjemohphaeiaiaaGreatDoor.Fn
open Go Go.RowKit Go.Proofs.YtjemohphaeiaiaaGreatDoor.Sy
set_option linter.unusedVariables false
set_option linter.unusedSimpArgs false
set_option maxRecDepth 100000
def t67 : Tr :=
  .br (.f (.rel 106704 [.lst 0 1, .lst 0 3, .rows [], .num (.n 0), .num (.n 0)] 65542 [.list [.int .i64], .int .i64, .int .i64]) <|
   .br (.f (.is (.lt (.v 65542 2) (.len 0 1)) false) <|
    .br (.f (.is (.lt (.v 65542 2) (.len 0 3)) false) <|
     .br (.f (.is (.lt (.n 0) (.v 65542 1)) false) <|
      .ok [.lst 65542 0])
     (.f (.is (.lt (.n 0) (.v 65542 1)) true) <|
      .br (.f (.npre 70 [.tru (.v 0 0), .lst 0 1, .num (.v 65542 2)]) <|
       .bad)
      (.f (.rel 70 [.tru (.v 0 0), .lst 0 1, .num (.v 65542 2)] 65561 [.int .i64]) <|
       .br (.f (.npre 70 [.tru (.v 0 2), .lst 0 3, .num (.v 65542 2)]) <|
        .bad)
       (.f (.rel 70 [.tru (.v 0 2), .lst 0 3, .num (.v 65542 2)] 65564 [.int .i64]) <|
        .f (.is (.eq (.v 65569 0) (.wrap .i64 (.bin .add (.wrap .i64 (.bin .add (.v 65561 0) (.v 65564 0))) (.v 65542 1)))) true) <|
         .br (.f (.is (.le (.len 65542 0) (.n 1000000000)) false) <|
          .bad)
         (.f (.is (.le (.len 65542 0) (.n 1000000000)) true) <|
          .f (.lseq 65574 (.app (.lst 65542 0) (.rows [[.bin .rem (.v 65569 0) (.n 10000)]]))) <|
           .br (.f (.nrel 106704 [.lst 0 1, .lst 0 3, .rows [], .num (.n 0), .num (.n 0)] [.lst 65574 0, .num (.wrap .i64 (.bin .quo (.v 65569 0) (.n 10000))), .num (.wrap .i64 (.bin .add (.v 65542 2) (.n 1)))]) <|
            .bad)
           (.f (.ndec 106704 [.lst 0 1, .lst 0 3, .rows [], .num (.n 0), .num (.n 0)] [.lst 65542 0, .num (.v 65542 1), .num (.v 65542 2)] [.lst 65574 0, .num (.wrap .i64 (.bin .quo (.v 65569 0) (.n 10000))), .num (.wrap .i64 (.bin .add (.v 65542 2) (.n 1)))]) <|
            .bad))))))
    (.f (.is (.lt (.v 65542 2) (.len 0 3)) true) <|
     .br (.f (.npre 70 [.tru (.v 0 0), .lst 0 1, .num (.v 65542 2)]) <|
      .bad)
     (.f (.rel 70 [.tru (.v 0 0), .lst 0 1, .num (.v 65542 2)] 65561 [.int .i64]) <|
      .br (.f (.npre 70 [.tru (.v 0 2), .lst 0 3, .num (.v 65542 2)]) <|
       .bad)
      (.f (.rel 70 [.tru (.v 0 2), .lst 0 3, .num (.v 65542 2)] 65564 [.int .i64]) <|
       .f (.is (.eq (.v 65569 0) (.wrap .i64 (.bin .add (.wrap .i64 (.bin .add (.v 65561 0) (.v 65564 0))) (.v 65542 1)))) true) <|
        .br (.f (.is (.le (.len 65542 0) (.n 1000000000)) false) <|
         .bad)
        (.f (.is (.le (.len 65542 0) (.n 1000000000)) true) <|
         .f (.lseq 65574 (.app (.lst 65542 0) (.rows [[.bin .rem (.v 65569 0) (.n 10000)]]))) <|
          .br (.f (.nrel 106704 [.lst 0 1, .lst 0 3, .rows [], .num (.n 0), .num (.n 0)] [.lst 65574 0, .num (.wrap .i64 (.bin .quo (.v 65569 0) (.n 10000))), .num (.wrap .i64 (.bin .add (.v 65542 2) (.n 1)))]) <|
           .bad)
          (.f (.ndec 106704 [.lst 0 1, .lst 0 3, .rows [], .num (.n 0), .num (.n 0)] [.lst 65542 0, .num (.v 65542 1), .num (.v 65542 2)] [.lst 65574 0, .num (.wrap .i64 (.bin .quo (.v 65569 0) (.n 10000))), .num (.wrap .i64 (.bin .add (.v 65542 2) (.n 1)))]) <|
           .bad))))))
   (.f (.is (.lt (.v 65542 2) (.len 0 1)) true) <|
    .br (.f (.npre 70 [.tru (.v 0 0), .lst 0 1, .num (.v 65542 2)]) <|
     .bad)
    (.f (.rel 70 [.tru (.v 0 0), .lst 0 1, .num (.v 65542 2)] 65561 [.int .i64]) <|
     .br (.f (.npre 70 [.tru (.v 0 2), .lst 0 3, .num (.v 65542 2)]) <|
      .bad)
     (.f (.rel 70 [.tru (.v 0 2), .lst 0 3, .num (.v 65542 2)] 65564 [.int .i64]) <|
      .f (.is (.eq (.v 65569 0) (.wrap .i64 (.bin .add (.wrap .i64 (.bin .add (.v 65561 0) (.v 65564 0))) (.v 65542 1)))) true) <|
       .br (.f (.is (.le (.len 65542 0) (.n 1000000000)) false) <|
        .bad)
       (.f (.is (.le (.len 65542 0) (.n 1000000000)) true) <|
        .f (.lseq 65574 (.app (.lst 65542 0) (.rows [[.bin .rem (.v 65569 0) (.n 10000)]]))) <|
         .br (.f (.nrel 106704 [.lst 0 1, .lst 0 3, .rows [], .num (.n 0), .num (.n 0)] [.lst 65574 0, .num (.wrap .i64 (.bin .quo (.v 65569 0) (.n 10000))), .num (.wrap .i64 (.bin .add (.v 65542 2) (.n 1)))]) <|
          .bad)
         (.f (.ndec 106704 [.lst 0 1, .lst 0 3, .rows [], .num (.n 0), .num (.n 0)] [.lst 65542 0, .num (.v 65542 1), .num (.v 65542 2)] [.lst 65574 0, .num (.wrap .i64 (.bin .quo (.v 65569 0) (.n 10000))), .num (.wrap .i64 (.bin .add (.v 65542 2) (.n 1)))]) <|
          .bad))))))
  (.f (.nrel 106704 [.lst 0 1, .lst 0 3, .rows [], .num (.n 0), .num (.n 0)] [.rows [], .num (.n 0), .num (.n 0)]) <|
   .bad)
theorem c67 : ConS Tryz.prog T C67 := con_tr (cs := [C70]) (lcs := [L106704]) (known := []) (cons_cons c70 (cons_nil _ _)) (Known.nil _) (N := 400) (d := 40) (t := t67) (by kernel_rfl) <| by
  intro E hl hp
  have hl1 := hl 1 _ rfl
  have hl3 := hl 3 _ rfl
  clear hl
  have hp := hp rfl
  simp only [C67, show T.pre 67 = Q67 from rfl, flatS, SP.flat, dvs, List.append_nil, List.cons_append, List.nil_append, Q67, U64, U32, I64, Big, W, wv, s64, WT, PR, MR, MB] at hp
  simp only [t67, C67, Tr.good, Fact.den, LX.den, DX.ls, DV.ls, DX.den, Bx.den, Ex.den, eo_add, eo_sub, eo_mul, eo_quo, eo_rem, eo_fdv, eo_mn, eo_mx, eo_land, eo_lor, eo_lxor, eo_landn, eo_shl, eo_shr, dvs, flatS, SP.flat, ST.flat, List.map_cons, List.map_nil, List.append_nil, List.cons_append, List.nil_append, ltb_t, ltb_f, leb_t, leb_f, eqb_t, eqb_f, decide_eq_true_eq, decide_eq_false_iff_not, Bool.not_eq_true', Bool.not_eq_false', Bool.and_eq_true, Bool.and_eq_false_imp, beq_iff_eq, beq_eq_false_iff_ne, bne_iff_ne, U64, U32, I64, Big, W, wv, Told, s64, WT, PR, MR, MB, Int.zero_mul, Int.zero_add, Int.add_zero, Int.mul_zero, IntKind.wrap_u64, IntKind.wrap_i64, IntKind.wrap_u32, ne_eq, forall_const, true_implies, show T.rel 67 = R67 from rfl, R67, show T.rel 70 = R70 from rfl, R70, show T.rel 106704 = R106704 from rfl, R106704, show T.mu 106704 = M106704 from rfl, M106704, show T.pre 67 = Q67 from rfl, Q67, show T.pre 70 = Q70 from rfl, Q70]
  revert hp hl1 hl3
  generalize (E.r 0).c 0 = an
  generalize (E.r 0).l 1 = al
  generalize (E.r 0).c 2 = bn
  generalize (E.r 0).l 3 = bl
  generalize (E.r 65542).l 0 = x6_0
  generalize (E.r 65542).i 1 = x6_1
  generalize (E.r 65542).i 2 = x6_2
  generalize (E.r 65561).i 0 = x25_0
  generalize (E.r 65564).i 0 = x28_0
  generalize (E.r 65569).i 0 = x33_0
  generalize (E.r 65574).l 0 = x38_0
  try simp only [mxI, mnI]
  try simp only [ltb, leb, eqb, Int.lt_irrefl, decide_false, Int.le_refl, decide_true]
  intro hal hbl hp
  obtain ⟨da, db, la, lb⟩ := hp
  refine ⟨fun ⟨i0, i1, i2, i3, i4, i5, i6⟩ => ?_, fun n => n ⟨by first | trivial | omega, by first | trivial | rfl, dig_nil, by first | trivial | omega, by first | trivial | omega, by first | trivial | omega, by simp [dval, P4]⟩⟩
  obtain ⟨k, rfl⟩ := Int.eq_ofNat_of_zero_le i0
  have hk : x6_0.length = k := by omega
  have ew : ((k : Int) + 1 + 9223372036854775808) % 18446744073709551616 - 9223372036854775808 = ((k + 1 : Nat) : Int) := by omega
  simp only [ew, Int.toNat_natCast] at *
  have ra := da k
  have rb := db k
  have step : ∀ s : Int, s = Sy.rowAt al k 0 + Sy.rowAt bl k 0 + x6_1 → (k < al.length ∨ k < bl.length ∨ 0 < x6_1) → ∀ y : List (List Int), y = x6_0 ++ [[s.tmod 10000]] →
      (0 ≤ ((k + 1 : Nat) : Int) ∧ (y.length : Int) = ((k + 1 : Nat) : Int) ∧ dig y ∧ 0 ≤ (s.tdiv 10000 + 9223372036854775808) % 18446744073709551616 - 9223372036854775808 ∧ (s.tdiv 10000 + 9223372036854775808) % 18446744073709551616 - 9223372036854775808 ≤ 1 ∧
        (((k + 1 : Nat) : Int) ≤ al.length ∨ ((k + 1 : Nat) : Int) ≤ bl.length ∨ (s.tdiv 10000 + 9223372036854775808) % 18446744073709551616 - 9223372036854775808 = 0 ∧ (((k + 1 : Nat) : Int) ≤ al.length + 1 ∨ ((k + 1 : Nat) : Int) ≤ bl.length + 1)) ∧
        dval y + P4 (k + 1) * ((s.tdiv 10000 + 9223372036854775808) % 18446744073709551616 - 9223372036854775808 + dval (al.drop (k + 1)) + dval (bl.drop (k + 1))) = dval al + dval bl) := by
    intro s hs ho y hy
    have s0 : 0 ≤ s := by omega
    rw [Int.tmod_eq_emod_of_nonneg s0] at hy
    rw [Int.tdiv_eq_ediv_of_nonneg s0]
    have eq : (s / 10000 + 9223372036854775808) % 18446744073709551616 - 9223372036854775808 = s / 10000 := by omega
    rw [eq]
    subst hy
    refine ⟨by omega, by simp [hk], dig_snoc i2 (by omega) (by omega), by omega, by omega, ?_, ?_⟩
    · by_cases c1 : k < al.length
      · left; omega
      · by_cases c2 : k < bl.length
        · right; left; omega
        · have := rowAt_out (L := al) (i := k) (by omega) 0
          have := rowAt_out (L := bl) (i := k) (by omega) 0
          right; right; omega
    · rw [dval_snoc, hk]
      rw [dval_drop al k, dval_drop bl k] at i6
      have em : s = 10000 * (s / 10000) + s % 10000 := by omega
      have e2 : x6_1 + (Sy.rowAt al k 0 + 10000 * dval (al.drop (k + 1))) + (Sy.rowAt bl k 0 + 10000 * dval (bl.drop (k + 1))) = s + 10000 * dval (al.drop (k + 1)) + 10000 * dval (bl.drop (k + 1)) := by omega
      rw [e2] at i6
      simp only [P4]
      generalize s / 10000 = q at *
      generalize s % 10000 = r at *
      subst em
      grind
  repeat' (first | exact i2 | intro _ | refine And.intro ?_ ?_)
  all_goals first
    | omega
    | (rename_i n; exact n (step _ (by omega) (by omega) _ (by assumption)))
    | exact i2
    | (rw [List.drop_of_length_le (show al.length ≤ k by omega), List.drop_of_length_le (show bl.length ≤ k by omega)] at i6
       simp only [dval, Int.add_zero, Int.zero_add] at i6
       have : x6_1 = 0 := by omega
       rw [this] at i6
       omega)
end Go.Proofs.YtjemohphaeiaiaaGreatDoor.Fn
namespace Go.Proofs.YtjemohphaeiaiaaGreatDoor.Fn
open Go Go.RowKit Go.Proofs.YtjemohphaeiaiaaGreatDoor.Sy
set_option linter.unusedVariables false
set_option linter.unusedSimpArgs false
set_option maxRecDepth 100000
def t68 : Tr :=
  .br (.f (.rel 106802 [.lst 0 1, .lst 0 3, .num (.wrap .i64 (.bin .sub (.bin .mx (.len 0 1) (.len 0 3)) (.n 1)))] 65548 [.int .i64]) <|
   .br (.f (.is (.le (.n 0) (.v 65548 0)) true) <|
    .br (.f (.rel 70 [.tru (.v 0 0), .lst 0 1, .num (.v 65548 0)] 65553 [.int .i64]) <|
     .br (.f (.rel 70 [.tru (.v 0 2), .lst 0 3, .num (.v 65548 0)] 65556 [.int .i64]) <|
      .br (.f (.is (.lt (.v 65553 0) (.v 65556 0)) true) <|
       .ok [.num (.n (-1))])
      (.f (.is (.lt (.v 65553 0) (.v 65556 0)) false) <|
       .br (.f (.rel 70 [.tru (.v 0 0), .lst 0 1, .num (.v 65548 0)] 65560 [.int .i64]) <|
        .br (.f (.rel 70 [.tru (.v 0 2), .lst 0 3, .num (.v 65548 0)] 65563 [.int .i64]) <|
         .br (.f (.is (.lt (.v 65563 0) (.v 65560 0)) true) <|
          .ok [.num (.n 1)])
         (.f (.is (.lt (.v 65563 0) (.v 65560 0)) false) <|
          .br (.f (.nrel 106802 [.lst 0 1, .lst 0 3, .num (.wrap .i64 (.bin .sub (.bin .mx (.len 0 1) (.len 0 3)) (.n 1)))] [.num (.wrap .i64 (.bin .sub (.v 65548 0) (.n 1)))]) <|
           .bad)
          (.f (.ndec 106802 [.lst 0 1, .lst 0 3, .num (.wrap .i64 (.bin .sub (.bin .mx (.len 0 1) (.len 0 3)) (.n 1)))] [.num (.v 65548 0)] [.num (.wrap .i64 (.bin .sub (.v 65548 0) (.n 1)))]) <|
           .bad)))
        (.f (.npre 70 [.tru (.v 0 2), .lst 0 3, .num (.v 65548 0)]) <|
         .bad))
       (.f (.npre 70 [.tru (.v 0 0), .lst 0 1, .num (.v 65548 0)]) <|
        .bad)))
     (.f (.npre 70 [.tru (.v 0 2), .lst 0 3, .num (.v 65548 0)]) <|
      .bad))
    (.f (.npre 70 [.tru (.v 0 0), .lst 0 1, .num (.v 65548 0)]) <|
     .bad))
   (.f (.is (.le (.n 0) (.v 65548 0)) false) <|
    .ok [.num (.n 0)]))
  (.f (.nrel 106802 [.lst 0 1, .lst 0 3, .num (.wrap .i64 (.bin .sub (.bin .mx (.len 0 1) (.len 0 3)) (.n 1)))] [.num (.wrap .i64 (.bin .sub (.bin .mx (.len 0 1) (.len 0 3)) (.n 1)))]) <|
   .bad)
theorem c68 : ConS Tryz.prog T C68 := con_tr (cs := [C70]) (lcs := [L106802]) (known := []) (cons_cons c70 (cons_nil _ _)) (Known.nil _) (N := 400) (d := 40) (t := t68) (by kernel_rfl) <| by
  intro E hl hp
  have hl1 := hl 1 _ rfl
  have hl3 := hl 3 _ rfl
  clear hl
  have hp := hp rfl
  simp only [C68, show T.pre 68 = Q68 from rfl, flatS, SP.flat, dvs, List.append_nil, List.cons_append, List.nil_append, Q68, U64, U32, I64, Big, W, wv, s64, WT, PR, MR, MB] at hp
  simp only [t68, C68, Tr.good, Fact.den, LX.den, DX.ls, DV.ls, DX.den, Bx.den, Ex.den, eo_add, eo_sub, eo_mul, eo_quo, eo_rem, eo_fdv, eo_mn, eo_mx, eo_land, eo_lor, eo_lxor, eo_landn, eo_shl, eo_shr, dvs, flatS, SP.flat, ST.flat, List.map_cons, List.map_nil, List.append_nil, List.cons_append, List.nil_append, ltb_t, ltb_f, leb_t, leb_f, eqb_t, eqb_f, decide_eq_true_eq, decide_eq_false_iff_not, Bool.not_eq_true', Bool.not_eq_false', Bool.and_eq_true, Bool.and_eq_false_imp, beq_iff_eq, beq_eq_false_iff_ne, bne_iff_ne, U64, U32, I64, Big, W, wv, Told, s64, WT, PR, MR, MB, Int.zero_mul, Int.zero_add, Int.add_zero, Int.mul_zero, IntKind.wrap_u64, IntKind.wrap_i64, IntKind.wrap_u32, ne_eq, forall_const, true_implies, show T.rel 68 = R68 from rfl, R68, show T.rel 70 = R70 from rfl, R70, show T.rel 106802 = R106802 from rfl, R106802, show T.mu 106802 = M106802 from rfl, M106802, show T.pre 68 = Q68 from rfl, Q68, show T.pre 70 = Q70 from rfl, Q70]
  revert hp hl1 hl3
  generalize (E.r 0).c 0 = an
  generalize (E.r 0).l 1 = al
  generalize (E.r 0).c 2 = bn
  generalize (E.r 0).l 3 = bl
  generalize (E.r 65548).i 0 = x12_0
  generalize (E.r 65553).i 0 = x17_0
  generalize (E.r 65556).i 0 = x20_0
  generalize (E.r 65560).i 0 = x24_0
  generalize (E.r 65563).i 0 = x27_0
  try simp only [mxI, mnI]
  try simp only [ltb, leb, eqb, Int.lt_irrefl, decide_false, Int.le_refl, decide_true]
  intro hal hbl hp
  obtain ⟨da, db, la, lb⟩ := hp
  refine ⟨fun ⟨i0, i1, i2⟩ => ⟨fun h0 => ?_, fun h0 => ?_⟩, ?_⟩
  · obtain ⟨k, rfl⟩ := Int.eq_ofNat_of_zero_le h0
    have ek : ((k : Int) + 1).toNat = k + 1 := by omega
    rw [ek] at i2
    have ew : ((k : Int) - 1 + 9223372036854775808) % 18446744073709551616 - 9223372036854775808 = (k : Int) - 1 := by omega
    simp only [ew]
    refine ⟨fun e1 => ⟨fun e2 => ⟨fun h1 => ?_, fun h1 => ⟨fun e3 => ⟨fun e4 => ⟨fun h2 => ?_, fun h2 => ?_⟩, fun n => n h0⟩, fun n => n h0⟩⟩, fun n => n h0⟩, fun n => n h0⟩
    · have := dval_le_of_top da db i2 (by omega)
      exact ⟨fun _ => trivial, by omega, by omega⟩
    · have := dval_le_of_top db da i2.symm (by omega)
      exact ⟨by omega, by omega, fun _ => trivial⟩
    · refine ⟨fun n => n ⟨by omega, by omega, ?_⟩, by omega⟩
      have e5 : ((k : Int) - 1 + 1).toNat = k := by omega
      rw [e5, dval_drop al k, dval_drop bl k, i2]
      omega
  · have e0 : (x12_0 + 1).toNat = 0 := by omega
    rw [e0, List.drop_zero, List.drop_zero] at i2
    exact ⟨by omega, fun _ => trivial, by omega⟩
  · intro n
    apply n
    have e1 : al.drop (((if (bl.length : Int) > (al.length : Int) then (bl.length : Int) else (al.length : Int)) - 1 + 9223372036854775808) % 18446744073709551616 - 9223372036854775808 + 1).toNat = [] := List.drop_of_length_le (by split <;> omega)
    have e2 : bl.drop (((if (bl.length : Int) > (al.length : Int) then (bl.length : Int) else (al.length : Int)) - 1 + 9223372036854775808) % 18446744073709551616 - 9223372036854775808 + 1).toNat = [] := List.drop_of_length_le (by split <;> omega)
    rw [e1, e2]
    refine ⟨by split <;> omega, by split <;> omega, rfl⟩
end Go.Proofs.YtjemohphaeiaiaaGreatDoor.Fn
namespace Go.Proofs.YtjemohphaeiaiaaGreatDoor.Fn
open Go Go.RowKit Go.Proofs.YtjemohphaeiaiaaGreatDoor.Sy
set_option linter.unusedVariables false
set_option linter.unusedSimpArgs false
set_option maxRecDepth 100000
def t69 : Tr :=
  .br (.f (.rel 106904 [.lst 0 1, .lst 0 3, .rows [], .num (.n 0), .num (.n 0)] 65542 [.list [.int .i64], .int .i64, .int .i64]) <|
   .br (.f (.is (.lt (.v 65542 2) (.len 0 1)) false) <|
    .ok [.lst 65542 0])
   (.f (.is (.lt (.v 65542 2) (.len 0 1)) true) <|
    .br (.f (.is (.lt (.v 65542 2) (.n 0)) true) <|
     .bad)
    (.f (.is (.lt (.v 65542 2) (.n 0)) false) <|
     .br (.f (.npre 70 [.tru (.v 0 2), .lst 0 3, .num (.v 65542 2)]) <|
      .bad)
     (.f (.rel 70 [.tru (.v 0 2), .lst 0 3, .num (.v 65542 2)] 65555 [.int .i64]) <|
      .f (.is (.eq (.v 65560 0) (.wrap .i64 (.bin .sub (.wrap .i64 (.bin .sub (.at 0 1 (.v 65542 2) 0) (.v 65555 0))) (.v 65542 1)))) true) <|
       .br (.f (.is (.lt (.v 65560 0) (.n 0)) true) <|
        .br (.f (.is (.le (.len 65542 0) (.n 1000000000)) false) <|
         .bad)
        (.f (.is (.le (.len 65542 0) (.n 1000000000)) true) <|
         .f (.lseq 65571 (.app (.lst 65542 0) (.rows [[.wrap .i64 (.bin .add (.v 65560 0) (.n 10000))]]))) <|
          .br (.f (.nrel 106904 [.lst 0 1, .lst 0 3, .rows [], .num (.n 0), .num (.n 0)] [.lst 65571 0, .num (.n 1), .num (.wrap .i64 (.bin .add (.v 65542 2) (.n 1)))]) <|
           .bad)
          (.f (.ndec 106904 [.lst 0 1, .lst 0 3, .rows [], .num (.n 0), .num (.n 0)] [.lst 65542 0, .num (.v 65542 1), .num (.v 65542 2)] [.lst 65571 0, .num (.n 1), .num (.wrap .i64 (.bin .add (.v 65542 2) (.n 1)))]) <|
           .bad)))
       (.f (.is (.lt (.v 65560 0) (.n 0)) false) <|
        .br (.f (.is (.le (.len 65542 0) (.n 1000000000)) false) <|
         .bad)
        (.f (.is (.le (.len 65542 0) (.n 1000000000)) true) <|
         .f (.lseq 65567 (.app (.lst 65542 0) (.rows [[.v 65560 0]]))) <|
          .br (.f (.nrel 106904 [.lst 0 1, .lst 0 3, .rows [], .num (.n 0), .num (.n 0)] [.lst 65567 0, .num (.n 0), .num (.wrap .i64 (.bin .add (.v 65542 2) (.n 1)))]) <|
           .bad)
          (.f (.ndec 106904 [.lst 0 1, .lst 0 3, .rows [], .num (.n 0), .num (.n 0)] [.lst 65542 0, .num (.v 65542 1), .num (.v 65542 2)] [.lst 65567 0, .num (.n 0), .num (.wrap .i64 (.bin .add (.v 65542 2) (.n 1)))]) <|
           .bad)))))))
  (.f (.nrel 106904 [.lst 0 1, .lst 0 3, .rows [], .num (.n 0), .num (.n 0)] [.rows [], .num (.n 0), .num (.n 0)]) <|
   .bad)
theorem c69 : ConS Tryz.prog T C69 := con_tr (cs := [C70]) (lcs := [L106904]) (known := []) (cons_cons c70 (cons_nil _ _)) (Known.nil _) (N := 400) (d := 40) (t := t69) (by kernel_rfl) <| by
  intro E hl hp
  have hl1 := hl 1 _ rfl
  have hl3 := hl 3 _ rfl
  clear hl
  have hp := hp rfl
  simp only [C69, show T.pre 69 = Q69 from rfl, flatS, SP.flat, dvs, List.append_nil, List.cons_append, List.nil_append, Q69, U64, U32, I64, Big, W, wv, s64, WT, PR, MR, MB] at hp
  simp only [t69, C69, Tr.good, Fact.den, LX.den, DX.ls, DV.ls, DX.den, Bx.den, Ex.den, eo_add, eo_sub, eo_mul, eo_quo, eo_rem, eo_fdv, eo_mn, eo_mx, eo_land, eo_lor, eo_lxor, eo_landn, eo_shl, eo_shr, dvs, flatS, SP.flat, ST.flat, List.map_cons, List.map_nil, List.append_nil, List.cons_append, List.nil_append, ltb_t, ltb_f, leb_t, leb_f, eqb_t, eqb_f, decide_eq_true_eq, decide_eq_false_iff_not, Bool.not_eq_true', Bool.not_eq_false', Bool.and_eq_true, Bool.and_eq_false_imp, beq_iff_eq, beq_eq_false_iff_ne, bne_iff_ne, U64, U32, I64, Big, W, wv, Told, s64, WT, PR, MR, MB, Int.zero_mul, Int.zero_add, Int.add_zero, Int.mul_zero, IntKind.wrap_u64, IntKind.wrap_i64, IntKind.wrap_u32, ne_eq, forall_const, true_implies, show T.rel 69 = R69 from rfl, R69, show T.rel 70 = R70 from rfl, R70, show T.rel 106904 = R106904 from rfl, R106904, show T.mu 106904 = M106904 from rfl, M106904, show T.pre 69 = Q69 from rfl, Q69, show T.pre 70 = Q70 from rfl, Q70]
  revert hp hl1 hl3
  generalize (E.r 0).c 0 = an
  generalize (E.r 0).l 1 = al
  generalize (E.r 0).c 2 = bn
  generalize (E.r 0).l 3 = bl
  generalize (E.r 65542).l 0 = x6_0
  generalize (E.r 65542).i 1 = x6_1
  generalize (E.r 65542).i 2 = x6_2
  generalize (E.r 65555).i 0 = x19_0
  generalize (E.r 65560).i 0 = x24_0
  generalize (E.r 65567).l 0 = x31_0
  generalize (E.r 65571).l 0 = x35_0
  try simp only [mxI, mnI]
  try simp only [ltb, leb, eqb, Int.lt_irrefl, decide_false, Int.le_refl, decide_true]
  intro hal hbl hp
  obtain ⟨da, db, la, lb, lab⟩ := hp
  refine ⟨fun ⟨i0, i1, i2, i3, i4, i5, i6⟩ => ?_, fun n => n ⟨by first | trivial | omega, by first | trivial | omega, by first | trivial | rfl, dig_nil, by first | trivial | omega, by first | trivial | omega, by simp [dval, P4]⟩⟩
  obtain ⟨k, rfl⟩ := Int.eq_ofNat_of_zero_le i0
  have hk : x6_0.length = k := by omega
  have ew : ((k : Int) + 1 + 9223372036854775808) % 18446744073709551616 - 9223372036854775808 = ((k + 1 : Nat) : Int) := by omega
  simp only [ew, Int.toNat_natCast] at *
  have ra := da k
  have rb := db k
  have step : ∀ c s : Int, 0 ≤ c → c ≤ 1 → s = Sy.rowAt al k 0 - Sy.rowAt bl k 0 - x6_1 + 10000 * c → 0 ≤ s → s < 10000 → k < al.length → ∀ y : List (List Int), y = x6_0 ++ [[s]] →
      (0 ≤ ((k + 1 : Nat) : Int) ∧ ((k + 1 : Nat) : Int) ≤ al.length ∧ (y.length : Int) = ((k + 1 : Nat) : Int) ∧ dig y ∧ 0 ≤ c ∧ c ≤ 1 ∧ dval y + P4 (k + 1) * (dval (al.drop (k + 1)) - dval (bl.drop (k + 1)) - c) = dval al - dval bl) := by
    intro c s c0 c1 hs s0 s1 hl y hy
    subst hy
    refine ⟨by omega, by omega, by simp [hk], dig_snoc i3 s0 s1, c0, c1, ?_⟩
    rw [dval_snoc, hk]
    rw [dval_drop al k, dval_drop bl k] at i6
    have e2 : (Sy.rowAt al k 0 + 10000 * dval (al.drop (k + 1))) - (Sy.rowAt bl k 0 + 10000 * dval (bl.drop (k + 1))) - x6_1 = s + 10000 * (dval (al.drop (k + 1)) - dval (bl.drop (k + 1)) - c) := by omega
    rw [e2] at i6
    simp only [P4]
    grind
  have last : al.length ≤ k → dval x6_0 = dval al - dval bl := by
    intro hl
    rw [List.drop_of_length_le (show al.length ≤ k by omega)] at i6
    have d1 := dval_nonneg (dig_drop db k)
    have d2 := dval_lt i3
    rw [hk] at d2
    have p := P4_pos k
    by_cases hz : dval (bl.drop k) + x6_1 = 0
    · have e : dval [] - dval (bl.drop k) - x6_1 = 0 := by simp only [dval]; omega
      rw [e, Int.mul_zero] at i6
      omega
    · exfalso
      have e : dval [] - dval (bl.drop k) - x6_1 = -(dval (bl.drop k) + x6_1) := by simp only [dval]; omega
      rw [e, Int.mul_neg] at i6
      have := Int.mul_le_mul_of_nonneg_left (show 1 ≤ dval (bl.drop k) + x6_1 by omega) (show 0 ≤ P4 k by omega)
      omega
  repeat' (first | exact i3 | intro _ | refine And.intro ?_ ?_)
  all_goals first
    | omega
    | (rename_i h n; exact n (by simpa using step 0 _ (by omega) (by omega) (by omega) (by omega) (by omega) (by omega) _ h))
    | (rename_i h n; exact n (by simpa using step 1 _ (by omega) (by omega) (by omega) (by omega) (by omega) (by omega) _ h))
    | (have := last (by omega); omega)
end Go.Proofs.YtjemohphaeiaiaaGreatDoor.Fn
namespace Go.Proofs.YtjemohphaeiaiaaGreatDoor.Fn
open Go Go.RowKit Go.Proofs.YtjemohphaeiaiaaGreatDoor.Sy
set_option linter.unusedVariables false
set_option linter.unusedSimpArgs false
set_option maxRecDepth 100000
def t44 : Tr :=
  .br (.f (.is (.beq (.v 0 0) (.v 0 2)) true) <|
   .br (.f (.rel 67 [.tru (.v 0 0), .lst 0 1, .tru (.v 0 2), .lst 0 3] 65548 [.list [.int .i64]]) <|
    .br (.f (.rel 66 [.tru (.v 0 0), .lst 65548 0] 65550 [.bool, .list [.int .i64]]) <|
     .ok [.tru (.v 65550 0), .lst 65550 1])
    (.f (.npre 66 [.tru (.v 0 0), .lst 65548 0]) <|
     .bad))
   (.f (.npre 67 [.tru (.v 0 0), .lst 0 1, .tru (.v 0 2), .lst 0 3]) <|
    .bad))
  (.f (.is (.beq (.v 0 0) (.v 0 2)) false) <|
   .br (.f (.rel 68 [.tru (.v 0 0), .lst 0 1, .tru (.v 0 2), .lst 0 3] 65546 [.int .i64]) <|
    .br (.f (.is (.le (.n 0) (.v 65546 0)) true) <|
     .br (.f (.rel 69 [.tru (.v 0 0), .lst 0 1, .tru (.v 0 2), .lst 0 3] 65552 [.list [.int .i64]]) <|
      .br (.f (.rel 66 [.tru (.v 0 0), .lst 65552 0] 65554 [.bool, .list [.int .i64]]) <|
       .ok [.tru (.v 65554 0), .lst 65554 1])
      (.f (.npre 66 [.tru (.v 0 0), .lst 65552 0]) <|
       .bad))
     (.f (.npre 69 [.tru (.v 0 0), .lst 0 1, .tru (.v 0 2), .lst 0 3]) <|
      .bad))
    (.f (.is (.le (.n 0) (.v 65546 0)) false) <|
     .br (.f (.rel 69 [.tru (.v 0 2), .lst 0 3, .tru (.v 0 0), .lst 0 1] 65552 [.list [.int .i64]]) <|
      .br (.f (.rel 66 [.tru (.v 0 2), .lst 65552 0] 65554 [.bool, .list [.int .i64]]) <|
       .ok [.tru (.v 65554 0), .lst 65554 1])
      (.f (.npre 66 [.tru (.v 0 2), .lst 65552 0]) <|
       .bad))
     (.f (.npre 69 [.tru (.v 0 2), .lst 0 3, .tru (.v 0 0), .lst 0 1]) <|
      .bad)))
   (.f (.npre 68 [.tru (.v 0 0), .lst 0 1, .tru (.v 0 2), .lst 0 3]) <|
    .bad))
theorem c44 : ConS Tryz.prog T C44 := con_tr (cs := [C66, C67, C68, C69]) (lcs := []) (known := []) (cons_cons c66 (cons_cons c67 (cons_cons c68 (cons_cons c69 (cons_nil _ _))))) (Known.nil _) (N := 400) (d := 40) (t := t44) (by kernel_rfl) <| by
  intro E hl hp
  have hl1 := hl 1 _ rfl
  have hl3 := hl 3 _ rfl
  clear hl
  have hp := hp rfl
  simp only [C44, show T.pre 44 = Q44 from rfl, flatS, SP.flat, dvs, List.append_nil, List.cons_append, List.nil_append, Q44, U64, U32, I64, Big, W, wv, s64, WT, PR, MR, MB] at hp
  simp only [t44, C44, Tr.good, Fact.den, LX.den, DX.ls, DV.ls, DX.den, Bx.den, Ex.den, eo_add, eo_sub, eo_mul, eo_quo, eo_rem, eo_fdv, eo_mn, eo_mx, eo_land, eo_lor, eo_lxor, eo_landn, eo_shl, eo_shr, dvs, flatS, SP.flat, ST.flat, List.map_cons, List.map_nil, List.append_nil, List.cons_append, List.nil_append, ltb_t, ltb_f, leb_t, leb_f, eqb_t, eqb_f, decide_eq_true_eq, decide_eq_false_iff_not, Bool.not_eq_true', Bool.not_eq_false', Bool.and_eq_true, Bool.and_eq_false_imp, beq_iff_eq, beq_eq_false_iff_ne, bne_iff_ne, U64, U32, I64, Big, W, wv, Told, s64, WT, PR, MR, MB, Int.zero_mul, Int.zero_add, Int.add_zero, Int.mul_zero, IntKind.wrap_u64, IntKind.wrap_i64, IntKind.wrap_u32, ne_eq, forall_const, true_implies, show T.rel 44 = R44 from rfl, R44, show T.rel 66 = R66 from rfl, R66, show T.rel 67 = R67 from rfl, R67, show T.rel 68 = R68 from rfl, R68, show T.rel 69 = R69 from rfl, R69, show T.pre 44 = Q44 from rfl, Q44, show T.pre 66 = Q66 from rfl, Q66, show T.pre 67 = Q67 from rfl, Q67, show T.pre 68 = Q68 from rfl, Q68, show T.pre 69 = Q69 from rfl, Q69]
  revert hp hl1 hl3
  generalize (E.r 0).c 0 = an
  generalize (E.r 0).l 1 = al
  generalize (E.r 0).c 2 = bn
  generalize (E.r 0).l 3 = bl
  generalize (E.r 65546).i 0 = x10_0
  generalize (E.r 65548).l 0 = x12_0
  generalize (E.r 65550).c 0 = x14_0
  generalize (E.r 65550).l 1 = x14_1
  generalize (E.r 65552).l 0 = x16_0
  generalize (E.r 65554).c 0 = x18_0
  generalize (E.r 65554).l 1 = x18_1
  try simp only [mxI, mnI]
  try simp only [ltb, leb, eqb, Int.lt_irrefl, decide_false, Int.le_refl, decide_true]
  intro hal hbl hp
  have la := Bg.len hp.1
  have lb := Bg.len hp.2
  have da := hp.1.1.1
  have db := hp.2.1.1
  refine ⟨fun h => ⟨fun e1 => ⟨fun e2 => ⟨e2.1, ?_⟩, fun n => n ⟨e1.1, by omega⟩⟩, fun n => n ⟨da, db, by omega, by omega⟩⟩, fun h => ⟨fun e0 => ⟨fun c => ⟨fun e1 => ⟨fun e2 => ⟨e2.1, ?_⟩, fun n => n ⟨e1.1, by omega⟩⟩, fun n => n ⟨da, db, by omega, by omega, by omega⟩⟩, fun c => ⟨fun e1 => ⟨fun e2 => ⟨e2.1, ?_⟩, fun n => n ⟨e1.1, by omega⟩⟩, fun n => n ⟨db, da, by omega, by omega, by omega⟩⟩⟩, fun n => n ⟨da, db, by omega, by omega⟩⟩⟩
  · rw [e2.2]
    subst h
    cases an <;> simp only [bval, cond_true, cond_false, e1.2.1] <;> omega
  · rw [e2.2]
    cases an <;> cases bn <;> simp_all [bval] <;> omega
  · rw [e2.2]
    cases an <;> cases bn <;> simp_all [bval] <;> omega
end Go.Proofs.YtjemohphaeiaiaaGreatDoor.Fn
