/- What is told of the functions, shown: turnstone/turnstoneref12.Window, turnstone/turnstoneref01.Sign, turnstone/turnstoneref01.Neg, turnstone/turnstoneref01.Sub, turnstone/turnstoneref01.Cmp, turnstone/turnstoneref01.N, turnstone/wide.Of, (turnstone/wide.Int).Small, (turnstone/wide.Int).Cmp, turnstone/clamp.Clamp, turnstone/turnstoneref12.Clamp, turnstone/turnstoneref01.Wide, turnstone/turnstonelaw01.Of. -/
import Derived.Test.YtafhkgicekddlaaGreatDoorFm0
namespace Go.Proofs.YtafhkgicekddlaaGreatDoor.Fn
open Go Go.RowKit Go.Proofs.YtafhkgicekddlaaGreatDoor.Sy
set_option linter.unusedVariables false
set_option linter.unusedSimpArgs false
set_option maxRecDepth 100000
def t21 : Tr :=
  .br (.f (.is (.lt (.v 0 0) (.n 1)) true) <|
   .ok [.tru (.lt (.n 0) (.n 0)), .rows [], .tru (.lt (.n 0) (.n 0))])
  (.f (.is (.lt (.v 0 0) (.n 1)) false) <|
   .br (.f (.is (.lt (.n 1099511627776) (.v 0 0)) true) <|
    .ok [.tru (.lt (.n 0) (.n 0)), .rows [], .tru (.lt (.n 0) (.n 0))])
   (.f (.is (.lt (.n 1099511627776) (.v 0 0)) false) <|
    .br (.f (.is (.lt (.v 0 1) (.n 1)) true) <|
     .ok [.tru (.lt (.n 0) (.n 0)), .rows [], .tru (.lt (.n 0) (.n 0))])
    (.f (.is (.lt (.v 0 1) (.n 1)) false) <|
     .br (.f (.is (.lt (.n 1099511627776) (.v 0 1)) true) <|
      .ok [.tru (.lt (.n 0) (.n 0)), .rows [], .tru (.lt (.n 0) (.n 0))])
     (.f (.is (.lt (.n 1099511627776) (.v 0 1)) false) <|
      .br (.f (.rel 59 [.num (.wrap .u64 (.bin .mul (.n 2) (.v 0 0)))] 65554 [.bool, .list [.int .i64]]) <|
       .br (.f (.rel 59 [.num (.v 0 1)] 65556 [.bool, .list [.int .i64]]) <|
        .br (.f (.rel 42 [.tru (.v 65554 0), .lst 65554 1, .tru (.v 65556 0), .lst 65556 1] 65557 [.bool, .list [.int .i64]]) <|
         .br (.f (.rel 59 [.num (.n 1048576)] 65558 [.bool, .list [.int .i64]]) <|
          .br (.f (.rel 58 [.tru (.v 65557 0), .lst 65557 1, .tru (.v 65558 0), .lst 65558 1] 65559 [.bool, .list [.int .i64]]) <|
           .ok [.tru (.v 65559 0), .lst 65559 1, .tru (.le (.n 0) (.n 0))])
          (.f (.npre 58 [.tru (.v 65557 0), .lst 65557 1, .tru (.v 65558 0), .lst 65558 1]) <|
           .bad))
         (.f (.npre 59 [.num (.n 1048576)]) <|
          .bad))
        (.f (.npre 42 [.tru (.v 65554 0), .lst 65554 1, .tru (.v 65556 0), .lst 65556 1]) <|
         .bad))
       (.f (.npre 59 [.num (.v 0 1)]) <|
        .bad))
      (.f (.npre 59 [.num (.wrap .u64 (.bin .mul (.n 2) (.v 0 0)))]) <|
       .bad)))))
theorem c21 : ConS Tryz.prog T C21 := con_tr (cs := [C42, C58, C59]) (lcs := []) (known := []) (cons_cons c42 (cons_cons c58 (cons_cons c59 (cons_nil _ _)))) (Known.nil _) (N := 400) (d := 40) (t := t21) (by kernel_rfl) <| by
  intro E hl hp
  clear hl
  have hp := hp rfl
  simp only [C21, show T.pre 21 = Q21 from rfl, flatS, SP.flat, dvs, List.append_nil, List.cons_append, List.nil_append, Q21, U64, U32, I64, Big, W, wv, s64, WT, PR, MR, MB] at hp
  simp only [t21, C21, Tr.good, Fact.den, LX.den, DX.ls, DV.ls, DX.den, Bx.den, Ex.den, eo_add, eo_sub, eo_mul, eo_quo, eo_rem, eo_fdv, eo_mn, eo_mx, eo_land, eo_lor, eo_lxor, eo_landn, eo_shl, eo_shr, dvs, flatS, SP.flat, ST.flat, List.map_cons, List.map_nil, List.append_nil, List.cons_append, List.nil_append, ltb_t, ltb_f, leb_t, leb_f, eqb_t, eqb_f, decide_eq_true_eq, decide_eq_false_iff_not, Bool.not_eq_true', Bool.not_eq_false', Bool.and_eq_true, Bool.and_eq_false_imp, beq_iff_eq, beq_eq_false_iff_ne, bne_iff_ne, U64, U32, I64, Big, W, wv, Told, s64, WT, PR, MR, MB, Int.zero_mul, Int.zero_add, Int.add_zero, Int.mul_zero, IntKind.wrap_u64, IntKind.wrap_i64, IntKind.wrap_u32, ne_eq, forall_const, true_implies, show T.rel 21 = R21 from rfl, R21, show T.rel 42 = R42 from rfl, R42, show T.rel 58 = R58 from rfl, R58, show T.rel 59 = R59 from rfl, R59, show T.pre 21 = Q21 from rfl, Q21, show T.pre 42 = Q42 from rfl, Q42, show T.pre 58 = Q58 from rfl, Q58, show T.pre 59 = Q59 from rfl, Q59]
  revert hp
  generalize (E.r 0).i 0 = s
  generalize (E.r 0).i 1 = t
  generalize (E.r 65554).c 0 = x18_0
  generalize (E.r 65554).l 1 = x18_1
  generalize (E.r 65556).c 0 = x20_0
  generalize (E.r 65556).l 1 = x20_1
  generalize (E.r 65557).c 0 = x21_0
  generalize (E.r 65557).l 1 = x21_1
  generalize (E.r 65558).c 0 = x22_0
  generalize (E.r 65558).l 1 = x22_1
  generalize (E.r 65559).c 0 = x23_0
  generalize (E.r 65559).l 1 = x23_1
  simp only [Bg]
  try generalize bval x18_0 x18_1 = y18_0
  try generalize bval x20_0 x20_1 = y20_0
  try generalize bval x21_0 x21_1 = y21_0
  try generalize bval x22_0 x22_1 = y22_0
  try generalize bval x23_0 x23_1 = y23_0
  try simp only [mxI, mnI]
  try simp only [ltb, leb, eqb, Int.lt_irrefl, decide_false, Int.le_refl, decide_true]
  simp only [bval_nil]
  intro hp
  have B0 := BOK_nil
  repeat' (first | assumption | (intro (h : _ ∧ _); obtain ⟨h1, h2⟩ := h; (first | (subst h1; revert h2) | revert h1 h2)) | (intro h; (first | subst h | skip)) | refine And.intro ?_ ?_)
  all_goals try (show False; refine absurd ?_ ‹¬ _›)
  all_goals repeat' (first | assumption | refine And.intro ?_ ?_)
  all_goals first | omega | (simp_all; done) | (simp_all; omega)
end Go.Proofs.YtafhkgicekddlaaGreatDoor.Fn
namespace Go.Proofs.YtafhkgicekddlaaGreatDoor.Fn
open Go Go.RowKit Go.Proofs.YtafhkgicekddlaaGreatDoor.Sy
set_option linter.unusedVariables false
set_option linter.unusedSimpArgs false
set_option maxRecDepth 100000
def t40 : Tr :=
  .br (.f (.is (.eq (.len 0 1) (.n 0)) true) <|
   .ok [.num (.n 0)])
  (.f (.is (.eq (.len 0 1) (.n 0)) false) <|
   .br (.f (.is (.v 0 0) true) <|
    .ok [.num (.n (-1))])
   (.f (.is (.v 0 0) false) <|
    .ok [.num (.n 1)]))
theorem c40 : ConS Tryz.prog T C40 := con_tr (cs := []) (lcs := []) (known := []) (cons_nil _ _) (Known.nil _) (N := 400) (d := 40) (t := t40) (by kernel_rfl) <| by
  intro E hl hp
  have hl1 := hl 1 _ rfl
  clear hl
  have hp := hp rfl
  simp only [C40, show T.pre 40 = Q40 from rfl, flatS, SP.flat, dvs, List.append_nil, List.cons_append, List.nil_append, Q40, U64, U32, I64, Big, W, wv, s64, WT, PR, MR, MB] at hp
  simp only [t40, C40, Tr.good, Fact.den, LX.den, DX.ls, DV.ls, DX.den, Bx.den, Ex.den, eo_add, eo_sub, eo_mul, eo_quo, eo_rem, eo_fdv, eo_mn, eo_mx, eo_land, eo_lor, eo_lxor, eo_landn, eo_shl, eo_shr, dvs, flatS, SP.flat, ST.flat, List.map_cons, List.map_nil, List.append_nil, List.cons_append, List.nil_append, ltb_t, ltb_f, leb_t, leb_f, eqb_t, eqb_f, decide_eq_true_eq, decide_eq_false_iff_not, Bool.not_eq_true', Bool.not_eq_false', Bool.and_eq_true, Bool.and_eq_false_imp, beq_iff_eq, beq_eq_false_iff_ne, bne_iff_ne, U64, U32, I64, Big, W, wv, Told, s64, WT, PR, MR, MB, Int.zero_mul, Int.zero_add, Int.add_zero, Int.mul_zero, IntKind.wrap_u64, IntKind.wrap_i64, IntKind.wrap_u32, ne_eq, forall_const, true_implies, show T.rel 40 = R40 from rfl, R40, show T.pre 40 = Q40 from rfl, Q40]
  revert hp hl1
  generalize (E.r 0).c 0 = n
  generalize (E.r 0).l 1 = l
  try simp only [mxI, mnI]
  try simp only [ltb, leb, eqb, Int.lt_irrefl, decide_false, Int.le_refl, decide_true]
  intro hl hp
  have z := hp.zero
  have q := hp.pos
  refine ⟨fun h => ?_, fun h => ⟨fun h2 => ?_, fun h2 => ?_⟩⟩
  · have := z.2 (by omega)
    exact ⟨by omega, fun _ => trivial, by omega⟩
  · have := q.2.2 ⟨by omega, h2⟩
    exact ⟨fun _ => trivial, by omega, by omega⟩
  · have := q.1.2 ⟨by omega, h2⟩
    exact ⟨by omega, by omega, fun _ => trivial⟩
end Go.Proofs.YtafhkgicekddlaaGreatDoor.Fn
namespace Go.Proofs.YtafhkgicekddlaaGreatDoor.Fn
open Go Go.RowKit Go.Proofs.YtafhkgicekddlaaGreatDoor.Sy
set_option linter.unusedVariables false
set_option linter.unusedSimpArgs false
set_option maxRecDepth 100000
def t62 : Tr :=
  .br (.f (.rel 74 [.tru (.not (.v 0 0)), .lst 0 1] 65544 [.bool, .list [.int .i64]]) <|
   .ok [.tru (.v 65544 0), .lst 65544 1])
  (.f (.npre 74 [.tru (.not (.v 0 0)), .lst 0 1]) <|
   .bad)
theorem c62 : ConS Tryz.prog T C62 := con_tr (cs := [C74]) (lcs := []) (known := []) (cons_cons c74 (cons_nil _ _)) (Known.nil _) (N := 400) (d := 40) (t := t62) (by kernel_rfl) <| by
  intro E hl hp
  have hl1 := hl 1 _ rfl
  clear hl
  have hp := hp rfl
  simp only [C62, show T.pre 62 = Q62 from rfl, flatS, SP.flat, dvs, List.append_nil, List.cons_append, List.nil_append, Q62, U64, U32, I64, Big, W, wv, s64, WT, PR, MR, MB] at hp
  simp only [t62, C62, Tr.good, Fact.den, LX.den, DX.ls, DV.ls, DX.den, Bx.den, Ex.den, eo_add, eo_sub, eo_mul, eo_quo, eo_rem, eo_fdv, eo_mn, eo_mx, eo_land, eo_lor, eo_lxor, eo_landn, eo_shl, eo_shr, dvs, flatS, SP.flat, ST.flat, List.map_cons, List.map_nil, List.append_nil, List.cons_append, List.nil_append, ltb_t, ltb_f, leb_t, leb_f, eqb_t, eqb_f, decide_eq_true_eq, decide_eq_false_iff_not, Bool.not_eq_true', Bool.not_eq_false', Bool.and_eq_true, Bool.and_eq_false_imp, beq_iff_eq, beq_eq_false_iff_ne, bne_iff_ne, U64, U32, I64, Big, W, wv, Told, s64, WT, PR, MR, MB, Int.zero_mul, Int.zero_add, Int.add_zero, Int.mul_zero, IntKind.wrap_u64, IntKind.wrap_i64, IntKind.wrap_u32, ne_eq, forall_const, true_implies, show T.rel 62 = R62 from rfl, R62, show T.rel 74 = R74 from rfl, R74, show T.pre 62 = Q62 from rfl, Q62, show T.pre 74 = Q74 from rfl, Q74]
  revert hp hl1
  generalize (E.r 0).c 0 = n
  generalize (E.r 0).l 1 = l
  generalize (E.r 65544).c 0 = x8_0
  generalize (E.r 65544).l 1 = x8_1
  try simp only [mxI, mnI]
  try simp only [ltb, leb, eqb, Int.lt_irrefl, decide_false, Int.le_refl, decide_true]
  intro hl hp
  have := Bg.len hp
  refine ⟨fun h => ⟨h.1, ?_⟩, fun h => h ⟨hp.1.1, by omega⟩⟩
  rw [h.2]
  cases n <;> simp [bval]
end Go.Proofs.YtafhkgicekddlaaGreatDoor.Fn
namespace Go.Proofs.YtafhkgicekddlaaGreatDoor.Fn
open Go Go.RowKit Go.Proofs.YtafhkgicekddlaaGreatDoor.Sy
set_option linter.unusedVariables false
set_option linter.unusedSimpArgs false
set_option maxRecDepth 100000
def t60 : Tr :=
  .br (.f (.rel 62 [.tru (.v 0 2), .lst 0 3] 65541 [.bool, .list [.int .i64]]) <|
   .br (.f (.rel 42 [.tru (.v 0 0), .lst 0 1, .tru (.v 65541 0), .lst 65541 1] 65542 [.bool, .list [.int .i64]]) <|
    .ok [.tru (.v 65542 0), .lst 65542 1])
   (.f (.npre 42 [.tru (.v 0 0), .lst 0 1, .tru (.v 65541 0), .lst 65541 1]) <|
    .bad))
  (.f (.npre 62 [.tru (.v 0 2), .lst 0 3]) <|
   .bad)
theorem c60 : ConS Tryz.prog T C60 := con_tr (cs := [C42, C62]) (lcs := []) (known := []) (cons_cons c42 (cons_cons c62 (cons_nil _ _))) (Known.nil _) (N := 400) (d := 40) (t := t60) (by kernel_rfl) <| by
  intro E hl hp
  have hl1 := hl 1 _ rfl
  have hl3 := hl 3 _ rfl
  clear hl
  have hp := hp rfl
  simp only [C60, show T.pre 60 = Q60 from rfl, flatS, SP.flat, dvs, List.append_nil, List.cons_append, List.nil_append, Q60, U64, U32, I64, Big, W, wv, s64, WT, PR, MR, MB] at hp
  simp only [t60, C60, Tr.good, Fact.den, LX.den, DX.ls, DV.ls, DX.den, Bx.den, Ex.den, eo_add, eo_sub, eo_mul, eo_quo, eo_rem, eo_fdv, eo_mn, eo_mx, eo_land, eo_lor, eo_lxor, eo_landn, eo_shl, eo_shr, dvs, flatS, SP.flat, ST.flat, List.map_cons, List.map_nil, List.append_nil, List.cons_append, List.nil_append, ltb_t, ltb_f, leb_t, leb_f, eqb_t, eqb_f, decide_eq_true_eq, decide_eq_false_iff_not, Bool.not_eq_true', Bool.not_eq_false', Bool.and_eq_true, Bool.and_eq_false_imp, beq_iff_eq, beq_eq_false_iff_ne, bne_iff_ne, U64, U32, I64, Big, W, wv, Told, s64, WT, PR, MR, MB, Int.zero_mul, Int.zero_add, Int.add_zero, Int.mul_zero, IntKind.wrap_u64, IntKind.wrap_i64, IntKind.wrap_u32, ne_eq, forall_const, true_implies, show T.rel 42 = R42 from rfl, R42, show T.rel 60 = R60 from rfl, R60, show T.rel 62 = R62 from rfl, R62, show T.pre 42 = Q42 from rfl, Q42, show T.pre 60 = Q60 from rfl, Q60, show T.pre 62 = Q62 from rfl, Q62]
  revert hp hl1 hl3
  generalize (E.r 0).c 0 = an
  generalize (E.r 0).l 1 = al
  generalize (E.r 0).c 2 = bn
  generalize (E.r 0).l 3 = bl
  generalize (E.r 65541).c 0 = x5_0
  generalize (E.r 65541).l 1 = x5_1
  generalize (E.r 65542).c 0 = x6_0
  generalize (E.r 65542).l 1 = x6_1
  try simp only [mxI, mnI]
  try simp only [ltb, leb, eqb, Int.lt_irrefl, decide_false, Int.le_refl, decide_true]
  intro hal hbl hp
  refine ⟨fun e => ⟨fun e2 => ⟨e2.1, by rw [e2.2, e.2]; omega⟩, fun n => n ⟨hp.1, e.1, by rw [e.2]; omega, by rw [e.2]; omega⟩⟩, fun n => n hp.2⟩
end Go.Proofs.YtafhkgicekddlaaGreatDoor.Fn
namespace Go.Proofs.YtafhkgicekddlaaGreatDoor.Fn
open Go Go.RowKit Go.Proofs.YtafhkgicekddlaaGreatDoor.Sy
set_option linter.unusedVariables false
set_option linter.unusedSimpArgs false
set_option maxRecDepth 100000
def t22 : Tr :=
  .br (.f (.rel 60 [.tru (.v 0 0), .lst 0 1, .tru (.v 0 2), .lst 0 3] 65541 [.bool, .list [.int .i64]]) <|
   .br (.f (.rel 40 [.tru (.v 65541 0), .lst 65541 1] 65542 [.int .i64]) <|
    .ok [.num (.v 65542 0)])
   (.f (.npre 40 [.tru (.v 65541 0), .lst 65541 1]) <|
    .bad))
  (.f (.npre 60 [.tru (.v 0 0), .lst 0 1, .tru (.v 0 2), .lst 0 3]) <|
   .bad)
theorem c22 : ConS Tryz.prog T C22 := con_tr (cs := [C40, C60]) (lcs := []) (known := []) (cons_cons c40 (cons_cons c60 (cons_nil _ _))) (Known.nil _) (N := 400) (d := 40) (t := t22) (by kernel_rfl) <| by
  intro E hl hp
  have hl1 := hl 1 _ rfl
  have hl3 := hl 3 _ rfl
  clear hl
  have hp := hp rfl
  simp only [C22, show T.pre 22 = Q22 from rfl, flatS, SP.flat, dvs, List.append_nil, List.cons_append, List.nil_append, Q22, U64, U32, I64, Big, W, wv, s64, WT, PR, MR, MB] at hp
  simp only [t22, C22, Tr.good, Fact.den, LX.den, DX.ls, DV.ls, DX.den, Bx.den, Ex.den, eo_add, eo_sub, eo_mul, eo_quo, eo_rem, eo_fdv, eo_mn, eo_mx, eo_land, eo_lor, eo_lxor, eo_landn, eo_shl, eo_shr, dvs, flatS, SP.flat, ST.flat, List.map_cons, List.map_nil, List.append_nil, List.cons_append, List.nil_append, ltb_t, ltb_f, leb_t, leb_f, eqb_t, eqb_f, decide_eq_true_eq, decide_eq_false_iff_not, Bool.not_eq_true', Bool.not_eq_false', Bool.and_eq_true, Bool.and_eq_false_imp, beq_iff_eq, beq_eq_false_iff_ne, bne_iff_ne, U64, U32, I64, Big, W, wv, Told, s64, WT, PR, MR, MB, Int.zero_mul, Int.zero_add, Int.add_zero, Int.mul_zero, IntKind.wrap_u64, IntKind.wrap_i64, IntKind.wrap_u32, ne_eq, forall_const, true_implies, show T.rel 22 = R22 from rfl, R22, show T.rel 40 = R40 from rfl, R40, show T.rel 60 = R60 from rfl, R60, show T.pre 22 = Q22 from rfl, Q22, show T.pre 40 = Q40 from rfl, Q40, show T.pre 60 = Q60 from rfl, Q60]
  revert hp hl1 hl3
  generalize (E.r 0).c 0 = an
  generalize (E.r 0).l 1 = al
  generalize (E.r 0).c 2 = bn
  generalize (E.r 0).l 3 = bl
  generalize (E.r 65541).c 0 = x5_0
  generalize (E.r 65541).l 1 = x5_1
  generalize (E.r 65542).i 0 = x6_0
  try simp only [mxI, mnI]
  try simp only [ltb, leb, eqb, Int.lt_irrefl, decide_false, Int.le_refl, decide_true]
  intro hal hbl hp
  refine ⟨fun e => ⟨fun e2 => ?_, fun n => n e.1⟩, fun n => n hp⟩
  rw [e.2] at e2
  omega
end Go.Proofs.YtafhkgicekddlaaGreatDoor.Fn
namespace Go.Proofs.YtafhkgicekddlaaGreatDoor.Fn
open Go Go.RowKit Go.Proofs.YtafhkgicekddlaaGreatDoor.Sy
set_option linter.unusedVariables false
set_option linter.unusedSimpArgs false
set_option maxRecDepth 100000
def t23 : Tr :=
  .br (.f (.is (.le (.n 0) (.v 0 0)) true) <|
   .br (.f (.rel 59 [.num (.wrap .u64 (.v 0 0))] 65541 [.bool, .list [.int .i64]]) <|
    .ok [.tru (.v 65541 0), .lst 65541 1])
   (.f (.npre 59 [.num (.wrap .u64 (.v 0 0))]) <|
    .bad))
  (.f (.is (.le (.n 0) (.v 0 0)) false) <|
   .br (.f (.rel 59 [.num (.wrap .u64 (.bin .add (.wrap .u64 (.wrap .i64 (.bin .sub (.n 0) (.wrap .i64 (.bin .add (.v 0 0) (.n 1)))))) (.n 1)))] 65544 [.bool, .list [.int .i64]]) <|
    .f (.is (.eq (.v 65547 0) (.wrap .i64 (.bin .sub (.n 0) (.wrap .i64 (.bin .add (.v 0 0) (.n 1)))))) true) <|
     .ok [.tru (.le (.n 0) (.n 0)), .lst 65544 1])
   (.f (.npre 59 [.num (.wrap .u64 (.bin .add (.wrap .u64 (.wrap .i64 (.bin .sub (.n 0) (.wrap .i64 (.bin .add (.v 0 0) (.n 1)))))) (.n 1)))]) <|
    .bad))
theorem c23 : ConS Tryz.prog T C23 := con_tr (cs := [C59]) (lcs := []) (known := []) (cons_cons c59 (cons_nil _ _)) (Known.nil _) (N := 400) (d := 40) (t := t23) (by kernel_rfl) <| by
  intro E hl hp
  clear hl
  have hp := hp rfl
  simp only [C23, show T.pre 23 = Q23 from rfl, flatS, SP.flat, dvs, List.append_nil, List.cons_append, List.nil_append, Q23, U64, U32, I64, Big, W, wv, s64, WT, PR, MR, MB] at hp
  simp only [t23, C23, Tr.good, Fact.den, LX.den, DX.ls, DV.ls, DX.den, Bx.den, Ex.den, eo_add, eo_sub, eo_mul, eo_quo, eo_rem, eo_fdv, eo_mn, eo_mx, eo_land, eo_lor, eo_lxor, eo_landn, eo_shl, eo_shr, dvs, flatS, SP.flat, ST.flat, List.map_cons, List.map_nil, List.append_nil, List.cons_append, List.nil_append, ltb_t, ltb_f, leb_t, leb_f, eqb_t, eqb_f, decide_eq_true_eq, decide_eq_false_iff_not, Bool.not_eq_true', Bool.not_eq_false', Bool.and_eq_true, Bool.and_eq_false_imp, beq_iff_eq, beq_eq_false_iff_ne, bne_iff_ne, U64, U32, I64, Big, W, wv, Told, s64, WT, PR, MR, MB, Int.zero_mul, Int.zero_add, Int.add_zero, Int.mul_zero, IntKind.wrap_u64, IntKind.wrap_i64, IntKind.wrap_u32, ne_eq, forall_const, true_implies, show T.rel 23 = R23 from rfl, R23, show T.rel 59 = R59 from rfl, R59, show T.pre 23 = Q23 from rfl, Q23, show T.pre 59 = Q59 from rfl, Q59]
  revert hp
  generalize (E.r 0).i 0 = x
  generalize (E.r 65541).c 0 = x5_0
  generalize (E.r 65541).l 1 = x5_1
  generalize (E.r 65544).c 0 = x8_0
  generalize (E.r 65544).l 1 = x8_1
  generalize (E.r 65547).i 0 = x11_0
  try simp only [mxI, mnI]
  try simp only [ltb, leb, eqb, Int.lt_irrefl, decide_false, Int.le_refl, decide_true]
  intro hp
  refine ⟨fun h => ⟨fun e => ⟨e.1, by rw [e.2]; omega⟩, by omega⟩, fun h => ⟨fun e h2 => ?_, by omega⟩⟩
  have ev : (((0 - ((x + 1 + 9223372036854775808) % 18446744073709551616 - 9223372036854775808) + 9223372036854775808) % 18446744073709551616 - 9223372036854775808) % 18446744073709551616 + 1) % 18446744073709551616 = -x := by omega
  rw [ev] at e
  have pz := e.1.pos
  have b := bval_abs (n := true) e.1.1
  have b2 := bval_abs (n := x8_0) e.1.1
  have nz : x8_1.length ≠ 0 := (pz.1.1 (by omega)).1
  have e8 : x8_0 = false := (pz.1.1 (by omega)).2
  refine ⟨⟨e.1.1, e.1.h, fun h => absurd h nz⟩, ?_⟩
  rw [b.1 rfl, ← b2.2 e8]
  omega
end Go.Proofs.YtafhkgicekddlaaGreatDoor.Fn
namespace Go.Proofs.YtafhkgicekddlaaGreatDoor.Fn
open Go Go.RowKit Go.Proofs.YtafhkgicekddlaaGreatDoor.Sy
set_option linter.unusedVariables false
set_option linter.unusedSimpArgs false
set_option maxRecDepth 100000
def t54 : Tr :=
  .br (.f (.is (.lt (.v 0 0) (.n 0)) true) <|
   .ok [.num (.n (-1)), .num (.wrap .u64 (.v 0 0))])
  (.f (.is (.lt (.v 0 0) (.n 0)) false) <|
   .ok [.num (.n 0), .num (.wrap .u64 (.v 0 0))])
theorem c54 : ConS Tryz.prog T C54 := con_tr (cs := []) (lcs := []) (known := []) (cons_nil _ _) (Known.nil _) (N := 400) (d := 40) (t := t54) (by kernel_rfl) <| by
  intro E hl hp
  clear hl
  have hp := hp rfl
  simp only [C54, show T.pre 54 = Q54 from rfl, flatS, SP.flat, dvs, List.append_nil, List.cons_append, List.nil_append, Q54, U64, U32, I64, Big, W, wv, s64, WT, PR, MR] at hp
  simp only [t54, C54, Tr.good, Fact.den, LX.den, DX.ls, DV.ls, DX.den, Bx.den, Ex.den, EO.den, dvs, flatS, SP.flat, ST.flat, List.map_cons, List.map_nil, List.append_nil, List.cons_append, List.nil_append, ltb_t, ltb_f, leb_t, leb_f, eqb_t, eqb_f, decide_eq_true_eq, decide_eq_false_iff_not, Bool.not_eq_true', Bool.not_eq_false', Bool.and_eq_true, Bool.and_eq_false_imp, beq_iff_eq, beq_eq_false_iff_ne, bne_iff_ne, U64, U32, I64, Big, W, wv, Told, s64, WT, PR, MR, Int.zero_mul, Int.zero_add, Int.add_zero, Int.mul_zero, IntKind.wrap_u64, IntKind.wrap_i64, IntKind.wrap_u32, ne_eq, forall_const, true_implies, show T.rel 54 = R54 from rfl, R54, show T.pre 54 = Q54 from rfl, Q54]
  revert hp
  generalize (E.r 0).i 0 = x
  try simp only [ltb, leb, eqb, Int.lt_irrefl, decide_false, Int.le_refl, decide_true]
  repeat' (first | intro _ | refine And.intro ?_ ?_ | refine Iff.intro ?_ ?_)
  all_goals first | omega | (simp_all; done) | (simp_all; omega)
end Go.Proofs.YtafhkgicekddlaaGreatDoor.Fn
namespace Go.Proofs.YtafhkgicekddlaaGreatDoor.Fn
open Go Go.RowKit Go.Proofs.YtafhkgicekddlaaGreatDoor.Sy
set_option linter.unusedVariables false
set_option linter.unusedSimpArgs false
set_option maxRecDepth 100000
def t17 : Tr :=
  .br (.f (.rel 54 [.num (.wrap .i64 (.v 0 1))] 65544 [.int .i64, .int .u64]) <|
   .br (.f (.is (.and (.eq (.v 65544 0) (.v 0 0)) (.and (.eq (.v 65544 1) (.v 0 1)) (.le (.n 0) (.n 0)))) false) <|
    .ok [.num (.n 0), .tru (.lt (.n 0) (.n 0))])
   (.f (.is (.and (.eq (.v 65544 0) (.v 0 0)) (.and (.eq (.v 65544 1) (.v 0 1)) (.le (.n 0) (.n 0)))) true) <|
    .ok [.num (.wrap .i64 (.v 0 1)), .tru (.le (.n 0) (.n 0))]))
  (.f (.npre 54 [.num (.wrap .i64 (.v 0 1))]) <|
   .bad)
theorem c17 : ConS Tryz.prog T C17 := con_tr (cs := [C54]) (lcs := []) (known := []) (cons_cons c54 (cons_nil _ _)) (Known.nil _) (N := 400) (d := 40) (t := t17) (by kernel_rfl) <| by
  intro E hl hp
  clear hl
  have hp := hp rfl
  simp only [C17, show T.pre 17 = Q17 from rfl, flatS, SP.flat, dvs, List.append_nil, List.cons_append, List.nil_append, Q17, U64, U32, I64, Big, W, wv, s64, WT, PR, MR] at hp
  simp only [t17, C17, Tr.good, Fact.den, LX.den, DX.ls, DV.ls, DX.den, Bx.den, Ex.den, EO.den, dvs, flatS, SP.flat, ST.flat, List.map_cons, List.map_nil, List.append_nil, List.cons_append, List.nil_append, ltb_t, ltb_f, leb_t, leb_f, eqb_t, eqb_f, decide_eq_true_eq, decide_eq_false_iff_not, Bool.not_eq_true', Bool.not_eq_false', Bool.and_eq_true, Bool.and_eq_false_imp, beq_iff_eq, beq_eq_false_iff_ne, bne_iff_ne, U64, U32, I64, Big, W, wv, Told, s64, WT, PR, MR, Int.zero_mul, Int.zero_add, Int.add_zero, Int.mul_zero, IntKind.wrap_u64, IntKind.wrap_i64, IntKind.wrap_u32, ne_eq, forall_const, true_implies, show T.rel 17 = R17 from rfl, R17, show T.rel 54 = R54 from rfl, R54, show T.pre 17 = Q17 from rfl, Q17, show T.pre 54 = Q54 from rfl, Q54]
  revert hp
  generalize (E.r 0).i 0 = h
  generalize (E.r 0).i 1 = l
  generalize (E.r 65544).i 0 = x8_0
  generalize (E.r 65544).i 1 = x8_1
  try simp only [ltb, leb, eqb, Int.lt_irrefl, decide_false, Int.le_refl, decide_true]
  repeat' (first | intro _ | refine And.intro ?_ ?_ | refine Iff.intro ?_ ?_)
  all_goals first | omega | (simp_all; done) | (simp_all; omega)
end Go.Proofs.YtafhkgicekddlaaGreatDoor.Fn
namespace Go.Proofs.YtafhkgicekddlaaGreatDoor.Fn
open Go Go.RowKit Go.Proofs.YtafhkgicekddlaaGreatDoor.Sy
set_option linter.unusedVariables false
set_option linter.unusedSimpArgs false
set_option maxRecDepth 100000
def t61 : Tr :=
  .br (.f (.is (.lt (.v 0 0) (.v 0 2)) true) <|
   .br (.f (.is (.lt (.v 0 1) (.v 0 3)) true) <|
    .ok [.num (.n (-1))])
   (.f (.is (.lt (.v 0 1) (.v 0 3)) false) <|
    .br (.f (.is (.lt (.v 0 3) (.v 0 1)) true) <|
     .ok [.num (.n (-1))])
    (.f (.is (.lt (.v 0 3) (.v 0 1)) false) <|
     .ok [.num (.n (-1))])))
  (.f (.is (.lt (.v 0 0) (.v 0 2)) false) <|
   .br (.f (.is (.lt (.v 0 2) (.v 0 0)) true) <|
    .br (.f (.is (.lt (.v 0 1) (.v 0 3)) true) <|
     .ok [.num (.n 1)])
    (.f (.is (.lt (.v 0 1) (.v 0 3)) false) <|
     .br (.f (.is (.lt (.v 0 3) (.v 0 1)) true) <|
      .ok [.num (.n 1)])
     (.f (.is (.lt (.v 0 3) (.v 0 1)) false) <|
      .ok [.num (.n 1)])))
   (.f (.is (.lt (.v 0 2) (.v 0 0)) false) <|
    .br (.f (.is (.lt (.v 0 1) (.v 0 3)) true) <|
     .ok [.num (.n (-1))])
    (.f (.is (.lt (.v 0 1) (.v 0 3)) false) <|
     .br (.f (.is (.lt (.v 0 3) (.v 0 1)) true) <|
      .ok [.num (.n 1)])
     (.f (.is (.lt (.v 0 3) (.v 0 1)) false) <|
      .ok [.num (.n 0)]))))
theorem c61 : ConS Tryz.prog T C61 := con_tr (cs := []) (lcs := []) (known := []) (cons_nil _ _) (Known.nil _) (N := 400) (d := 40) (t := t61) (by kernel_rfl) <| by
  intro E hl hp
  clear hl
  have hp := hp rfl
  simp only [C61, show T.pre 61 = Q61 from rfl, flatS, SP.flat, dvs, List.append_nil, List.cons_append, List.nil_append, Q61, U64, U32, I64, Big, W, wv, s64, WT, PR, MR] at hp
  simp only [t61, C61, Tr.good, Fact.den, LX.den, DX.ls, DV.ls, DX.den, Bx.den, Ex.den, EO.den, dvs, flatS, SP.flat, ST.flat, List.map_cons, List.map_nil, List.append_nil, List.cons_append, List.nil_append, ltb_t, ltb_f, leb_t, leb_f, eqb_t, eqb_f, decide_eq_true_eq, decide_eq_false_iff_not, Bool.not_eq_true', Bool.not_eq_false', Bool.and_eq_true, Bool.and_eq_false_imp, beq_iff_eq, beq_eq_false_iff_ne, bne_iff_ne, U64, U32, I64, Big, W, wv, Told, s64, WT, PR, MR, Int.zero_mul, Int.zero_add, Int.add_zero, Int.mul_zero, IntKind.wrap_u64, IntKind.wrap_i64, IntKind.wrap_u32, ne_eq, forall_const, true_implies, show T.rel 61 = R61 from rfl, R61, show T.pre 61 = Q61 from rfl, Q61]
  revert hp
  generalize (E.r 0).i 0 = ah
  generalize (E.r 0).i 1 = al
  generalize (E.r 0).i 2 = bh
  generalize (E.r 0).i 3 = bl
  try simp only [ltb, leb, eqb, Int.lt_irrefl, decide_false, Int.le_refl, decide_true]
  repeat' (first | intro _ | refine And.intro ?_ ?_ | refine Iff.intro ?_ ?_)
  all_goals first | omega | (simp_all; done) | (simp_all; omega)
end Go.Proofs.YtafhkgicekddlaaGreatDoor.Fn
namespace Go.Proofs.YtafhkgicekddlaaGreatDoor.Fn
open Go Go.RowKit Go.Proofs.YtafhkgicekddlaaGreatDoor.Sy
set_option linter.unusedVariables false
set_option linter.unusedSimpArgs false
set_option maxRecDepth 100000
def t24 : Tr :=
  .br (.f (.rel 54 [.num (.bin .mx (.v 0 2) (.n 0))] 65543 [.int .i64, .int .u64]) <|
   .br (.f (.rel 61 [.num (.v 0 0), .num (.v 0 1), .num (.v 65543 0), .num (.v 65543 1)] 65544 [.int .i64]) <|
    .br (.f (.is (.lt (.n 0) (.v 65544 0)) true) <|
     .ok [.num (.bin .mx (.v 0 2) (.n 0))])
    (.f (.is (.lt (.n 0) (.v 65544 0)) false) <|
     .br (.f (.rel 54 [.num (.wrap .i64 (.bin .sub (.n 0) (.bin .mx (.v 0 2) (.n 0))))] 65550 [.int .i64, .int .u64]) <|
      .br (.f (.rel 61 [.num (.v 0 0), .num (.v 0 1), .num (.v 65550 0), .num (.v 65550 1)] 65551 [.int .i64]) <|
       .br (.f (.is (.lt (.v 65551 0) (.n 0)) true) <|
        .ok [.num (.wrap .i64 (.bin .sub (.n 0) (.bin .mx (.v 0 2) (.n 0))))])
       (.f (.is (.lt (.v 65551 0) (.n 0)) false) <|
        .br (.f (.rel 17 [.num (.v 0 0), .num (.v 0 1)] 65555 [.int .i64, .bool]) <|
         .ok [.num (.v 65555 0)])
        (.f (.npre 17 [.num (.v 0 0), .num (.v 0 1)]) <|
         .bad)))
      (.f (.npre 61 [.num (.v 0 0), .num (.v 0 1), .num (.v 65550 0), .num (.v 65550 1)]) <|
       .bad))
     (.f (.npre 54 [.num (.wrap .i64 (.bin .sub (.n 0) (.bin .mx (.v 0 2) (.n 0))))]) <|
      .bad)))
   (.f (.npre 61 [.num (.v 0 0), .num (.v 0 1), .num (.v 65543 0), .num (.v 65543 1)]) <|
    .bad))
  (.f (.npre 54 [.num (.bin .mx (.v 0 2) (.n 0))]) <|
   .bad)
theorem c24 : ConS Tryz.prog T C24 := con_tr (cs := [C17, C54, C61]) (lcs := []) (known := []) (cons_cons c17 (cons_cons c54 (cons_cons c61 (cons_nil _ _)))) (Known.nil _) (N := 400) (d := 40) (t := t24) (by kernel_rfl) <| by
  intro E hl hp
  clear hl
  have hp := hp rfl
  simp only [C24, show T.pre 24 = Q24 from rfl, flatS, SP.flat, dvs, List.append_nil, List.cons_append, List.nil_append, Q24, U64, U32, I64, Big, W, wv, s64, WT, PR, MR, MB] at hp
  simp only [t24, C24, Tr.good, Fact.den, LX.den, DX.ls, DV.ls, DX.den, Bx.den, Ex.den, eo_add, eo_sub, eo_mul, eo_quo, eo_rem, eo_fdv, eo_mn, eo_mx, eo_land, eo_lor, eo_lxor, eo_landn, eo_shl, eo_shr, dvs, flatS, SP.flat, ST.flat, List.map_cons, List.map_nil, List.append_nil, List.cons_append, List.nil_append, ltb_t, ltb_f, leb_t, leb_f, eqb_t, eqb_f, decide_eq_true_eq, decide_eq_false_iff_not, Bool.not_eq_true', Bool.not_eq_false', Bool.and_eq_true, Bool.and_eq_false_imp, beq_iff_eq, beq_eq_false_iff_ne, bne_iff_ne, U64, U32, I64, Big, W, wv, Told, s64, WT, PR, MR, MB, Int.zero_mul, Int.zero_add, Int.add_zero, Int.mul_zero, IntKind.wrap_u64, IntKind.wrap_i64, IntKind.wrap_u32, ne_eq, forall_const, true_implies, show T.rel 17 = R17 from rfl, R17, show T.rel 24 = R24 from rfl, R24, show T.rel 54 = R54 from rfl, R54, show T.rel 61 = R61 from rfl, R61, show T.pre 17 = Q17 from rfl, Q17, show T.pre 24 = Q24 from rfl, Q24, show T.pre 54 = Q54 from rfl, Q54, show T.pre 61 = Q61 from rfl, Q61]
  revert hp
  generalize (E.r 0).i 0 = h
  generalize (E.r 0).i 1 = l
  generalize (E.r 0).i 2 = w
  generalize (E.r 65543).i 0 = x7_0
  generalize (E.r 65543).i 1 = x7_1
  generalize (E.r 65544).i 0 = x8_0
  generalize (E.r 65550).i 0 = x14_0
  generalize (E.r 65550).i 1 = x14_1
  generalize (E.r 65551).i 0 = x15_0
  generalize (E.r 65555).i 0 = x19_0
  generalize (E.r 65555).c 1 = x19_1
  try simp only [mxI, mnI]
  try simp only [ltb, leb, eqb, Int.lt_irrefl, decide_false, Int.le_refl, decide_true]
  intro hp
  by_cases c0 : w < 0 <;> simp only [c0, if_true, if_false]
  repeat' (first | assumption | (intro (h : _ ∧ _); obtain ⟨h1, h2⟩ := h; (first | subst h1 | skip); revert h2) | (intro h; (first | subst h | skip)) | refine And.intro ?_ ?_)
  all_goals try (show False; refine absurd ?_ ‹¬ _›)
  all_goals repeat' (first | assumption | refine And.intro ?_ ?_)
  all_goals first | omega | grind
end Go.Proofs.YtafhkgicekddlaaGreatDoor.Fn
namespace Go.Proofs.YtafhkgicekddlaaGreatDoor.Fn
open Go Go.RowKit Go.Proofs.YtafhkgicekddlaaGreatDoor.Sy
set_option linter.unusedVariables false
set_option linter.unusedSimpArgs false
set_option maxRecDepth 100000
def t25 : Tr :=
  .br (.f (.rel 40 [.tru (.v 0 2), .lst 0 3] 65540 [.int .i64]) <|
   .br (.f (.is (.lt (.v 65540 0) (.n 0)) true) <|
    .br (.f (.rel 22 [.tru (.v 0 0), .lst 0 1, .tru (.lt (.n 0) (.n 0)), .rows []] 65546 [.int .i64]) <|
     .br (.f (.is (.lt (.n 0) (.v 65546 0)) true) <|
      .ok [.tru (.lt (.n 0) (.n 0)), .rows []])
     (.f (.is (.lt (.n 0) (.v 65546 0)) false) <|
      .br (.f (.rel 62 [.tru (.lt (.n 0) (.n 0)), .rows []] 65550 [.bool, .list [.int .i64]]) <|
       .br (.f (.rel 22 [.tru (.v 0 0), .lst 0 1, .tru (.v 65550 0), .lst 65550 1] 65551 [.int .i64]) <|
        .br (.f (.is (.lt (.v 65551 0) (.n 0)) true) <|
         .br (.f (.rel 62 [.tru (.lt (.n 0) (.n 0)), .rows []] 65554 [.bool, .list [.int .i64]]) <|
          .ok [.tru (.v 65554 0), .lst 65554 1])
         (.f (.npre 62 [.tru (.lt (.n 0) (.n 0)), .rows []]) <|
          .bad))
        (.f (.is (.lt (.v 65551 0) (.n 0)) false) <|
         .ok [.tru (.v 0 0), .lst 0 1]))
       (.f (.npre 22 [.tru (.v 0 0), .lst 0 1, .tru (.v 65550 0), .lst 65550 1]) <|
        .bad))
      (.f (.npre 62 [.tru (.lt (.n 0) (.n 0)), .rows []]) <|
       .bad)))
    (.f (.npre 22 [.tru (.v 0 0), .lst 0 1, .tru (.lt (.n 0) (.n 0)), .rows []]) <|
     .bad))
   (.f (.is (.lt (.v 65540 0) (.n 0)) false) <|
    .br (.f (.rel 22 [.tru (.v 0 0), .lst 0 1, .tru (.v 0 2), .lst 0 3] 65544 [.int .i64]) <|
     .br (.f (.is (.lt (.n 0) (.v 65544 0)) true) <|
      .ok [.tru (.v 0 2), .lst 0 3])
     (.f (.is (.lt (.n 0) (.v 65544 0)) false) <|
      .br (.f (.rel 62 [.tru (.v 0 2), .lst 0 3] 65548 [.bool, .list [.int .i64]]) <|
       .br (.f (.rel 22 [.tru (.v 0 0), .lst 0 1, .tru (.v 65548 0), .lst 65548 1] 65549 [.int .i64]) <|
        .br (.f (.is (.lt (.v 65549 0) (.n 0)) true) <|
         .br (.f (.rel 62 [.tru (.v 0 2), .lst 0 3] 65552 [.bool, .list [.int .i64]]) <|
          .ok [.tru (.v 65552 0), .lst 65552 1])
         (.f (.npre 62 [.tru (.v 0 2), .lst 0 3]) <|
          .bad))
        (.f (.is (.lt (.v 65549 0) (.n 0)) false) <|
         .ok [.tru (.v 0 0), .lst 0 1]))
       (.f (.npre 22 [.tru (.v 0 0), .lst 0 1, .tru (.v 65548 0), .lst 65548 1]) <|
        .bad))
      (.f (.npre 62 [.tru (.v 0 2), .lst 0 3]) <|
       .bad)))
    (.f (.npre 22 [.tru (.v 0 0), .lst 0 1, .tru (.v 0 2), .lst 0 3]) <|
     .bad)))
  (.f (.npre 40 [.tru (.v 0 2), .lst 0 3]) <|
   .bad)
theorem c25 : ConS Tryz.prog T C25 := con_tr (cs := [C22, C40, C62]) (lcs := []) (known := []) (cons_cons c22 (cons_cons c40 (cons_cons c62 (cons_nil _ _)))) (Known.nil _) (N := 400) (d := 40) (t := t25) (by kernel_rfl) <| by
  intro E hl hp
  have hl1 := hl 1 _ rfl
  have hl3 := hl 3 _ rfl
  clear hl
  have hp := hp rfl
  simp only [C25, show T.pre 25 = Q25 from rfl, flatS, SP.flat, dvs, List.append_nil, List.cons_append, List.nil_append, Q25, U64, U32, I64, Big, W, wv, s64, WT, PR, MR, MB] at hp
  simp only [t25, C25, Tr.good, Fact.den, LX.den, DX.ls, DV.ls, DX.den, Bx.den, Ex.den, eo_add, eo_sub, eo_mul, eo_quo, eo_rem, eo_fdv, eo_mn, eo_mx, eo_land, eo_lor, eo_lxor, eo_landn, eo_shl, eo_shr, dvs, flatS, SP.flat, ST.flat, List.map_cons, List.map_nil, List.append_nil, List.cons_append, List.nil_append, ltb_t, ltb_f, leb_t, leb_f, eqb_t, eqb_f, decide_eq_true_eq, decide_eq_false_iff_not, Bool.not_eq_true', Bool.not_eq_false', Bool.and_eq_true, Bool.and_eq_false_imp, beq_iff_eq, beq_eq_false_iff_ne, bne_iff_ne, U64, U32, I64, Big, W, wv, Told, s64, WT, PR, MR, MB, Int.zero_mul, Int.zero_add, Int.add_zero, Int.mul_zero, IntKind.wrap_u64, IntKind.wrap_i64, IntKind.wrap_u32, ne_eq, forall_const, true_implies, show T.rel 22 = R22 from rfl, R22, show T.rel 25 = R25 from rfl, R25, show T.rel 40 = R40 from rfl, R40, show T.rel 62 = R62 from rfl, R62, show T.pre 22 = Q22 from rfl, Q22, show T.pre 25 = Q25 from rfl, Q25, show T.pre 40 = Q40 from rfl, Q40, show T.pre 62 = Q62 from rfl, Q62]
  revert hp hl1 hl3
  generalize (E.r 0).c 0 = xn
  generalize (E.r 0).l 1 = xl
  generalize (E.r 0).c 2 = wn
  generalize (E.r 0).l 3 = wl
  generalize (E.r 65540).i 0 = x4_0
  generalize (E.r 65544).i 0 = x8_0
  generalize (E.r 65546).i 0 = x10_0
  generalize (E.r 65548).c 0 = x12_0
  generalize (E.r 65548).l 1 = x12_1
  generalize (E.r 65549).i 0 = x13_0
  generalize (E.r 65550).c 0 = x14_0
  generalize (E.r 65550).l 1 = x14_1
  generalize (E.r 65551).i 0 = x15_0
  generalize (E.r 65552).c 0 = x16_0
  generalize (E.r 65552).l 1 = x16_1
  generalize (E.r 65554).c 0 = x18_0
  generalize (E.r 65554).l 1 = x18_1
  simp only [Bg]
  try generalize bval xn xl = xn_v
  try generalize bval wn wl = wn_v
  try generalize bval x12_0 x12_1 = y12_0
  try generalize bval x14_0 x14_1 = y14_0
  try generalize bval x16_0 x16_1 = y16_0
  try generalize bval x18_0 x18_1 = y18_0
  try simp only [mxI, mnI]
  try simp only [ltb, leb, eqb, Int.lt_irrefl, decide_false, Int.le_refl, decide_true]
  simp only [bval_nil]
  have B0 := BOK_nil
  repeat' (first | assumption | (intro (h : _ ∧ _); obtain ⟨h1, h2⟩ := h; (first | (subst h1; revert h2) | revert h1 h2)) | (intro h; (first | subst h | skip)) | refine And.intro ?_ ?_)
  all_goals try (show False; refine absurd ?_ ‹¬ _›)
  all_goals repeat' (first | assumption | refine And.intro ?_ ?_)
  all_goals first | omega | (simp_all; done) | (simp_all; omega)
end Go.Proofs.YtafhkgicekddlaaGreatDoor.Fn
namespace Go.Proofs.YtafhkgicekddlaaGreatDoor.Fn
open Go Go.RowKit Go.Proofs.YtafhkgicekddlaaGreatDoor.Sy
set_option linter.unusedVariables false
set_option linter.unusedSimpArgs false
set_option maxRecDepth 100000
def t63 : Tr :=
  .br (.f (.rel 59 [.num (.n 4294967296)] 65537 [.bool, .list [.int .i64]]) <|
   .br (.f (.rel 59 [.num (.n 4294967296)] 65538 [.bool, .list [.int .i64]]) <|
    .br (.f (.rel 58 [.tru (.v 65537 0), .lst 65537 1, .tru (.v 65538 0), .lst 65538 1] 65539 [.bool, .list [.int .i64]]) <|
     .br (.f (.rel 23 [.num (.v 0 0)] 65543 [.bool, .list [.int .i64]]) <|
      .br (.f (.rel 58 [.tru (.v 65543 0), .lst 65543 1, .tru (.v 65539 0), .lst 65539 1] 65545 [.bool, .list [.int .i64]]) <|
       .br (.f (.rel 59 [.num (.v 0 1)] 65547 [.bool, .list [.int .i64]]) <|
        .br (.f (.rel 42 [.tru (.v 65545 0), .lst 65545 1, .tru (.v 65547 0), .lst 65547 1] 65548 [.bool, .list [.int .i64]]) <|
         .ok [.tru (.v 65548 0), .lst 65548 1])
        (.f (.npre 42 [.tru (.v 65545 0), .lst 65545 1, .tru (.v 65547 0), .lst 65547 1]) <|
         .bad))
       (.f (.npre 59 [.num (.v 0 1)]) <|
        .bad))
      (.f (.npre 58 [.tru (.v 65543 0), .lst 65543 1, .tru (.v 65539 0), .lst 65539 1]) <|
       .bad))
     (.f (.npre 23 [.num (.v 0 0)]) <|
      .bad))
    (.f (.npre 58 [.tru (.v 65537 0), .lst 65537 1, .tru (.v 65538 0), .lst 65538 1]) <|
     .bad))
   (.f (.npre 59 [.num (.n 4294967296)]) <|
    .bad))
  (.f (.npre 59 [.num (.n 4294967296)]) <|
   .bad)
theorem c63 : ConS Tryz.prog T C63 := con_tr (cs := [C23, C42, C58, C59]) (lcs := []) (known := []) (cons_cons c23 (cons_cons c42 (cons_cons c58 (cons_cons c59 (cons_nil _ _))))) (Known.nil _) (N := 400) (d := 40) (t := t63) (by kernel_rfl) <| by
  intro E hl hp
  clear hl
  have hp := hp rfl
  simp only [C63, show T.pre 63 = Q63 from rfl, flatS, SP.flat, dvs, List.append_nil, List.cons_append, List.nil_append, Q63, U64, U32, I64, Big, W, wv, s64, WT, PR, MR, MB] at hp
  simp only [t63, C63, Tr.good, Fact.den, LX.den, DX.ls, DV.ls, DX.den, Bx.den, Ex.den, eo_add, eo_sub, eo_mul, eo_quo, eo_rem, eo_fdv, eo_mn, eo_mx, eo_land, eo_lor, eo_lxor, eo_landn, eo_shl, eo_shr, dvs, flatS, SP.flat, ST.flat, List.map_cons, List.map_nil, List.append_nil, List.cons_append, List.nil_append, ltb_t, ltb_f, leb_t, leb_f, eqb_t, eqb_f, decide_eq_true_eq, decide_eq_false_iff_not, Bool.not_eq_true', Bool.not_eq_false', Bool.and_eq_true, Bool.and_eq_false_imp, beq_iff_eq, beq_eq_false_iff_ne, bne_iff_ne, U64, U32, I64, Big, W, wv, Told, s64, WT, PR, MR, MB, Int.zero_mul, Int.zero_add, Int.add_zero, Int.mul_zero, IntKind.wrap_u64, IntKind.wrap_i64, IntKind.wrap_u32, ne_eq, forall_const, true_implies, show T.rel 23 = R23 from rfl, R23, show T.rel 42 = R42 from rfl, R42, show T.rel 58 = R58 from rfl, R58, show T.rel 59 = R59 from rfl, R59, show T.rel 63 = R63 from rfl, R63, show T.pre 23 = Q23 from rfl, Q23, show T.pre 42 = Q42 from rfl, Q42, show T.pre 58 = Q58 from rfl, Q58, show T.pre 59 = Q59 from rfl, Q59, show T.pre 63 = Q63 from rfl, Q63]
  revert hp
  generalize (E.r 0).i 0 = h
  generalize (E.r 0).i 1 = l
  generalize (E.r 65537).c 0 = x1_0
  generalize (E.r 65537).l 1 = x1_1
  generalize (E.r 65538).c 0 = x2_0
  generalize (E.r 65538).l 1 = x2_1
  generalize (E.r 65539).c 0 = x3_0
  generalize (E.r 65539).l 1 = x3_1
  generalize (E.r 65543).c 0 = x7_0
  generalize (E.r 65543).l 1 = x7_1
  generalize (E.r 65545).c 0 = x9_0
  generalize (E.r 65545).l 1 = x9_1
  generalize (E.r 65547).c 0 = x11_0
  generalize (E.r 65547).l 1 = x11_1
  generalize (E.r 65548).c 0 = x12_0
  generalize (E.r 65548).l 1 = x12_1
  try simp only [mxI, mnI]
  try simp only [ltb, leb, eqb, Int.lt_irrefl, decide_false, Int.le_refl, decide_true]
  intro hp
  refine ⟨fun e1 => ⟨fun e2 => ⟨fun e3 => ⟨fun e4 => ⟨fun e5 => ⟨fun e6 => ⟨fun e7 => ⟨e7.1, by rw [e7.2, e5.2, e6.2, e4.2, e3.2, e1.2, e2.2]; omega⟩, fun n => n ⟨⟨e5.1, by rw [e5.2, e4.2, e3.2, e1.2, e2.2]; omega, by rw [e5.2, e4.2, e3.2, e1.2, e2.2]; omega⟩, e6.1, by omega, by omega⟩⟩, by omega⟩, fun n => n ⟨⟨e4.1, by omega, by omega⟩, e3.1, by rw [e3.2, e1.2, e2.2]; omega, by rw [e3.2, e1.2, e2.2]; omega⟩⟩, by omega⟩, fun n => n ⟨⟨e1.1, by omega, by omega⟩, e2.1, by omega, by omega⟩⟩, by omega⟩, by omega⟩
end Go.Proofs.YtafhkgicekddlaaGreatDoor.Fn
namespace Go.Proofs.YtafhkgicekddlaaGreatDoor.Fn
open Go Go.RowKit Go.Proofs.YtafhkgicekddlaaGreatDoor.Sy
set_option linter.unusedVariables false
set_option linter.unusedSimpArgs false
set_option maxRecDepth 100000
def t26 : Tr :=
  .br (.f (.rel 63 [.num (.v 0 0), .num (.v 0 1)] 65542 [.bool, .list [.int .i64]]) <|
   .ok [.tru (.v 65542 0), .lst 65542 1])
  (.f (.npre 63 [.num (.v 0 0), .num (.v 0 1)]) <|
   .bad)
theorem c26 : ConS Tryz.prog T C26 := con_tr (cs := [C63]) (lcs := []) (known := []) (cons_cons c63 (cons_nil _ _)) (Known.nil _) (N := 400) (d := 40) (t := t26) (by kernel_rfl) <| by
  intro E hl hp
  clear hl
  have hp := hp rfl
  simp only [C26, show T.pre 26 = Q26 from rfl, flatS, SP.flat, dvs, List.append_nil, List.cons_append, List.nil_append, Q26, U64, U32, I64, Big, W, wv, s64, WT, PR, MR, MB] at hp
  simp only [t26, C26, Tr.good, Fact.den, LX.den, DX.ls, DV.ls, DX.den, Bx.den, Ex.den, eo_add, eo_sub, eo_mul, eo_quo, eo_rem, eo_fdv, eo_mn, eo_mx, eo_land, eo_lor, eo_lxor, eo_landn, eo_shl, eo_shr, dvs, flatS, SP.flat, ST.flat, List.map_cons, List.map_nil, List.append_nil, List.cons_append, List.nil_append, ltb_t, ltb_f, leb_t, leb_f, eqb_t, eqb_f, decide_eq_true_eq, decide_eq_false_iff_not, Bool.not_eq_true', Bool.not_eq_false', Bool.and_eq_true, Bool.and_eq_false_imp, beq_iff_eq, beq_eq_false_iff_ne, bne_iff_ne, U64, U32, I64, Big, W, wv, Told, s64, WT, PR, MR, MB, Int.zero_mul, Int.zero_add, Int.add_zero, Int.mul_zero, IntKind.wrap_u64, IntKind.wrap_i64, IntKind.wrap_u32, ne_eq, forall_const, true_implies, show T.rel 26 = R26 from rfl, R26, show T.rel 63 = R63 from rfl, R63, show T.pre 26 = Q26 from rfl, Q26, show T.pre 63 = Q63 from rfl, Q63]
  revert hp
  generalize (E.r 0).i 0 = h
  generalize (E.r 0).i 1 = l
  generalize (E.r 65542).c 0 = x6_0
  generalize (E.r 65542).l 1 = x6_1
  try simp only [mxI, mnI]
  try simp only [ltb, leb, eqb, Int.lt_irrefl, decide_false, Int.le_refl, decide_true]
  intro hp
  exact ⟨fun h => h, fun n => n hp⟩
end Go.Proofs.YtafhkgicekddlaaGreatDoor.Fn
