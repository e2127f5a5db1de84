/- What is told of the functions, shown: turnstone/turnstoneref09.Read, turnstone/turnstonelaw01.Same. -/
import Derived.Test.YtafhkgicekddlaaGreatDoorFm3
namespace Go.Proofs.YtafhkgicekddlaaGreatDoor.Fn
open Go Go.RowKit Go.Proofs.YtafhkgicekddlaaGreatDoor.Sy
set_option linter.unusedVariables false
set_option linter.unusedSimpArgs false
set_option maxRecDepth 100000
def t39 : Tr :=
  .br (.f (.rel 37 [.num (.v 0 0), .tru (.v 0 1), .lst 0 2, .num (.v 0 3), .num (.v 0 4), .num (.v 0 5), .num (.v 0 6), .num (.v 0 7)] 65542 [.bool, .list [.int .i64], .bool]) <|
   .br (.f (.is (.v 65542 2) false) <|
    .ok [.tru (.lt (.n 0) (.n 0)), .rows [], .tru (.lt (.n 0) (.n 0))])
   (.f (.is (.v 65542 2) true) <|
    .br (.f (.rel 73 [.tru (.v 65542 0), .lst 65542 1, .num (.wrap .i64 (.v 0 3))] 65555 [.bool, .list [.int .i64], .int .i64]) <|
     .ok [.tru (.v 65555 0), .lst 65555 1, .tru (.le (.n 0) (.n 0))])
    (.f (.npre 73 [.tru (.v 65542 0), .lst 65542 1, .num (.wrap .i64 (.v 0 3))]) <|
     .bad)))
  (.f (.npre 37 [.num (.v 0 0), .tru (.v 0 1), .lst 0 2, .num (.v 0 3), .num (.v 0 4), .num (.v 0 5), .num (.v 0 6), .num (.v 0 7)]) <|
   .bad)
theorem c39 : ConS Tryz.prog T C39 := con_tr (cs := [C37, C73]) (lcs := []) (known := []) (cons_cons c37 (cons_cons c73 (cons_nil _ _))) (Known.nil _) (N := 400) (d := 40) (t := t39) (by kernel_rfl) <| by
  intro E hl hp
  have hl2 := hl 2 _ rfl
  clear hl
  have hp := hp rfl
  simp only [C39, show T.pre 39 = Q39 from rfl, flatS, SP.flat, dvs, List.append_nil, List.cons_append, List.nil_append, Q39, U64, U32, I64, Big, W, wv, s64, WT, PR, MR, MB] at hp
  simp only [t39, C39, Tr.good, Fact.den, LX.den, DX.ls, DV.ls, DX.den, Bx.den, Ex.den, eo_add, eo_sub, eo_mul, eo_quo, eo_rem, eo_fdv, eo_mn, eo_mx, eo_land, eo_lor, eo_lxor, eo_landn, eo_shl, eo_shr, dvs, flatS, SP.flat, ST.flat, List.map_cons, List.map_nil, List.append_nil, List.cons_append, List.nil_append, ltb_t, ltb_f, leb_t, leb_f, eqb_t, eqb_f, decide_eq_true_eq, decide_eq_false_iff_not, Bool.not_eq_true', Bool.not_eq_false', Bool.and_eq_true, Bool.and_eq_false_imp, beq_iff_eq, beq_eq_false_iff_ne, bne_iff_ne, U64, U32, I64, Big, W, wv, Told, s64, WT, PR, MR, MB, Int.zero_mul, Int.zero_add, Int.add_zero, Int.mul_zero, IntKind.wrap_u64, IntKind.wrap_i64, IntKind.wrap_u32, ne_eq, forall_const, true_implies, show T.rel 37 = R37 from rfl, R37, show T.rel 39 = R39 from rfl, R39, show T.rel 73 = R73 from rfl, R73, show T.pre 37 = Q37 from rfl, Q37, show T.pre 39 = Q39 from rfl, Q39, show T.pre 73 = Q73 from rfl, Q73]
  revert hp hl2
  generalize (E.r 0).i 0 = b
  generalize (E.r 0).c 1 = an
  generalize (E.r 0).l 2 = al
  generalize (E.r 0).i 3 = w
  generalize (E.r 0).i 4 = n
  generalize (E.r 0).i 5 = t
  generalize (E.r 0).i 6 = r
  generalize (E.r 0).i 7 = v
  generalize (E.r 65542).c 0 = x6_0
  generalize (E.r 65542).l 1 = x6_1
  generalize (E.r 65542).c 2 = x6_2
  generalize (E.r 65555).c 0 = x19_0
  generalize (E.r 65555).l 1 = x19_1
  generalize (E.r 65555).i 2 = x19_2
  simp only [Bg]
  try generalize bval an al = an_v
  try generalize bval x6_0 x6_1 = y6_0
  try generalize bval x19_0 x19_1 = y19_0
  try simp only [mxI, mnI]
  try simp only [ltb, leb, eqb, Int.lt_irrefl, decide_false, Int.le_refl, decide_true]
  simp only [bval_nil]
  intro hl hp
  have B0 := BOK_nil
  have hw : Mq an_v w n → (w + 9223372036854775808) % 18446744073709551616 - 9223372036854775808 = w ∧ (0 < n → 0 < w) ∧ w < 35184372088832 := by
    simp only [Mq, MB]; omega
  refine ⟨fun e => ⟨fun c => ?_, fun c => ?_⟩, fun n => n hp⟩
  · have := e.2.1
    simp only [c, reduceCtorEq, false_iff] at this
    exact ⟨B0, ⟨fun h => h.elim, this⟩, fun h => h.elim, fun _ => trivial⟩
  · have k := e.2.1.1 c
    have v := e.2.2.1 c
    have k2 := hw k.1
    have hB : -170141183460469231731687303715884105728 ≤ y6_0 ∧ y6_0 < 170141183460469231731687303715884105728 := by rw [v]; exact k.2.2.2.2.2
    rw [k2.1]
    refine ⟨fun e2 => ⟨e2.1, ⟨fun _ => k, fun _ => trivial⟩, fun _ => by rw [e2.2.1, v], fun h => h.elim⟩, fun n => n ⟨⟨e.1, by omega, by omega⟩, k2.2.1 k.2.1, k2.2.2⟩⟩
end Go.Proofs.YtafhkgicekddlaaGreatDoor.Fn
namespace Go.Proofs.YtafhkgicekddlaaGreatDoor.Fn
open Go Go.RowKit Go.Proofs.YtafhkgicekddlaaGreatDoor.Sy
set_option linter.unusedVariables false
set_option linter.unusedSimpArgs false
set_option maxRecDepth 100000
def t41 : Tr :=
  .br (.f (.rel 26 [.num (.v 0 0), .num (.v 0 1)] 65540 [.bool, .list [.int .i64]]) <|
   .br (.f (.rel 22 [.tru (.v 65540 0), .lst 65540 1, .tru (.v 0 2), .lst 0 3] 65542 [.int .i64]) <|
    .ok [.tru (.eq (.v 65542 0) (.n 0))])
   (.f (.npre 22 [.tru (.v 65540 0), .lst 65540 1, .tru (.v 0 2), .lst 0 3]) <|
    .bad))
  (.f (.npre 26 [.num (.v 0 0), .num (.v 0 1)]) <|
   .bad)
theorem c41 : ConS Tryz.prog T C41 := con_tr (cs := [C22, C26]) (lcs := []) (known := []) (cons_cons c22 (cons_cons c26 (cons_nil _ _))) (Known.nil _) (N := 400) (d := 40) (t := t41) (by kernel_rfl) <| by
  intro E hl hp
  have hl3 := hl 3 _ rfl
  clear hl
  have hp := hp rfl
  simp only [C41, show T.pre 41 = Q41 from rfl, flatS, SP.flat, dvs, List.append_nil, List.cons_append, List.nil_append, Q41, U64, U32, I64, Big, W, wv, s64, WT, PR, MR, MB] at hp
  simp only [t41, C41, Tr.good, Fact.den, LX.den, DX.ls, DV.ls, DX.den, Bx.den, Ex.den, eo_add, eo_sub, eo_mul, eo_quo, eo_rem, eo_fdv, eo_mn, eo_mx, eo_land, eo_lor, eo_lxor, eo_landn, eo_shl, eo_shr, dvs, flatS, SP.flat, ST.flat, List.map_cons, List.map_nil, List.append_nil, List.cons_append, List.nil_append, ltb_t, ltb_f, leb_t, leb_f, eqb_t, eqb_f, decide_eq_true_eq, decide_eq_false_iff_not, Bool.not_eq_true', Bool.not_eq_false', Bool.and_eq_true, Bool.and_eq_false_imp, beq_iff_eq, beq_eq_false_iff_ne, bne_iff_ne, U64, U32, I64, Big, W, wv, Told, s64, WT, PR, MR, MB, Int.zero_mul, Int.zero_add, Int.add_zero, Int.mul_zero, IntKind.wrap_u64, IntKind.wrap_i64, IntKind.wrap_u32, ne_eq, forall_const, true_implies, show T.rel 22 = R22 from rfl, R22, show T.rel 26 = R26 from rfl, R26, show T.rel 41 = R41 from rfl, R41, show T.pre 22 = Q22 from rfl, Q22, show T.pre 26 = Q26 from rfl, Q26, show T.pre 41 = Q41 from rfl, Q41]
  revert hp hl3
  generalize (E.r 0).i 0 = h
  generalize (E.r 0).i 1 = l
  generalize (E.r 0).c 2 = n
  generalize (E.r 0).l 3 = d
  generalize (E.r 65540).c 0 = x4_0
  generalize (E.r 65540).l 1 = x4_1
  generalize (E.r 65542).i 0 = x6_0
  try simp only [mxI, mnI]
  try simp only [ltb, leb, eqb, Int.lt_irrefl, decide_false, Int.le_refl, decide_true]
  intro hl hp
  refine ⟨fun e1 => ⟨fun e2 => by omega, fun n => n ⟨⟨e1.1, by omega, by omega⟩, hp.2⟩⟩, by omega⟩
end Go.Proofs.YtafhkgicekddlaaGreatDoor.Fn
