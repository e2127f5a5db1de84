/- What is told of the functions, shown: turnstone/turnstoneref01.Add, turnstone/turnstoneref01.Neg, turnstone/turnstoneref01.Sub, turnstone/turnstoneref01.Cmp, turnstone/turnstoneref01.N, turnstone/turnstoneref01.Power, turnstone/turnstoneref03.Since, turnstone/turnstoneref04.Distance, turnstone/turnstoneref01.Is, turnstone/turnstoneref09.Over, turnstone/turnstoneref01.Wide, turnstone/turnstonelaw01.Of, turnstone/turnstonelaw08.Of, turnstone/turnstonelaw04.Of, (turnstone/vtime.Time).Since, turnstone/pos.weight, (turnstone/pos.Pos).Right. -/
import Derived.Test.YthlcpdjpnbbaeaaGreatDoorFm0
namespace Go.Proofs.YthlcpdjpnbbaeaaGreatDoor.Fn
open Go Go.RowKit Go.Proofs.YthlcpdjpnbbaeaaGreatDoor.Sy
set_option linter.unusedVariables false
set_option linter.unusedSimpArgs false
set_option maxRecDepth 100000
def t73 : Tr :=
  .br (.f (.is (.beq (.v 0 0) (.v 0 2)) true) <|
   .br (.f (.rel 106 [.tru (.v 0 0), .lst 0 1, .tru (.v 0 2), .lst 0 3] 65548 [.list [.int .i64]]) <|
    .br (.f (.rel 88 [.tru (.v 0 0), .lst 65548 0] 65550 [.bool, .list [.int .i64]]) <|
     .ok [.tru (.v 65550 0), .lst 65550 1])
    (.f (.npre 88 [.tru (.v 0 0), .lst 65548 0]) <|
     .bad))
   (.f (.npre 106 [.tru (.v 0 0), .lst 0 1, .tru (.v 0 2), .lst 0 3]) <|
    .bad))
  (.f (.is (.beq (.v 0 0) (.v 0 2)) false) <|
   .br (.f (.rel 107 [.tru (.v 0 0), .lst 0 1, .tru (.v 0 2), .lst 0 3] 65546 [.int .i64]) <|
    .br (.f (.is (.le (.n 0) (.v 65546 0)) true) <|
     .br (.f (.rel 108 [.tru (.v 0 0), .lst 0 1, .tru (.v 0 2), .lst 0 3] 65552 [.list [.int .i64]]) <|
      .br (.f (.rel 88 [.tru (.v 0 0), .lst 65552 0] 65554 [.bool, .list [.int .i64]]) <|
       .ok [.tru (.v 65554 0), .lst 65554 1])
      (.f (.npre 88 [.tru (.v 0 0), .lst 65552 0]) <|
       .bad))
     (.f (.npre 108 [.tru (.v 0 0), .lst 0 1, .tru (.v 0 2), .lst 0 3]) <|
      .bad))
    (.f (.is (.le (.n 0) (.v 65546 0)) false) <|
     .br (.f (.rel 108 [.tru (.v 0 2), .lst 0 3, .tru (.v 0 0), .lst 0 1] 65552 [.list [.int .i64]]) <|
      .br (.f (.rel 88 [.tru (.v 0 2), .lst 65552 0] 65554 [.bool, .list [.int .i64]]) <|
       .ok [.tru (.v 65554 0), .lst 65554 1])
      (.f (.npre 88 [.tru (.v 0 2), .lst 65552 0]) <|
       .bad))
     (.f (.npre 108 [.tru (.v 0 2), .lst 0 3, .tru (.v 0 0), .lst 0 1]) <|
      .bad)))
   (.f (.npre 107 [.tru (.v 0 0), .lst 0 1, .tru (.v 0 2), .lst 0 3]) <|
    .bad))
theorem c73 : ConS Tryz.prog T C73 := con_tr (cs := [C88, C106, C107, C108]) (lcs := []) (known := []) (cons_cons c88 (cons_cons c106 (cons_cons c107 (cons_cons c108 (cons_nil _ _))))) (Known.nil _) (N := 400) (d := 40) (t := t73) (by kernel_rfl) <| by
  intro E hl hp
  have hl1 := hl 1 _ rfl
  have hl3 := hl 3 _ rfl
  clear hl
  have hp := hp rfl
  simp only [C73, show T.pre 73 = Q73 from rfl, flatS, SP.flat, dvs, List.append_nil, List.cons_append, List.nil_append, Q73, U64, U32, I64, Big, W, wv, s64, WT, PR, MR, MB] at hp
  simp only [t73, C73, Tr.good, Fact.den, LX.den, DX.ls, DV.ls, DX.den, Bx.den, Ex.den, eo_add, eo_sub, eo_mul, eo_quo, eo_rem, eo_fdv, eo_mn, eo_mx, eo_land, eo_lor, eo_lxor, eo_landn, eo_shl, eo_shr, dvs, flatS, SP.flat, ST.flat, List.map_cons, List.map_nil, List.append_nil, List.cons_append, List.nil_append, ltb_t, ltb_f, leb_t, leb_f, eqb_t, eqb_f, decide_eq_true_eq, decide_eq_false_iff_not, Bool.not_eq_true', Bool.not_eq_false', Bool.and_eq_true, Bool.and_eq_false_imp, beq_iff_eq, beq_eq_false_iff_ne, bne_iff_ne, U64, U32, I64, Big, W, wv, Told, s64, WT, PR, MR, MB, Int.zero_mul, Int.zero_add, Int.add_zero, Int.mul_zero, IntKind.wrap_u64, IntKind.wrap_i64, IntKind.wrap_u32, ne_eq, forall_const, true_implies, show T.rel 73 = R73 from rfl, R73, show T.rel 88 = R88 from rfl, R88, show T.rel 106 = R106 from rfl, R106, show T.rel 107 = R107 from rfl, R107, show T.rel 108 = R108 from rfl, R108, show T.pre 73 = Q73 from rfl, Q73, show T.pre 88 = Q88 from rfl, Q88, show T.pre 106 = Q106 from rfl, Q106, show T.pre 107 = Q107 from rfl, Q107, show T.pre 108 = Q108 from rfl, Q108]
  revert hp hl1 hl3
  generalize (E.r 0).c 0 = an
  generalize (E.r 0).l 1 = al
  generalize (E.r 0).c 2 = bn
  generalize (E.r 0).l 3 = bl
  generalize (E.r 65546).i 0 = x10_0
  generalize (E.r 65548).l 0 = x12_0
  generalize (E.r 65550).c 0 = x14_0
  generalize (E.r 65550).l 1 = x14_1
  generalize (E.r 65552).l 0 = x16_0
  generalize (E.r 65554).c 0 = x18_0
  generalize (E.r 65554).l 1 = x18_1
  try simp only [mxI, mnI]
  try simp only [ltb, leb, eqb, Int.lt_irrefl, decide_false, Int.le_refl, decide_true]
  intro hal hbl hp
  have la := Bg.len hp.1
  have lb := Bg.len hp.2
  have da := hp.1.1.1
  have db := hp.2.1.1
  refine ⟨fun h => ⟨fun e1 => ⟨fun e2 => ⟨e2.1, ?_⟩, fun n => n ⟨e1.1, by omega⟩⟩, fun n => n ⟨da, db, by omega, by omega⟩⟩, fun h => ⟨fun e0 => ⟨fun c => ⟨fun e1 => ⟨fun e2 => ⟨e2.1, ?_⟩, fun n => n ⟨e1.1, by omega⟩⟩, fun n => n ⟨da, db, by omega, by omega, by omega⟩⟩, fun c => ⟨fun e1 => ⟨fun e2 => ⟨e2.1, ?_⟩, fun n => n ⟨e1.1, by omega⟩⟩, fun n => n ⟨db, da, by omega, by omega, by omega⟩⟩⟩, fun n => n ⟨da, db, by omega, by omega⟩⟩⟩
  · rw [e2.2]
    subst h
    cases an <;> simp only [bval, cond_true, cond_false, e1.2.1] <;> omega
  · rw [e2.2]
    cases an <;> cases bn <;> simp_all [bval] <;> omega
  · rw [e2.2]
    cases an <;> cases bn <;> simp_all [bval] <;> omega
end Go.Proofs.YthlcpdjpnbbaeaaGreatDoor.Fn
namespace Go.Proofs.YthlcpdjpnbbaeaaGreatDoor.Fn
open Go Go.RowKit Go.Proofs.YthlcpdjpnbbaeaaGreatDoor.Sy
set_option linter.unusedVariables false
set_option linter.unusedSimpArgs false
set_option maxRecDepth 100000
def t70 : Tr :=
  .br (.f (.rel 88 [.tru (.not (.v 0 0)), .lst 0 1] 65544 [.bool, .list [.int .i64]]) <|
   .ok [.tru (.v 65544 0), .lst 65544 1])
  (.f (.npre 88 [.tru (.not (.v 0 0)), .lst 0 1]) <|
   .bad)
theorem c70 : ConS Tryz.prog T C70 := con_tr (cs := [C88]) (lcs := []) (known := []) (cons_cons c88 (cons_nil _ _)) (Known.nil _) (N := 400) (d := 40) (t := t70) (by kernel_rfl) <| by
  intro E hl hp
  have hl1 := hl 1 _ rfl
  clear hl
  have hp := hp rfl
  simp only [C70, show T.pre 70 = Q70 from rfl, flatS, SP.flat, dvs, List.append_nil, List.cons_append, List.nil_append, Q70, U64, U32, I64, Big, W, wv, s64, WT, PR, MR, MB] at hp
  simp only [t70, C70, Tr.good, Fact.den, LX.den, DX.ls, DV.ls, DX.den, Bx.den, Ex.den, eo_add, eo_sub, eo_mul, eo_quo, eo_rem, eo_fdv, eo_mn, eo_mx, eo_land, eo_lor, eo_lxor, eo_landn, eo_shl, eo_shr, dvs, flatS, SP.flat, ST.flat, List.map_cons, List.map_nil, List.append_nil, List.cons_append, List.nil_append, ltb_t, ltb_f, leb_t, leb_f, eqb_t, eqb_f, decide_eq_true_eq, decide_eq_false_iff_not, Bool.not_eq_true', Bool.not_eq_false', Bool.and_eq_true, Bool.and_eq_false_imp, beq_iff_eq, beq_eq_false_iff_ne, bne_iff_ne, U64, U32, I64, Big, W, wv, Told, s64, WT, PR, MR, MB, Int.zero_mul, Int.zero_add, Int.add_zero, Int.mul_zero, IntKind.wrap_u64, IntKind.wrap_i64, IntKind.wrap_u32, ne_eq, forall_const, true_implies, show T.rel 70 = R70 from rfl, R70, show T.rel 88 = R88 from rfl, R88, show T.pre 70 = Q70 from rfl, Q70, show T.pre 88 = Q88 from rfl, Q88]
  revert hp hl1
  generalize (E.r 0).c 0 = n
  generalize (E.r 0).l 1 = l
  generalize (E.r 65544).c 0 = x8_0
  generalize (E.r 65544).l 1 = x8_1
  try simp only [mxI, mnI]
  try simp only [ltb, leb, eqb, Int.lt_irrefl, decide_false, Int.le_refl, decide_true]
  intro hl hp
  have := Bg.len hp
  refine ⟨fun h => ⟨h.1, ?_⟩, fun h => h ⟨hp.1.1, by omega⟩⟩
  rw [h.2]
  cases n <;> simp [bval]
end Go.Proofs.YthlcpdjpnbbaeaaGreatDoor.Fn
namespace Go.Proofs.YthlcpdjpnbbaeaaGreatDoor.Fn
open Go Go.RowKit Go.Proofs.YthlcpdjpnbbaeaaGreatDoor.Sy
set_option linter.unusedVariables false
set_option linter.unusedSimpArgs false
set_option maxRecDepth 100000
def t51 : Tr :=
  .br (.f (.rel 70 [.tru (.v 0 2), .lst 0 3] 65541 [.bool, .list [.int .i64]]) <|
   .br (.f (.rel 73 [.tru (.v 0 0), .lst 0 1, .tru (.v 65541 0), .lst 65541 1] 65542 [.bool, .list [.int .i64]]) <|
    .ok [.tru (.v 65542 0), .lst 65542 1])
   (.f (.npre 73 [.tru (.v 0 0), .lst 0 1, .tru (.v 65541 0), .lst 65541 1]) <|
    .bad))
  (.f (.npre 70 [.tru (.v 0 2), .lst 0 3]) <|
   .bad)
theorem c51 : ConS Tryz.prog T C51 := con_tr (cs := [C70, C73]) (lcs := []) (known := []) (cons_cons c70 (cons_cons c73 (cons_nil _ _))) (Known.nil _) (N := 400) (d := 40) (t := t51) (by kernel_rfl) <| by
  intro E hl hp
  have hl1 := hl 1 _ rfl
  have hl3 := hl 3 _ rfl
  clear hl
  have hp := hp rfl
  simp only [C51, show T.pre 51 = Q51 from rfl, flatS, SP.flat, dvs, List.append_nil, List.cons_append, List.nil_append, Q51, U64, U32, I64, Big, W, wv, s64, WT, PR, MR, MB] at hp
  simp only [t51, C51, Tr.good, Fact.den, LX.den, DX.ls, DV.ls, DX.den, Bx.den, Ex.den, eo_add, eo_sub, eo_mul, eo_quo, eo_rem, eo_fdv, eo_mn, eo_mx, eo_land, eo_lor, eo_lxor, eo_landn, eo_shl, eo_shr, dvs, flatS, SP.flat, ST.flat, List.map_cons, List.map_nil, List.append_nil, List.cons_append, List.nil_append, ltb_t, ltb_f, leb_t, leb_f, eqb_t, eqb_f, decide_eq_true_eq, decide_eq_false_iff_not, Bool.not_eq_true', Bool.not_eq_false', Bool.and_eq_true, Bool.and_eq_false_imp, beq_iff_eq, beq_eq_false_iff_ne, bne_iff_ne, U64, U32, I64, Big, W, wv, Told, s64, WT, PR, MR, MB, Int.zero_mul, Int.zero_add, Int.add_zero, Int.mul_zero, IntKind.wrap_u64, IntKind.wrap_i64, IntKind.wrap_u32, ne_eq, forall_const, true_implies, show T.rel 51 = R51 from rfl, R51, show T.rel 70 = R70 from rfl, R70, show T.rel 73 = R73 from rfl, R73, show T.pre 51 = Q51 from rfl, Q51, show T.pre 70 = Q70 from rfl, Q70, show T.pre 73 = Q73 from rfl, Q73]
  revert hp hl1 hl3
  generalize (E.r 0).c 0 = an
  generalize (E.r 0).l 1 = al
  generalize (E.r 0).c 2 = bn
  generalize (E.r 0).l 3 = bl
  generalize (E.r 65541).c 0 = x5_0
  generalize (E.r 65541).l 1 = x5_1
  generalize (E.r 65542).c 0 = x6_0
  generalize (E.r 65542).l 1 = x6_1
  try simp only [mxI, mnI]
  try simp only [ltb, leb, eqb, Int.lt_irrefl, decide_false, Int.le_refl, decide_true]
  intro hal hbl hp
  refine ⟨fun e => ⟨fun e2 => ⟨e2.1, by rw [e2.2, e.2]; omega⟩, fun n => n ⟨hp.1, e.1, by rw [e.2]; omega, by rw [e.2]; omega⟩⟩, fun n => n hp.2⟩
end Go.Proofs.YthlcpdjpnbbaeaaGreatDoor.Fn
namespace Go.Proofs.YthlcpdjpnbbaeaaGreatDoor.Fn
open Go Go.RowKit Go.Proofs.YthlcpdjpnbbaeaaGreatDoor.Sy
set_option linter.unusedVariables false
set_option linter.unusedSimpArgs false
set_option maxRecDepth 100000
def t37 : Tr :=
  .br (.f (.rel 51 [.tru (.v 0 0), .lst 0 1, .tru (.v 0 2), .lst 0 3] 65541 [.bool, .list [.int .i64]]) <|
   .br (.f (.rel 13 [.tru (.v 65541 0), .lst 65541 1] 65542 [.int .i64]) <|
    .ok [.num (.v 65542 0)])
   (.f (.npre 13 [.tru (.v 65541 0), .lst 65541 1]) <|
    .bad))
  (.f (.npre 51 [.tru (.v 0 0), .lst 0 1, .tru (.v 0 2), .lst 0 3]) <|
   .bad)
theorem c37 : ConS Tryz.prog T C37 := con_tr (cs := [C13, C51]) (lcs := []) (known := []) (cons_cons c13 (cons_cons c51 (cons_nil _ _))) (Known.nil _) (N := 400) (d := 40) (t := t37) (by kernel_rfl) <| by
  intro E hl hp
  have hl1 := hl 1 _ rfl
  have hl3 := hl 3 _ rfl
  clear hl
  have hp := hp rfl
  simp only [C37, show T.pre 37 = Q37 from rfl, flatS, SP.flat, dvs, List.append_nil, List.cons_append, List.nil_append, Q37, U64, U32, I64, Big, W, wv, s64, WT, PR, MR, MB] at hp
  simp only [t37, C37, Tr.good, Fact.den, LX.den, DX.ls, DV.ls, DX.den, Bx.den, Ex.den, eo_add, eo_sub, eo_mul, eo_quo, eo_rem, eo_fdv, eo_mn, eo_mx, eo_land, eo_lor, eo_lxor, eo_landn, eo_shl, eo_shr, dvs, flatS, SP.flat, ST.flat, List.map_cons, List.map_nil, List.append_nil, List.cons_append, List.nil_append, ltb_t, ltb_f, leb_t, leb_f, eqb_t, eqb_f, decide_eq_true_eq, decide_eq_false_iff_not, Bool.not_eq_true', Bool.not_eq_false', Bool.and_eq_true, Bool.and_eq_false_imp, beq_iff_eq, beq_eq_false_iff_ne, bne_iff_ne, U64, U32, I64, Big, W, wv, Told, s64, WT, PR, MR, MB, Int.zero_mul, Int.zero_add, Int.add_zero, Int.mul_zero, IntKind.wrap_u64, IntKind.wrap_i64, IntKind.wrap_u32, ne_eq, forall_const, true_implies, show T.rel 13 = R13 from rfl, R13, show T.rel 37 = R37 from rfl, R37, show T.rel 51 = R51 from rfl, R51, show T.pre 13 = Q13 from rfl, Q13, show T.pre 37 = Q37 from rfl, Q37, show T.pre 51 = Q51 from rfl, Q51]
  revert hp hl1 hl3
  generalize (E.r 0).c 0 = an
  generalize (E.r 0).l 1 = al
  generalize (E.r 0).c 2 = bn
  generalize (E.r 0).l 3 = bl
  generalize (E.r 65541).c 0 = x5_0
  generalize (E.r 65541).l 1 = x5_1
  generalize (E.r 65542).i 0 = x6_0
  try simp only [mxI, mnI]
  try simp only [ltb, leb, eqb, Int.lt_irrefl, decide_false, Int.le_refl, decide_true]
  intro hal hbl hp
  refine ⟨fun e => ⟨fun e2 => ?_, fun n => n e.1⟩, fun n => n hp⟩
  rw [e.2] at e2
  omega
end Go.Proofs.YthlcpdjpnbbaeaaGreatDoor.Fn
namespace Go.Proofs.YthlcpdjpnbbaeaaGreatDoor.Fn
open Go Go.RowKit Go.Proofs.YthlcpdjpnbbaeaaGreatDoor.Sy
set_option linter.unusedVariables false
set_option linter.unusedSimpArgs false
set_option maxRecDepth 100000
def t61 : Tr :=
  .br (.f (.is (.le (.n 0) (.v 0 0)) true) <|
   .br (.f (.rel 38 [.num (.wrap .u64 (.v 0 0))] 65541 [.bool, .list [.int .i64]]) <|
    .ok [.tru (.v 65541 0), .lst 65541 1])
   (.f (.npre 38 [.num (.wrap .u64 (.v 0 0))]) <|
    .bad))
  (.f (.is (.le (.n 0) (.v 0 0)) false) <|
   .br (.f (.rel 38 [.num (.wrap .u64 (.bin .add (.wrap .u64 (.wrap .i64 (.bin .sub (.n 0) (.wrap .i64 (.bin .add (.v 0 0) (.n 1)))))) (.n 1)))] 65544 [.bool, .list [.int .i64]]) <|
    .f (.is (.eq (.v 65547 0) (.wrap .i64 (.bin .sub (.n 0) (.wrap .i64 (.bin .add (.v 0 0) (.n 1)))))) true) <|
     .ok [.tru (.le (.n 0) (.n 0)), .lst 65544 1])
   (.f (.npre 38 [.num (.wrap .u64 (.bin .add (.wrap .u64 (.wrap .i64 (.bin .sub (.n 0) (.wrap .i64 (.bin .add (.v 0 0) (.n 1)))))) (.n 1)))]) <|
    .bad))
theorem c61 : ConS Tryz.prog T C61 := con_tr (cs := [C38]) (lcs := []) (known := []) (cons_cons c38 (cons_nil _ _)) (Known.nil _) (N := 400) (d := 40) (t := t61) (by kernel_rfl) <| by
  intro E hl hp
  clear hl
  have hp := hp rfl
  simp only [C61, show T.pre 61 = Q61 from rfl, flatS, SP.flat, dvs, List.append_nil, List.cons_append, List.nil_append, Q61, U64, U32, I64, Big, W, wv, s64, WT, PR, MR, MB] at hp
  simp only [t61, C61, Tr.good, Fact.den, LX.den, DX.ls, DV.ls, DX.den, Bx.den, Ex.den, eo_add, eo_sub, eo_mul, eo_quo, eo_rem, eo_fdv, eo_mn, eo_mx, eo_land, eo_lor, eo_lxor, eo_landn, eo_shl, eo_shr, dvs, flatS, SP.flat, ST.flat, List.map_cons, List.map_nil, List.append_nil, List.cons_append, List.nil_append, ltb_t, ltb_f, leb_t, leb_f, eqb_t, eqb_f, decide_eq_true_eq, decide_eq_false_iff_not, Bool.not_eq_true', Bool.not_eq_false', Bool.and_eq_true, Bool.and_eq_false_imp, beq_iff_eq, beq_eq_false_iff_ne, bne_iff_ne, U64, U32, I64, Big, W, wv, Told, s64, WT, PR, MR, MB, Int.zero_mul, Int.zero_add, Int.add_zero, Int.mul_zero, IntKind.wrap_u64, IntKind.wrap_i64, IntKind.wrap_u32, ne_eq, forall_const, true_implies, show T.rel 38 = R38 from rfl, R38, show T.rel 61 = R61 from rfl, R61, show T.pre 38 = Q38 from rfl, Q38, show T.pre 61 = Q61 from rfl, Q61]
  revert hp
  generalize (E.r 0).i 0 = x
  generalize (E.r 65541).c 0 = x5_0
  generalize (E.r 65541).l 1 = x5_1
  generalize (E.r 65544).c 0 = x8_0
  generalize (E.r 65544).l 1 = x8_1
  generalize (E.r 65547).i 0 = x11_0
  try simp only [mxI, mnI]
  try simp only [ltb, leb, eqb, Int.lt_irrefl, decide_false, Int.le_refl, decide_true]
  intro hp
  refine ⟨fun h => ⟨fun e => ⟨e.1, by rw [e.2]; omega⟩, by omega⟩, fun h => ⟨fun e h2 => ?_, by omega⟩⟩
  have ev : (((0 - ((x + 1 + 9223372036854775808) % 18446744073709551616 - 9223372036854775808) + 9223372036854775808) % 18446744073709551616 - 9223372036854775808) % 18446744073709551616 + 1) % 18446744073709551616 = -x := by omega
  rw [ev] at e
  have pz := e.1.pos
  have b := bval_abs (n := true) e.1.1
  have b2 := bval_abs (n := x8_0) e.1.1
  have nz : x8_1.length ≠ 0 := (pz.1.1 (by omega)).1
  have e8 : x8_0 = false := (pz.1.1 (by omega)).2
  refine ⟨⟨e.1.1, e.1.h, fun h => absurd h nz⟩, ?_⟩
  rw [b.1 rfl, ← b2.2 e8]
  omega
end Go.Proofs.YthlcpdjpnbbaeaaGreatDoor.Fn
namespace Go.Proofs.YthlcpdjpnbbaeaaGreatDoor.Fn
open Go Go.RowKit Go.Proofs.YthlcpdjpnbbaeaaGreatDoor.Sy
set_option linter.unusedVariables false
set_option linter.unusedSimpArgs false
set_option maxRecDepth 100000
def t81 : Tr :=
  .br (.f (.rel 61 [.num (.n 1)] 65537 [.bool, .list [.int .i64]]) <|
   .br (.f (.rel 108103 [.num (.v 0 0), .tru (.v 65537 0), .lst 65537 1, .num (.n 0)] 65541 [.bool, .list [.int .i64], .int .i64]) <|
    .br (.f (.is (.lt (.v 65541 2) (.v 0 0)) false) <|
     .ok [.tru (.v 65541 0), .lst 65541 1])
    (.f (.is (.lt (.v 65541 2) (.v 0 0)) true) <|
     .br (.f (.npre 73 [.tru (.v 65541 0), .lst 65541 1, .tru (.v 65541 0), .lst 65541 1]) <|
      .bad)
     (.f (.rel 73 [.tru (.v 65541 0), .lst 65541 1, .tru (.v 65541 0), .lst 65541 1] 65547 [.bool, .list [.int .i64]]) <|
      .br (.f (.nrel 108103 [.num (.v 0 0), .tru (.v 65537 0), .lst 65537 1, .num (.n 0)] [.tru (.v 65547 0), .lst 65547 1, .num (.wrap .i64 (.bin .add (.v 65541 2) (.n 1)))]) <|
       .bad)
      (.f (.ndec 108103 [.num (.v 0 0), .tru (.v 65537 0), .lst 65537 1, .num (.n 0)] [.tru (.v 65541 0), .lst 65541 1, .num (.v 65541 2)] [.tru (.v 65547 0), .lst 65547 1, .num (.wrap .i64 (.bin .add (.v 65541 2) (.n 1)))]) <|
       .bad))))
   (.f (.nrel 108103 [.num (.v 0 0), .tru (.v 65537 0), .lst 65537 1, .num (.n 0)] [.tru (.v 65537 0), .lst 65537 1, .num (.n 0)]) <|
    .bad))
  (.f (.npre 61 [.num (.n 1)]) <|
   .bad)
theorem c81 : ConS Tryz.prog T C81 := con_tr (cs := [C61, C73]) (lcs := [L108103]) (known := []) (cons_cons c61 (cons_cons c73 (cons_nil _ _))) (Known.nil _) (N := 400) (d := 40) (t := t81) (by kernel_rfl) <| by
  intro E hl hp
  clear hl
  have hp := hp rfl
  simp only [C81, show T.pre 81 = Q81 from rfl, flatS, SP.flat, dvs, List.append_nil, List.cons_append, List.nil_append, Q81, U64, U32, I64, Big, W, wv, s64, WT, PR, MR, MB] at hp
  simp only [t81, C81, Tr.good, Fact.den, LX.den, DX.ls, DV.ls, DX.den, Bx.den, Ex.den, eo_add, eo_sub, eo_mul, eo_quo, eo_rem, eo_fdv, eo_mn, eo_mx, eo_land, eo_lor, eo_lxor, eo_landn, eo_shl, eo_shr, dvs, flatS, SP.flat, ST.flat, List.map_cons, List.map_nil, List.append_nil, List.cons_append, List.nil_append, ltb_t, ltb_f, leb_t, leb_f, eqb_t, eqb_f, decide_eq_true_eq, decide_eq_false_iff_not, Bool.not_eq_true', Bool.not_eq_false', Bool.and_eq_true, Bool.and_eq_false_imp, beq_iff_eq, beq_eq_false_iff_ne, bne_iff_ne, U64, U32, I64, Big, W, wv, Told, s64, WT, PR, MR, MB, Int.zero_mul, Int.zero_add, Int.add_zero, Int.mul_zero, IntKind.wrap_u64, IntKind.wrap_i64, IntKind.wrap_u32, ne_eq, forall_const, true_implies, show T.rel 61 = R61 from rfl, R61, show T.rel 73 = R73 from rfl, R73, show T.rel 81 = R81 from rfl, R81, show T.rel 108103 = R108103 from rfl, R108103, show T.mu 108103 = M108103 from rfl, M108103, show T.pre 61 = Q61 from rfl, Q61, show T.pre 73 = Q73 from rfl, Q73, show T.pre 81 = Q81 from rfl, Q81]
  revert hp
  generalize (E.r 0).i 0 = n
  generalize (E.r 65537).c 0 = x1_0
  generalize (E.r 65537).l 1 = x1_1
  generalize (E.r 65541).c 0 = x5_0
  generalize (E.r 65541).l 1 = x5_1
  generalize (E.r 65541).i 2 = x5_2
  generalize (E.r 65547).c 0 = x11_0
  generalize (E.r 65547).l 1 = x11_1
  try simp only [mxI, mnI]
  try simp only [ltb, leb, eqb, Int.lt_irrefl, decide_false, Int.le_refl, decide_true]
  intro hp
  refine ⟨fun e1 => ⟨fun ⟨i0, i1, i2, i3⟩ => ⟨fun c => ?_, fun c => ?_⟩, fun n => n ⟨trivial, by omega, e1.1, e1.2⟩⟩, by omega⟩
  · have : x5_2 = n := by omega
    subst this
    exact ⟨i2, i3⟩
  · have p0 := p2_pos x5_2.toNat
    have p1 := p2_mono (show x5_2.toNat ≤ 200 by omega)
    rw [p2_200] at p1
    have ew : (x5_2 + 1 + 9223372036854775808) % 18446744073709551616 - 9223372036854775808 = x5_2 + 1 := by omega
    rw [ew]
    refine ⟨fun n => n ⟨⟨i2, by omega, by omega⟩, ⟨i2, by omega, by omega⟩⟩, fun e2 => ⟨fun n => n ⟨by omega, by omega, e2.1, ?_⟩, by omega⟩⟩
    rw [e2.2, i3, show (x5_2 + 1).toNat = x5_2.toNat + 1 by omega, Int.pow_succ]
    omega
end Go.Proofs.YthlcpdjpnbbaeaaGreatDoor.Fn
namespace Go.Proofs.YthlcpdjpnbbaeaaGreatDoor.Fn
open Go Go.RowKit Go.Proofs.YthlcpdjpnbbaeaaGreatDoor.Sy
set_option linter.unusedVariables false
set_option linter.unusedSimpArgs false
set_option maxRecDepth 100000
def t89 : Tr :=
  .br (.f (.rel 38 [.num (.v 0 0)] 65538 [.bool, .list [.int .i64]]) <|
   .br (.f (.rel 38 [.num (.v 0 1)] 65540 [.bool, .list [.int .i64]]) <|
    .br (.f (.rel 51 [.tru (.v 65538 0), .lst 65538 1, .tru (.v 65540 0), .lst 65540 1] 65541 [.bool, .list [.int .i64]]) <|
     .br (.f (.rel 81 [.num (.n 63)] 65545 [.bool, .list [.int .i64]]) <|
      .br (.f (.rel 37 [.tru (.v 65541 0), .lst 65541 1, .tru (.v 65545 0), .lst 65545 1] 65546 [.int .i64]) <|
       .br (.f (.is (.le (.n 0) (.v 65546 0)) true) <|
        .br (.f (.rel 81 [.num (.n 64)] 65549 [.bool, .list [.int .i64]]) <|
         .br (.f (.rel 51 [.tru (.v 65541 0), .lst 65541 1, .tru (.v 65549 0), .lst 65549 1] 65550 [.bool, .list [.int .i64]]) <|
          .ok [.tru (.v 65550 0), .lst 65550 1])
         (.f (.npre 51 [.tru (.v 65541 0), .lst 65541 1, .tru (.v 65549 0), .lst 65549 1]) <|
          .bad))
        (.f (.npre 81 [.num (.n 64)]) <|
         .bad))
       (.f (.is (.le (.n 0) (.v 65546 0)) false) <|
        .br (.f (.rel 81 [.num (.n 63)] 65549 [.bool, .list [.int .i64]]) <|
         .br (.f (.rel 70 [.tru (.v 65549 0), .lst 65549 1] 65550 [.bool, .list [.int .i64]]) <|
          .br (.f (.rel 37 [.tru (.v 65541 0), .lst 65541 1, .tru (.v 65550 0), .lst 65550 1] 65551 [.int .i64]) <|
           .br (.f (.is (.lt (.v 65551 0) (.n 0)) true) <|
            .br (.f (.rel 81 [.num (.n 64)] 65554 [.bool, .list [.int .i64]]) <|
             .br (.f (.rel 73 [.tru (.v 65541 0), .lst 65541 1, .tru (.v 65554 0), .lst 65554 1] 65555 [.bool, .list [.int .i64]]) <|
              .ok [.tru (.v 65555 0), .lst 65555 1])
             (.f (.npre 73 [.tru (.v 65541 0), .lst 65541 1, .tru (.v 65554 0), .lst 65554 1]) <|
              .bad))
            (.f (.npre 81 [.num (.n 64)]) <|
             .bad))
           (.f (.is (.lt (.v 65551 0) (.n 0)) false) <|
            .ok [.tru (.v 65541 0), .lst 65541 1]))
          (.f (.npre 37 [.tru (.v 65541 0), .lst 65541 1, .tru (.v 65550 0), .lst 65550 1]) <|
           .bad))
         (.f (.npre 70 [.tru (.v 65549 0), .lst 65549 1]) <|
          .bad))
        (.f (.npre 81 [.num (.n 63)]) <|
         .bad)))
      (.f (.npre 37 [.tru (.v 65541 0), .lst 65541 1, .tru (.v 65545 0), .lst 65545 1]) <|
       .bad))
     (.f (.npre 81 [.num (.n 63)]) <|
      .bad))
    (.f (.npre 51 [.tru (.v 65538 0), .lst 65538 1, .tru (.v 65540 0), .lst 65540 1]) <|
     .bad))
   (.f (.npre 38 [.num (.v 0 1)]) <|
    .bad))
  (.f (.npre 38 [.num (.v 0 0)]) <|
   .bad)
theorem c89 : ConS Tryz.prog T C89 := con_tr (cs := [C37, C38, C51, C70, C73, C81]) (lcs := []) (known := []) (cons_cons c37 (cons_cons c38 (cons_cons c51 (cons_cons c70 (cons_cons c73 (cons_cons c81 (cons_nil _ _))))))) (Known.nil _) (N := 400) (d := 40) (t := t89) (by kernel_rfl) <| by
  intro E hl hp
  clear hl
  have hp := hp rfl
  simp only [C89, show T.pre 89 = Q89 from rfl, flatS, SP.flat, dvs, List.append_nil, List.cons_append, List.nil_append, Q89, U64, U32, I64, Big, W, wv, s64, WT, PR, MR, MB] at hp
  simp only [t89, C89, Tr.good, Fact.den, LX.den, DX.ls, DV.ls, DX.den, Bx.den, Ex.den, eo_add, eo_sub, eo_mul, eo_quo, eo_rem, eo_fdv, eo_mn, eo_mx, eo_land, eo_lor, eo_lxor, eo_landn, eo_shl, eo_shr, dvs, flatS, SP.flat, ST.flat, List.map_cons, List.map_nil, List.append_nil, List.cons_append, List.nil_append, ltb_t, ltb_f, leb_t, leb_f, eqb_t, eqb_f, decide_eq_true_eq, decide_eq_false_iff_not, Bool.not_eq_true', Bool.not_eq_false', Bool.and_eq_true, Bool.and_eq_false_imp, beq_iff_eq, beq_eq_false_iff_ne, bne_iff_ne, U64, U32, I64, Big, W, wv, Told, s64, WT, PR, MR, MB, Int.zero_mul, Int.zero_add, Int.add_zero, Int.mul_zero, IntKind.wrap_u64, IntKind.wrap_i64, IntKind.wrap_u32, ne_eq, forall_const, true_implies, show T.rel 37 = R37 from rfl, R37, show T.rel 38 = R38 from rfl, R38, show T.rel 51 = R51 from rfl, R51, show T.rel 70 = R70 from rfl, R70, show T.rel 73 = R73 from rfl, R73, show T.rel 81 = R81 from rfl, R81, show T.rel 89 = R89 from rfl, R89, show T.pre 37 = Q37 from rfl, Q37, show T.pre 38 = Q38 from rfl, Q38, show T.pre 51 = Q51 from rfl, Q51, show T.pre 70 = Q70 from rfl, Q70, show T.pre 73 = Q73 from rfl, Q73, show T.pre 81 = Q81 from rfl, Q81, show T.pre 89 = Q89 from rfl, Q89]
  revert hp
  generalize (E.r 0).i 0 = t
  generalize (E.r 0).i 1 = u
  generalize (E.r 65538).c 0 = x2_0
  generalize (E.r 65538).l 1 = x2_1
  generalize (E.r 65540).c 0 = x4_0
  generalize (E.r 65540).l 1 = x4_1
  generalize (E.r 65541).c 0 = x5_0
  generalize (E.r 65541).l 1 = x5_1
  generalize (E.r 65545).c 0 = x9_0
  generalize (E.r 65545).l 1 = x9_1
  generalize (E.r 65546).i 0 = x10_0
  generalize (E.r 65549).c 0 = x13_0
  generalize (E.r 65549).l 1 = x13_1
  generalize (E.r 65550).c 0 = x14_0
  generalize (E.r 65550).l 1 = x14_1
  generalize (E.r 65551).i 0 = x15_0
  generalize (E.r 65554).c 0 = x18_0
  generalize (E.r 65554).l 1 = x18_1
  generalize (E.r 65555).c 0 = x19_0
  generalize (E.r 65555).l 1 = x19_1
  try simp only [mxI, mnI]
  try simp only [ltb, leb, eqb, Int.lt_irrefl, decide_false, Int.le_refl, decide_true]
  intro hp
  rw [p2_63, p2_64]
  repeat' (first | assumption | (intro (h : _ ∧ _); obtain ⟨_, _⟩ := h) | intro _ | refine And.intro ?_ ?_)
  all_goals try (show False; refine absurd ?_ ‹¬ _›)
  all_goals repeat' (first | assumption | refine And.intro ?_ ?_)
  all_goals first | omega | (simp_all; done) | (simp_all; omega)
end Go.Proofs.YthlcpdjpnbbaeaaGreatDoor.Fn
namespace Go.Proofs.YthlcpdjpnbbaeaaGreatDoor.Fn
open Go Go.RowKit Go.Proofs.YthlcpdjpnbbaeaaGreatDoor.Sy
set_option linter.unusedVariables false
set_option linter.unusedSimpArgs false
set_option maxRecDepth 100000
def t50 : Tr :=
  .br (.f (.rel 38 [.num (.wrap .u64 (.v 0 2))] 65541 [.bool, .list [.int .i64]]) <|
   .br (.f (.rel 89 [.num (.v 0 0), .num (.v 0 3)] 65545 [.bool, .list [.int .i64]]) <|
    .br (.f (.rel 49 [.tru (.v 65541 0), .lst 65541 1, .tru (.v 65545 0), .lst 65545 1] 65546 [.bool, .list [.int .i64]]) <|
     .br (.f (.rel 38 [.num (.wrap .u64 (.v 0 1))] 65550 [.bool, .list [.int .i64]]) <|
      .br (.f (.rel 73 [.tru (.v 65546 0), .lst 65546 1, .tru (.v 65550 0), .lst 65550 1] 65551 [.bool, .list [.int .i64]]) <|
       .ok [.tru (.v 65551 0), .lst 65551 1])
      (.f (.npre 73 [.tru (.v 65546 0), .lst 65546 1, .tru (.v 65550 0), .lst 65550 1]) <|
       .bad))
     (.f (.npre 38 [.num (.wrap .u64 (.v 0 1))]) <|
      .bad))
    (.f (.npre 49 [.tru (.v 65541 0), .lst 65541 1, .tru (.v 65545 0), .lst 65545 1]) <|
     .bad))
   (.f (.npre 89 [.num (.v 0 0), .num (.v 0 3)]) <|
    .bad))
  (.f (.npre 38 [.num (.wrap .u64 (.v 0 2))]) <|
   .bad)
theorem c50 : ConS Tryz.prog T C50 := con_tr (cs := [C38, C49, C73, C89]) (lcs := []) (known := []) (cons_cons c38 (cons_cons c49 (cons_cons c73 (cons_cons c89 (cons_nil _ _))))) (Known.nil _) (N := 400) (d := 40) (t := t50) (by kernel_rfl) <| by
  intro E hl hp
  clear hl
  have hp := hp rfl
  simp only [C50, show T.pre 50 = Q50 from rfl, flatS, SP.flat, dvs, List.append_nil, List.cons_append, List.nil_append, Q50, U64, U32, I64, Big, W, wv, s64, WT, PR, MR, MB] at hp
  simp only [t50, C50, Tr.good, Fact.den, LX.den, DX.ls, DV.ls, DX.den, Bx.den, Ex.den, eo_add, eo_sub, eo_mul, eo_quo, eo_rem, eo_fdv, eo_mn, eo_mx, eo_land, eo_lor, eo_lxor, eo_landn, eo_shl, eo_shr, dvs, flatS, SP.flat, ST.flat, List.map_cons, List.map_nil, List.append_nil, List.cons_append, List.nil_append, ltb_t, ltb_f, leb_t, leb_f, eqb_t, eqb_f, decide_eq_true_eq, decide_eq_false_iff_not, Bool.not_eq_true', Bool.not_eq_false', Bool.and_eq_true, Bool.and_eq_false_imp, beq_iff_eq, beq_eq_false_iff_ne, bne_iff_ne, U64, U32, I64, Big, W, wv, Told, s64, WT, PR, MR, MB, Int.zero_mul, Int.zero_add, Int.add_zero, Int.mul_zero, IntKind.wrap_u64, IntKind.wrap_i64, IntKind.wrap_u32, ne_eq, forall_const, true_implies, show T.rel 38 = R38 from rfl, R38, show T.rel 49 = R49 from rfl, R49, show T.rel 50 = R50 from rfl, R50, show T.rel 73 = R73 from rfl, R73, show T.rel 89 = R89 from rfl, R89, show T.pre 38 = Q38 from rfl, Q38, show T.pre 49 = Q49 from rfl, Q49, show T.pre 50 = Q50 from rfl, Q50, show T.pre 73 = Q73 from rfl, Q73, show T.pre 89 = Q89 from rfl, Q89]
  revert hp
  generalize (E.r 0).i 0 = t
  generalize (E.r 0).i 1 = r
  generalize (E.r 0).i 2 = w
  generalize (E.r 0).i 3 = base
  generalize (E.r 65541).c 0 = x5_0
  generalize (E.r 65541).l 1 = x5_1
  generalize (E.r 65545).c 0 = x9_0
  generalize (E.r 65545).l 1 = x9_1
  generalize (E.r 65546).c 0 = x10_0
  generalize (E.r 65546).l 1 = x10_1
  generalize (E.r 65550).c 0 = x14_0
  generalize (E.r 65550).l 1 = x14_1
  generalize (E.r 65551).c 0 = x15_0
  generalize (E.r 65551).l 1 = x15_1
  try simp only [mxI, mnI]
  try simp only [ltb, leb, eqb, Int.lt_irrefl, decide_false, Int.le_refl, decide_true]
  intro hp
  have e1 : w % 18446744073709551616 = w := by omega
  have e2 : r % 18446744073709551616 = r := by omega
  have s := mul_abs (w := w) (s := (t - base + 9223372036854775808) % 18446744073709551616 - 9223372036854775808) (A := 4294967295) (by omega) (by omega) (by omega) (by omega)
  simp only [e1, e2]
  refine ⟨fun a1 => ⟨fun a2 => ⟨fun a3 => ⟨fun a4 => ⟨fun a5 => ⟨a5.1, ?_⟩, fun n => n ⟨⟨a3.1, ?_, ?_⟩, a4.1, by omega, by omega⟩⟩, by omega⟩, fun n => n ⟨⟨a1.1, by omega, by omega⟩, a2.1, by omega, by omega⟩⟩, by omega⟩, by omega⟩
  · rw [a5.2, a3.2, a1.2, a2.2, a4.2]
  · rw [a3.2, a1.2, a2.2]; omega
  · rw [a3.2, a1.2, a2.2]; omega
end Go.Proofs.YthlcpdjpnbbaeaaGreatDoor.Fn
namespace Go.Proofs.YthlcpdjpnbbaeaaGreatDoor.Fn
open Go Go.RowKit Go.Proofs.YthlcpdjpnbbaeaaGreatDoor.Sy
set_option linter.unusedVariables false
set_option linter.unusedSimpArgs false
set_option maxRecDepth 100000
def t52 : Tr :=
  .br (.f (.rel 81 [.num (.n 127)] 65538 [.bool, .list [.int .i64]]) <|
   .br (.f (.rel 37 [.tru (.v 0 0), .lst 0 1, .tru (.v 65538 0), .lst 65538 1] 65543 [.int .i64]) <|
    .br (.f (.is (.lt (.v 65543 0) (.n 0)) true) <|
     .br (.f (.rel 70 [.tru (.v 65538 0), .lst 65538 1] 65548 [.bool, .list [.int .i64]]) <|
      .br (.f (.rel 37 [.tru (.v 0 0), .lst 0 1, .tru (.v 65548 0), .lst 65548 1] 65549 [.int .i64]) <|
       .ok [.tru (.le (.n 0) (.v 65549 0))])
      (.f (.npre 37 [.tru (.v 0 0), .lst 0 1, .tru (.v 65548 0), .lst 65548 1]) <|
       .bad))
     (.f (.npre 70 [.tru (.v 65538 0), .lst 65538 1]) <|
      .bad))
    (.f (.is (.lt (.v 65543 0) (.n 0)) false) <|
     .ok [.tru (.lt (.n 0) (.n 0))]))
   (.f (.npre 37 [.tru (.v 0 0), .lst 0 1, .tru (.v 65538 0), .lst 65538 1]) <|
    .bad))
  (.f (.npre 81 [.num (.n 127)]) <|
   .bad)
theorem c52 : ConS Tryz.prog T C52 := con_tr (cs := [C37, C70, C81]) (lcs := []) (known := []) (cons_cons c37 (cons_cons c70 (cons_cons c81 (cons_nil _ _)))) (Known.nil _) (N := 400) (d := 40) (t := t52) (by kernel_rfl) <| by
  intro E hl hp
  have hl1 := hl 1 _ rfl
  clear hl
  have hp := hp rfl
  simp only [C52, show T.pre 52 = Q52 from rfl, flatS, SP.flat, dvs, List.append_nil, List.cons_append, List.nil_append, Q52, U64, U32, I64, Big, W, wv, s64, WT, PR, MR, MB] at hp
  simp only [t52, C52, Tr.good, Fact.den, LX.den, DX.ls, DV.ls, DX.den, Bx.den, Ex.den, eo_add, eo_sub, eo_mul, eo_quo, eo_rem, eo_fdv, eo_mn, eo_mx, eo_land, eo_lor, eo_lxor, eo_landn, eo_shl, eo_shr, dvs, flatS, SP.flat, ST.flat, List.map_cons, List.map_nil, List.append_nil, List.cons_append, List.nil_append, ltb_t, ltb_f, leb_t, leb_f, eqb_t, eqb_f, decide_eq_true_eq, decide_eq_false_iff_not, Bool.not_eq_true', Bool.not_eq_false', Bool.and_eq_true, Bool.and_eq_false_imp, beq_iff_eq, beq_eq_false_iff_ne, bne_iff_ne, U64, U32, I64, Big, W, wv, Told, s64, WT, PR, MR, MB, Int.zero_mul, Int.zero_add, Int.add_zero, Int.mul_zero, IntKind.wrap_u64, IntKind.wrap_i64, IntKind.wrap_u32, ne_eq, forall_const, true_implies, show T.rel 37 = R37 from rfl, R37, show T.rel 52 = R52 from rfl, R52, show T.rel 70 = R70 from rfl, R70, show T.rel 81 = R81 from rfl, R81, show T.pre 37 = Q37 from rfl, Q37, show T.pre 52 = Q52 from rfl, Q52, show T.pre 70 = Q70 from rfl, Q70, show T.pre 81 = Q81 from rfl, Q81]
  revert hp hl1
  generalize (E.r 0).c 0 = n
  generalize (E.r 0).l 1 = l
  generalize (E.r 65538).c 0 = x2_0
  generalize (E.r 65538).l 1 = x2_1
  generalize (E.r 65543).i 0 = x7_0
  generalize (E.r 65548).c 0 = x12_0
  generalize (E.r 65548).l 1 = x12_1
  generalize (E.r 65549).i 0 = x13_0
  try simp only [mxI, mnI]
  try simp only [ltb, leb, eqb, Int.lt_irrefl, decide_false, Int.le_refl, decide_true]
  intro hl hp
  simp only [Bi, Big]
  rw [p2_127]
  refine ⟨fun e1 => ⟨fun e2 => ⟨fun c => ⟨fun e3 => ⟨fun e4 => ?_, fun n => n ⟨hp, e3.1, by omega, by omega⟩⟩, fun n => n ⟨e1.1, by omega, by omega⟩⟩, fun c => ?_⟩, fun n => n ⟨hp, e1.1, by omega, by omega⟩⟩, by omega⟩
  · omega
  · refine ⟨fun h => h.elim, fun h => ?_⟩
    omega
end Go.Proofs.YthlcpdjpnbbaeaaGreatDoor.Fn
namespace Go.Proofs.YthlcpdjpnbbaeaaGreatDoor.Fn
open Go Go.RowKit Go.Proofs.YthlcpdjpnbbaeaaGreatDoor.Sy
set_option linter.unusedVariables false
set_option linter.unusedSimpArgs false
set_option maxRecDepth 100000
def t10 : Tr :=
  .br (.f (.rel 47 [.num (.v 0 0), .tru (.v 0 1), .lst 0 2, .num (.v 0 3), .num (.v 0 4)] 65541 [.bool]) <|
   .br (.f (.is (.v 65541 0) false) <|
    .ok [.tru (.lt (.n 0) (.n 0)), .rows [], .tru (.lt (.n 0) (.n 0))])
   (.f (.is (.v 65541 0) true) <|
    .br (.f (.is (.eq (.v 0 4) (.n 0)) true) <|
     .ok [.tru (.lt (.n 0) (.n 0)), .rows [], .tru (.lt (.n 0) (.n 0))])
    (.f (.is (.eq (.v 0 4) (.n 0)) false) <|
     .f (.rel 48 [.num (.v 0 5), .num (.v 0 6), .num (.v 0 7)] 65550 [.bool]) <|
      .br (.f (.is (.v 65550 0) false) <|
       .ok [.tru (.lt (.n 0) (.n 0)), .rows [], .tru (.lt (.n 0) (.n 0))])
      (.f (.is (.v 65550 0) true) <|
       .br (.f (.rel 38 [.num (.wrap .u64 (.v 0 7))] 65558 [.bool, .list [.int .i64]]) <|
        .br (.f (.rel 49 [.tru (.v 0 1), .lst 0 2, .tru (.v 65558 0), .lst 65558 1] 65559 [.bool, .list [.int .i64]]) <|
         .br (.f (.rel 50 [.num (.v 0 5), .num (.v 0 6), .num (.v 0 7), .num (.v 0 0)] 65565 [.bool, .list [.int .i64]]) <|
          .br (.f (.rel 38 [.num (.v 0 3)] 65568 [.bool, .list [.int .i64]]) <|
           .br (.f (.rel 49 [.tru (.v 65565 0), .lst 65565 1, .tru (.v 65568 0), .lst 65568 1] 65569 [.bool, .list [.int .i64]]) <|
            .br (.f (.rel 51 [.tru (.v 65559 0), .lst 65559 1, .tru (.v 65569 0), .lst 65569 1] 65574 [.bool, .list [.int .i64]]) <|
             .br (.f (.rel 52 [.tru (.v 65559 0), .lst 65559 1] 65578 [.bool]) <|
              .br (.f (.is (.v 65578 0) false) <|
               .ok [.tru (.lt (.n 0) (.n 0)), .rows [], .tru (.lt (.n 0) (.n 0))])
              (.f (.is (.v 65578 0) true) <|
               .br (.f (.rel 52 [.tru (.v 65569 0), .lst 65569 1] 65582 [.bool]) <|
                .br (.f (.is (.v 65582 0) false) <|
                 .ok [.tru (.lt (.n 0) (.n 0)), .rows [], .tru (.lt (.n 0) (.n 0))])
                (.f (.is (.v 65582 0) true) <|
                 .br (.f (.rel 52 [.tru (.v 65574 0), .lst 65574 1] 65587 [.bool]) <|
                  .br (.f (.is (.v 65587 0) false) <|
                   .ok [.tru (.lt (.n 0) (.n 0)), .rows [], .tru (.lt (.n 0) (.n 0))])
                  (.f (.is (.v 65587 0) true) <|
                   .ok [.tru (.v 65574 0), .lst 65574 1, .tru (.le (.n 0) (.n 0))]))
                 (.f (.npre 52 [.tru (.v 65574 0), .lst 65574 1]) <|
                  .bad)))
               (.f (.npre 52 [.tru (.v 65569 0), .lst 65569 1]) <|
                .bad)))
             (.f (.npre 52 [.tru (.v 65559 0), .lst 65559 1]) <|
              .bad))
            (.f (.npre 51 [.tru (.v 65559 0), .lst 65559 1, .tru (.v 65569 0), .lst 65569 1]) <|
             .bad))
           (.f (.npre 49 [.tru (.v 65565 0), .lst 65565 1, .tru (.v 65568 0), .lst 65568 1]) <|
            .bad))
          (.f (.npre 38 [.num (.v 0 3)]) <|
           .bad))
         (.f (.npre 50 [.num (.v 0 5), .num (.v 0 6), .num (.v 0 7), .num (.v 0 0)]) <|
          .bad))
        (.f (.npre 49 [.tru (.v 0 1), .lst 0 2, .tru (.v 65558 0), .lst 65558 1]) <|
         .bad))
       (.f (.npre 38 [.num (.wrap .u64 (.v 0 7))]) <|
        .bad)))))
  (.f (.npre 47 [.num (.v 0 0), .tru (.v 0 1), .lst 0 2, .num (.v 0 3), .num (.v 0 4)]) <|
   .bad)
theorem c10 : ConS Tryz.prog T C10 := con_tr (cs := [C38, C47, C48, C49, C50, C51, C52]) (lcs := []) (known := []) (cons_cons c38 (cons_cons c47 (cons_cons c48 (cons_cons c49 (cons_cons c50 (cons_cons c51 (cons_cons c52 (cons_nil _ _)))))))) (Known.nil _) (N := 400) (d := 40) (t := t10) (by kernel_rfl) <| by
  intro E hl hp
  have hl2 := hl 2 _ rfl
  clear hl
  have hp := hp rfl
  simp only [C10, show T.pre 10 = Q10 from rfl, flatS, SP.flat, dvs, List.append_nil, List.cons_append, List.nil_append, Q10, U64, U32, I64, Big, W, wv, s64, WT, PR, MR, MB] at hp
  simp only [t10, C10, Tr.good, Fact.den, LX.den, DX.ls, DV.ls, DX.den, Bx.den, Ex.den, eo_add, eo_sub, eo_mul, eo_quo, eo_rem, eo_fdv, eo_mn, eo_mx, eo_land, eo_lor, eo_lxor, eo_landn, eo_shl, eo_shr, dvs, flatS, SP.flat, ST.flat, List.map_cons, List.map_nil, List.append_nil, List.cons_append, List.nil_append, ltb_t, ltb_f, leb_t, leb_f, eqb_t, eqb_f, decide_eq_true_eq, decide_eq_false_iff_not, Bool.not_eq_true', Bool.not_eq_false', Bool.and_eq_true, Bool.and_eq_false_imp, beq_iff_eq, beq_eq_false_iff_ne, bne_iff_ne, U64, U32, I64, Big, W, wv, Told, s64, WT, PR, MR, MB, Int.zero_mul, Int.zero_add, Int.add_zero, Int.mul_zero, IntKind.wrap_u64, IntKind.wrap_i64, IntKind.wrap_u32, ne_eq, forall_const, true_implies, show T.rel 10 = R10 from rfl, R10, show T.rel 38 = R38 from rfl, R38, show T.rel 47 = R47 from rfl, R47, show T.rel 48 = R48 from rfl, R48, show T.rel 49 = R49 from rfl, R49, show T.rel 50 = R50 from rfl, R50, show T.rel 51 = R51 from rfl, R51, show T.rel 52 = R52 from rfl, R52, show T.pre 10 = Q10 from rfl, Q10, show T.pre 38 = Q38 from rfl, Q38, show T.pre 47 = Q47 from rfl, Q47, show T.pre 49 = Q49 from rfl, Q49, show T.pre 50 = Q50 from rfl, Q50, show T.pre 51 = Q51 from rfl, Q51, show T.pre 52 = Q52 from rfl, Q52]
  revert hp hl2
  generalize (E.r 0).i 0 = b
  generalize (E.r 0).c 1 = an
  generalize (E.r 0).l 2 = al
  generalize (E.r 0).i 3 = w
  generalize (E.r 0).i 4 = n
  generalize (E.r 0).i 5 = t
  generalize (E.r 0).i 6 = r
  generalize (E.r 0).i 7 = v
  generalize (E.r 65541).c 0 = x5_0
  generalize (E.r 65550).c 0 = x14_0
  generalize (E.r 65558).c 0 = x22_0
  generalize (E.r 65558).l 1 = x22_1
  generalize (E.r 65559).c 0 = x23_0
  generalize (E.r 65559).l 1 = x23_1
  generalize (E.r 65565).c 0 = x29_0
  generalize (E.r 65565).l 1 = x29_1
  generalize (E.r 65568).c 0 = x32_0
  generalize (E.r 65568).l 1 = x32_1
  generalize (E.r 65569).c 0 = x33_0
  generalize (E.r 65569).l 1 = x33_1
  generalize (E.r 65574).c 0 = x38_0
  generalize (E.r 65574).l 1 = x38_1
  generalize (E.r 65578).c 0 = x42_0
  generalize (E.r 65582).c 0 = x46_0
  generalize (E.r 65587).c 0 = x51_0
  simp only [Bg]
  try generalize bval an al = an_v
  try generalize bval x22_0 x22_1 = y22_0
  try generalize bval x23_0 x23_1 = y23_0
  try generalize bval x29_0 x29_1 = y29_0
  try generalize bval x32_0 x32_1 = y32_0
  try generalize bval x33_0 x33_1 = y33_0
  try generalize bval x38_0 x38_1 = y38_0
  try simp only [mxI, mnI]
  try simp only [ltb, leb, eqb, Int.lt_irrefl, decide_false, Int.le_refl, decide_true]
  simp only [bval_nil]
  intro hl hp
  have B0 := BOK_nil
  have e1 : v % 18446744073709551616 = v := by omega
  simp only [e1]
  obtain ⟨hb, hA, hq⟩ := hp
  have hA' : -170141183460469231731687303715884105728 ≤ an_v ∧ an_v < 170141183460469231731687303715884105728 := hA
  have s := mul_abs (w := v) (s := (t - b + 9223372036854775808) % 18446744073709551616 - 9223372036854775808) (A := 4294967295) (by omega) (by omega) (by omega) (by omega)
  have p1 := mul_le2 (a := an_v) (b := v) (X := 170141183460469231731687303715884105728) (Y := 4294967296) (by omega) (by omega) (by omega) (by omega)
  have p2 := mul_le2 (a := v * ((t - b + 9223372036854775808) % 18446744073709551616 - 9223372036854775808) + r) (b := w) (X := 170141183460469231731687303715884105728) (Y := 18446744073709551616) (by omega) (by omega) (by omega) (by omega)
  repeat' (first | assumption | (intro (h : _ ∧ _); obtain ⟨_, rfl⟩ := h) | (intro (h : _ ∧ _); obtain ⟨_, _⟩ := h) | intro _ | refine And.intro ?_ ?_)
  all_goals try (show False; refine absurd ?_ ‹¬ _›)
  all_goals repeat' (first | assumption | refine And.intro ?_ ?_)
  all_goals first | omega | (simp_all; done) | (simp_all; omega)
end Go.Proofs.YthlcpdjpnbbaeaaGreatDoor.Fn
namespace Go.Proofs.YthlcpdjpnbbaeaaGreatDoor.Fn
open Go Go.RowKit Go.Proofs.YthlcpdjpnbbaeaaGreatDoor.Sy
set_option linter.unusedVariables false
set_option linter.unusedSimpArgs false
set_option maxRecDepth 100000
def t66 : Tr :=
  .br (.f (.rel 38 [.num (.n 4294967296)] 65537 [.bool, .list [.int .i64]]) <|
   .br (.f (.rel 38 [.num (.n 4294967296)] 65538 [.bool, .list [.int .i64]]) <|
    .br (.f (.rel 49 [.tru (.v 65537 0), .lst 65537 1, .tru (.v 65538 0), .lst 65538 1] 65539 [.bool, .list [.int .i64]]) <|
     .br (.f (.rel 61 [.num (.v 0 0)] 65543 [.bool, .list [.int .i64]]) <|
      .br (.f (.rel 49 [.tru (.v 65543 0), .lst 65543 1, .tru (.v 65539 0), .lst 65539 1] 65545 [.bool, .list [.int .i64]]) <|
       .br (.f (.rel 38 [.num (.v 0 1)] 65547 [.bool, .list [.int .i64]]) <|
        .br (.f (.rel 73 [.tru (.v 65545 0), .lst 65545 1, .tru (.v 65547 0), .lst 65547 1] 65548 [.bool, .list [.int .i64]]) <|
         .ok [.tru (.v 65548 0), .lst 65548 1])
        (.f (.npre 73 [.tru (.v 65545 0), .lst 65545 1, .tru (.v 65547 0), .lst 65547 1]) <|
         .bad))
       (.f (.npre 38 [.num (.v 0 1)]) <|
        .bad))
      (.f (.npre 49 [.tru (.v 65543 0), .lst 65543 1, .tru (.v 65539 0), .lst 65539 1]) <|
       .bad))
     (.f (.npre 61 [.num (.v 0 0)]) <|
      .bad))
    (.f (.npre 49 [.tru (.v 65537 0), .lst 65537 1, .tru (.v 65538 0), .lst 65538 1]) <|
     .bad))
   (.f (.npre 38 [.num (.n 4294967296)]) <|
    .bad))
  (.f (.npre 38 [.num (.n 4294967296)]) <|
   .bad)
theorem c66 : ConS Tryz.prog T C66 := con_tr (cs := [C38, C49, C61, C73]) (lcs := []) (known := []) (cons_cons c38 (cons_cons c49 (cons_cons c61 (cons_cons c73 (cons_nil _ _))))) (Known.nil _) (N := 400) (d := 40) (t := t66) (by kernel_rfl) <| by
  intro E hl hp
  clear hl
  have hp := hp rfl
  simp only [C66, show T.pre 66 = Q66 from rfl, flatS, SP.flat, dvs, List.append_nil, List.cons_append, List.nil_append, Q66, U64, U32, I64, Big, W, wv, s64, WT, PR, MR, MB] at hp
  simp only [t66, C66, Tr.good, Fact.den, LX.den, DX.ls, DV.ls, DX.den, Bx.den, Ex.den, eo_add, eo_sub, eo_mul, eo_quo, eo_rem, eo_fdv, eo_mn, eo_mx, eo_land, eo_lor, eo_lxor, eo_landn, eo_shl, eo_shr, dvs, flatS, SP.flat, ST.flat, List.map_cons, List.map_nil, List.append_nil, List.cons_append, List.nil_append, ltb_t, ltb_f, leb_t, leb_f, eqb_t, eqb_f, decide_eq_true_eq, decide_eq_false_iff_not, Bool.not_eq_true', Bool.not_eq_false', Bool.and_eq_true, Bool.and_eq_false_imp, beq_iff_eq, beq_eq_false_iff_ne, bne_iff_ne, U64, U32, I64, Big, W, wv, Told, s64, WT, PR, MR, MB, Int.zero_mul, Int.zero_add, Int.add_zero, Int.mul_zero, IntKind.wrap_u64, IntKind.wrap_i64, IntKind.wrap_u32, ne_eq, forall_const, true_implies, show T.rel 38 = R38 from rfl, R38, show T.rel 49 = R49 from rfl, R49, show T.rel 61 = R61 from rfl, R61, show T.rel 66 = R66 from rfl, R66, show T.rel 73 = R73 from rfl, R73, show T.pre 38 = Q38 from rfl, Q38, show T.pre 49 = Q49 from rfl, Q49, show T.pre 61 = Q61 from rfl, Q61, show T.pre 66 = Q66 from rfl, Q66, show T.pre 73 = Q73 from rfl, Q73]
  revert hp
  generalize (E.r 0).i 0 = h
  generalize (E.r 0).i 1 = l
  generalize (E.r 65537).c 0 = x1_0
  generalize (E.r 65537).l 1 = x1_1
  generalize (E.r 65538).c 0 = x2_0
  generalize (E.r 65538).l 1 = x2_1
  generalize (E.r 65539).c 0 = x3_0
  generalize (E.r 65539).l 1 = x3_1
  generalize (E.r 65543).c 0 = x7_0
  generalize (E.r 65543).l 1 = x7_1
  generalize (E.r 65545).c 0 = x9_0
  generalize (E.r 65545).l 1 = x9_1
  generalize (E.r 65547).c 0 = x11_0
  generalize (E.r 65547).l 1 = x11_1
  generalize (E.r 65548).c 0 = x12_0
  generalize (E.r 65548).l 1 = x12_1
  try simp only [mxI, mnI]
  try simp only [ltb, leb, eqb, Int.lt_irrefl, decide_false, Int.le_refl, decide_true]
  intro hp
  refine ⟨fun e1 => ⟨fun e2 => ⟨fun e3 => ⟨fun e4 => ⟨fun e5 => ⟨fun e6 => ⟨fun e7 => ⟨e7.1, by rw [e7.2, e5.2, e6.2, e4.2, e3.2, e1.2, e2.2]; omega⟩, fun n => n ⟨⟨e5.1, by rw [e5.2, e4.2, e3.2, e1.2, e2.2]; omega, by rw [e5.2, e4.2, e3.2, e1.2, e2.2]; omega⟩, e6.1, by omega, by omega⟩⟩, by omega⟩, fun n => n ⟨⟨e4.1, by omega, by omega⟩, e3.1, by rw [e3.2, e1.2, e2.2]; omega, by rw [e3.2, e1.2, e2.2]; omega⟩⟩, by omega⟩, fun n => n ⟨⟨e1.1, by omega, by omega⟩, e2.1, by omega, by omega⟩⟩, by omega⟩, by omega⟩
end Go.Proofs.YthlcpdjpnbbaeaaGreatDoor.Fn
namespace Go.Proofs.YthlcpdjpnbbaeaaGreatDoor.Fn
open Go Go.RowKit Go.Proofs.YthlcpdjpnbbaeaaGreatDoor.Sy
set_option linter.unusedVariables false
set_option linter.unusedSimpArgs false
set_option maxRecDepth 100000
def t23 : Tr :=
  .br (.f (.rel 66 [.num (.v 0 0), .num (.v 0 1)] 65542 [.bool, .list [.int .i64]]) <|
   .ok [.tru (.v 65542 0), .lst 65542 1])
  (.f (.npre 66 [.num (.v 0 0), .num (.v 0 1)]) <|
   .bad)
theorem c23 : ConS Tryz.prog T C23 := con_tr (cs := [C66]) (lcs := []) (known := []) (cons_cons c66 (cons_nil _ _)) (Known.nil _) (N := 400) (d := 40) (t := t23) (by kernel_rfl) <| by
  intro E hl hp
  clear hl
  have hp := hp rfl
  simp only [C23, show T.pre 23 = Q23 from rfl, flatS, SP.flat, dvs, List.append_nil, List.cons_append, List.nil_append, Q23, U64, U32, I64, Big, W, wv, s64, WT, PR, MR, MB] at hp
  simp only [t23, C23, Tr.good, Fact.den, LX.den, DX.ls, DV.ls, DX.den, Bx.den, Ex.den, eo_add, eo_sub, eo_mul, eo_quo, eo_rem, eo_fdv, eo_mn, eo_mx, eo_land, eo_lor, eo_lxor, eo_landn, eo_shl, eo_shr, dvs, flatS, SP.flat, ST.flat, List.map_cons, List.map_nil, List.append_nil, List.cons_append, List.nil_append, ltb_t, ltb_f, leb_t, leb_f, eqb_t, eqb_f, decide_eq_true_eq, decide_eq_false_iff_not, Bool.not_eq_true', Bool.not_eq_false', Bool.and_eq_true, Bool.and_eq_false_imp, beq_iff_eq, beq_eq_false_iff_ne, bne_iff_ne, U64, U32, I64, Big, W, wv, Told, s64, WT, PR, MR, MB, Int.zero_mul, Int.zero_add, Int.add_zero, Int.mul_zero, IntKind.wrap_u64, IntKind.wrap_i64, IntKind.wrap_u32, ne_eq, forall_const, true_implies, show T.rel 23 = R23 from rfl, R23, show T.rel 66 = R66 from rfl, R66, show T.pre 23 = Q23 from rfl, Q23, show T.pre 66 = Q66 from rfl, Q66]
  revert hp
  generalize (E.r 0).i 0 = h
  generalize (E.r 0).i 1 = l
  generalize (E.r 65542).c 0 = x6_0
  generalize (E.r 65542).l 1 = x6_1
  try simp only [mxI, mnI]
  try simp only [ltb, leb, eqb, Int.lt_irrefl, decide_false, Int.le_refl, decide_true]
  intro hp
  exact ⟨fun h => h, fun n => n hp⟩
end Go.Proofs.YthlcpdjpnbbaeaaGreatDoor.Fn
namespace Go.Proofs.YthlcpdjpnbbaeaaGreatDoor.Fn
open Go Go.RowKit Go.Proofs.YthlcpdjpnbbaeaaGreatDoor.Sy
set_option linter.unusedVariables false
set_option linter.unusedSimpArgs false
set_option maxRecDepth 100000
def t11 : Tr :=
  .br (.f (.rel 23 [.num (.v 0 1), .num (.v 0 2)] 65542 [.bool, .list [.int .i64]]) <|
   .ok [.num (.v 0 0), .tru (.v 65542 0), .lst 65542 1, .num (.v 0 3), .num (.v 0 4)])
  (.f (.npre 23 [.num (.v 0 1), .num (.v 0 2)]) <|
   .bad)
theorem c11 : ConS Tryz.prog T C11 := con_tr (cs := [C23]) (lcs := []) (known := []) (cons_cons c23 (cons_nil _ _)) (Known.nil _) (N := 400) (d := 40) (t := t11) (by kernel_rfl) <| by
  intro E hl hp
  clear hl
  have hp := hp rfl
  simp only [C11, show T.pre 11 = Q11 from rfl, flatS, SP.flat, dvs, List.append_nil, List.cons_append, List.nil_append, Q11, U64, U32, I64, Big, W, wv, s64, WT, PR, MR, MB] at hp
  simp only [t11, C11, Tr.good, Fact.den, LX.den, DX.ls, DV.ls, DX.den, Bx.den, Ex.den, eo_add, eo_sub, eo_mul, eo_quo, eo_rem, eo_fdv, eo_mn, eo_mx, eo_land, eo_lor, eo_lxor, eo_landn, eo_shl, eo_shr, dvs, flatS, SP.flat, ST.flat, List.map_cons, List.map_nil, List.append_nil, List.cons_append, List.nil_append, ltb_t, ltb_f, leb_t, leb_f, eqb_t, eqb_f, decide_eq_true_eq, decide_eq_false_iff_not, Bool.not_eq_true', Bool.not_eq_false', Bool.and_eq_true, Bool.and_eq_false_imp, beq_iff_eq, beq_eq_false_iff_ne, bne_iff_ne, U64, U32, I64, Big, W, wv, Told, s64, WT, PR, MR, MB, Int.zero_mul, Int.zero_add, Int.add_zero, Int.mul_zero, IntKind.wrap_u64, IntKind.wrap_i64, IntKind.wrap_u32, ne_eq, forall_const, true_implies, show T.rel 11 = R11 from rfl, R11, show T.rel 23 = R23 from rfl, R23, show T.pre 11 = Q11 from rfl, Q11, show T.pre 23 = Q23 from rfl, Q23]
  revert hp
  generalize (E.r 0).i 0 = b
  generalize (E.r 0).i 1 = h
  generalize (E.r 0).i 2 = l
  generalize (E.r 0).i 3 = w
  generalize (E.r 0).i 4 = n
  generalize (E.r 65542).c 0 = x6_0
  generalize (E.r 65542).l 1 = x6_1
  try simp only [mxI, mnI]
  try simp only [ltb, leb, eqb, Int.lt_irrefl, decide_false, Int.le_refl, decide_true]
  intro hp
  exact ⟨fun e => ⟨trivial, e.1, e.2, trivial, trivial⟩, fun n => n hp.1⟩
end Go.Proofs.YthlcpdjpnbbaeaaGreatDoor.Fn
namespace Go.Proofs.YthlcpdjpnbbaeaaGreatDoor.Fn
open Go Go.RowKit Go.Proofs.YthlcpdjpnbbaeaaGreatDoor.Sy
set_option linter.unusedVariables false
set_option linter.unusedSimpArgs false
set_option maxRecDepth 100000
def t12 : Tr :=
  .ok [.num (.v 0 0), .num (.v 0 1), .num (.v 0 2)]
theorem c12 : ConS Tryz.prog T C12 := con_tr (cs := []) (lcs := []) (known := []) (cons_nil _ _) (Known.nil _) (N := 400) (d := 40) (t := t12) (by kernel_rfl) <| by
  intro E hl hp
  clear hl
  have hp := hp rfl
  simp only [C12, show T.pre 12 = Q12 from rfl, flatS, SP.flat, dvs, List.append_nil, List.cons_append, List.nil_append, Q12, U64, U32, I64, Big, W, wv, s64, WT, PR, MR, MB] at hp
  simp only [t12, C12, Tr.good, Fact.den, LX.den, DX.ls, DV.ls, DX.den, Bx.den, Ex.den, eo_add, eo_sub, eo_mul, eo_quo, eo_rem, eo_fdv, eo_mn, eo_mx, eo_land, eo_lor, eo_lxor, eo_landn, eo_shl, eo_shr, dvs, flatS, SP.flat, ST.flat, List.map_cons, List.map_nil, List.append_nil, List.cons_append, List.nil_append, ltb_t, ltb_f, leb_t, leb_f, eqb_t, eqb_f, decide_eq_true_eq, decide_eq_false_iff_not, Bool.not_eq_true', Bool.not_eq_false', Bool.and_eq_true, Bool.and_eq_false_imp, beq_iff_eq, beq_eq_false_iff_ne, bne_iff_ne, U64, U32, I64, Big, W, wv, Told, s64, WT, PR, MR, MB, Int.zero_mul, Int.zero_add, Int.add_zero, Int.mul_zero, IntKind.wrap_u64, IntKind.wrap_i64, IntKind.wrap_u32, ne_eq, forall_const, true_implies, show T.rel 12 = R12 from rfl, R12, show T.pre 12 = Q12 from rfl, Q12]
  revert hp
  generalize (E.r 0).i 0 = t
  generalize (E.r 0).i 1 = r
  generalize (E.r 0).i 2 = w
  try simp only [mxI, mnI]
  try simp only [ltb, leb, eqb, Int.lt_irrefl, decide_false, Int.le_refl, decide_true]
  repeat' (first | intro _ | refine And.intro ?_ ?_ | refine Iff.intro ?_ ?_)
  all_goals first | omega | (simp_all; done) | (simp_all; omega)
end Go.Proofs.YthlcpdjpnbbaeaaGreatDoor.Fn
namespace Go.Proofs.YthlcpdjpnbbaeaaGreatDoor.Fn
open Go Go.RowKit Go.Proofs.YthlcpdjpnbbaeaaGreatDoor.Sy
set_option linter.unusedVariables false
set_option linter.unusedSimpArgs false
set_option maxRecDepth 100000
def t14 : Tr :=
  .ok [.num (.wrap .i64 (.wrap .u64 (.bin .sub (.v 0 0) (.v 0 1))))]
theorem c14 : ConS Tryz.prog T C14 := con_tr (cs := []) (lcs := []) (known := []) (cons_nil _ _) (Known.nil _) (N := 400) (d := 40) (t := t14) (by kernel_rfl) <| by
  intro E hl hp
  clear hl
  clear hp
  simp only [t14, C14, Tr.good, Fact.den, LX.den, DX.ls, DV.ls, DX.den, Bx.den, Ex.den, eo_add, eo_sub, eo_mul, eo_quo, eo_rem, eo_fdv, eo_mn, eo_mx, eo_land, eo_lor, eo_lxor, eo_landn, eo_shl, eo_shr, dvs, flatS, SP.flat, ST.flat, List.map_cons, List.map_nil, List.append_nil, List.cons_append, List.nil_append, ltb_t, ltb_f, leb_t, leb_f, eqb_t, eqb_f, decide_eq_true_eq, decide_eq_false_iff_not, Bool.not_eq_true', Bool.not_eq_false', Bool.and_eq_true, Bool.and_eq_false_imp, beq_iff_eq, beq_eq_false_iff_ne, bne_iff_ne, U64, U32, I64, Big, W, wv, Told, s64, WT, PR, MR, MB, Int.zero_mul, Int.zero_add, Int.add_zero, Int.mul_zero, IntKind.wrap_u64, IntKind.wrap_i64, IntKind.wrap_u32, ne_eq, forall_const, true_implies, show T.rel 14 = R14 from rfl, R14]
  generalize (E.r 0).i 0 = t
  generalize (E.r 0).i 1 = u
  try simp only [mxI, mnI]
  try simp only [ltb, leb, eqb, Int.lt_irrefl, decide_false, Int.le_refl, decide_true]
  repeat' (first | intro _ | refine And.intro ?_ ?_ | refine Iff.intro ?_ ?_)
  all_goals first | omega | (simp_all; done) | (simp_all; omega)
end Go.Proofs.YthlcpdjpnbbaeaaGreatDoor.Fn
namespace Go.Proofs.YthlcpdjpnbbaeaaGreatDoor.Fn
open Go Go.RowKit Go.Proofs.YthlcpdjpnbbaeaaGreatDoor.Sy
set_option linter.unusedVariables false
set_option linter.unusedSimpArgs false
set_option maxRecDepth 100000
def t53 : Tr :=
  .br (.f (.is (.le (.n 1) (.v 0 0)) true) <|
   .ok [.tru (.le (.v 0 0) (.n 1048576))])
  (.f (.is (.le (.n 1) (.v 0 0)) false) <|
   .ok [.tru (.lt (.n 0) (.n 0))])
theorem c53 : ConS Tryz.prog T C53 := con_tr (cs := []) (lcs := []) (known := []) (cons_nil _ _) (Known.nil _) (N := 400) (d := 40) (t := t53) (by kernel_rfl) <| by
  intro E hl hp
  clear hl
  clear hp
  simp only [t53, C53, Tr.good, Fact.den, LX.den, DX.ls, DV.ls, DX.den, Bx.den, Ex.den, eo_add, eo_sub, eo_mul, eo_quo, eo_rem, eo_fdv, eo_mn, eo_mx, eo_land, eo_lor, eo_lxor, eo_landn, eo_shl, eo_shr, dvs, flatS, SP.flat, ST.flat, List.map_cons, List.map_nil, List.append_nil, List.cons_append, List.nil_append, ltb_t, ltb_f, leb_t, leb_f, eqb_t, eqb_f, decide_eq_true_eq, decide_eq_false_iff_not, Bool.not_eq_true', Bool.not_eq_false', Bool.and_eq_true, Bool.and_eq_false_imp, beq_iff_eq, beq_eq_false_iff_ne, bne_iff_ne, U64, U32, I64, Big, W, wv, Told, s64, WT, PR, MR, MB, Int.zero_mul, Int.zero_add, Int.add_zero, Int.mul_zero, IntKind.wrap_u64, IntKind.wrap_i64, IntKind.wrap_u32, ne_eq, forall_const, true_implies, show T.rel 53 = R53 from rfl, R53]
  generalize (E.r 0).i 0 = w
  try simp only [mxI, mnI]
  try simp only [ltb, leb, eqb, Int.lt_irrefl, decide_false, Int.le_refl, decide_true]
  repeat' (first | intro _ | refine And.intro ?_ ?_ | refine Iff.intro ?_ ?_)
  all_goals first | omega | (simp_all; done) | (simp_all; omega)
end Go.Proofs.YthlcpdjpnbbaeaaGreatDoor.Fn
namespace Go.Proofs.YthlcpdjpnbbaeaaGreatDoor.Fn
open Go Go.RowKit Go.Proofs.YthlcpdjpnbbaeaaGreatDoor.Sy
set_option linter.unusedVariables false
set_option linter.unusedSimpArgs false
set_option maxRecDepth 100000
def t15 : Tr :=
  .f (.rel 53 [.num (.v 0 2)] 65540 [.bool]) <|
   .br (.f (.is (.v 65540 0) true) <|
    .ok [.tru (.lt (.v 0 1) (.v 0 2))])
   (.f (.is (.v 65540 0) false) <|
    .ok [.tru (.lt (.n 0) (.n 0))])
theorem c15 : ConS Tryz.prog T C15 := con_tr (cs := [C53]) (lcs := []) (known := []) (cons_cons c53 (cons_nil _ _)) (Known.nil _) (N := 400) (d := 40) (t := t15) (by kernel_rfl) <| by
  intro E hl hp
  clear hl
  clear hp
  simp only [t15, C15, Tr.good, Fact.den, LX.den, DX.ls, DV.ls, DX.den, Bx.den, Ex.den, eo_add, eo_sub, eo_mul, eo_quo, eo_rem, eo_fdv, eo_mn, eo_mx, eo_land, eo_lor, eo_lxor, eo_landn, eo_shl, eo_shr, dvs, flatS, SP.flat, ST.flat, List.map_cons, List.map_nil, List.append_nil, List.cons_append, List.nil_append, ltb_t, ltb_f, leb_t, leb_f, eqb_t, eqb_f, decide_eq_true_eq, decide_eq_false_iff_not, Bool.not_eq_true', Bool.not_eq_false', Bool.and_eq_true, Bool.and_eq_false_imp, beq_iff_eq, beq_eq_false_iff_ne, bne_iff_ne, U64, U32, I64, Big, W, wv, Told, s64, WT, PR, MR, MB, Int.zero_mul, Int.zero_add, Int.add_zero, Int.mul_zero, IntKind.wrap_u64, IntKind.wrap_i64, IntKind.wrap_u32, ne_eq, forall_const, true_implies, show T.rel 15 = R15 from rfl, R15, show T.rel 53 = R53 from rfl, R53]
  generalize (E.r 0).i 0 = t
  generalize (E.r 0).i 1 = r
  generalize (E.r 0).i 2 = w
  generalize (E.r 65540).c 0 = x4_0
  try simp only [mxI, mnI]
  try simp only [ltb, leb, eqb, Int.lt_irrefl, decide_false, Int.le_refl, decide_true]
  repeat' (first | intro _ | refine And.intro ?_ ?_ | refine Iff.intro ?_ ?_)
  all_goals first | omega | (simp_all; done) | (simp_all; omega)
end Go.Proofs.YthlcpdjpnbbaeaaGreatDoor.Fn
