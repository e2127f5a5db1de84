/- What is told of the functions, shown: turnstone/turnstoneref01.Wide, turnstone/turnstonelaw01.Of, turnstone/turnstonelaw08.Of, turnstone/turnstonelaw04.Of, turnstone/wide.Of, (turnstone/mean.Mean).Right, math/bits.Sub64, (turnstone/wide.Int).flip, (turnstone/wide.Int).size, math/bits.Mul64, math/bits.Add64, turnstone/wide.signed, (turnstone/wide.Int).Mul, (turnstone/wide.Int).Sub, math/bits.Len64, math/bits.LeadingZeros64. -/
import Derived.Test.YthlcpdjpnbbaeaaGreatDoorFm0
namespace Go.Proofs.YthlcpdjpnbbaeaaGreatDoor.Fn
open Go Go.RowKit Go.Proofs.YthlcpdjpnbbaeaaGreatDoor.Sy
set_option linter.unusedVariables false
set_option linter.unusedSimpArgs false
set_option maxRecDepth 100000
def t66 : Tr :=
  .br (.f (.rel 38 [.num (.n 4294967296)] 65537 [.bool, .list [.int .i64]]) <|
   .br (.f (.rel 38 [.num (.n 4294967296)] 65538 [.bool, .list [.int .i64]]) <|
    .br (.f (.rel 49 [.tru (.v 65537 0), .lst 65537 1, .tru (.v 65538 0), .lst 65538 1] 65539 [.bool, .list [.int .i64]]) <|
     .br (.f (.rel 61 [.num (.v 0 0)] 65543 [.bool, .list [.int .i64]]) <|
      .br (.f (.rel 49 [.tru (.v 65543 0), .lst 65543 1, .tru (.v 65539 0), .lst 65539 1] 65545 [.bool, .list [.int .i64]]) <|
       .br (.f (.rel 38 [.num (.v 0 1)] 65547 [.bool, .list [.int .i64]]) <|
        .br (.f (.rel 73 [.tru (.v 65545 0), .lst 65545 1, .tru (.v 65547 0), .lst 65547 1] 65548 [.bool, .list [.int .i64]]) <|
         .ok [.tru (.v 65548 0), .lst 65548 1])
        (.f (.npre 73 [.tru (.v 65545 0), .lst 65545 1, .tru (.v 65547 0), .lst 65547 1]) <|
         .bad))
       (.f (.npre 38 [.num (.v 0 1)]) <|
        .bad))
      (.f (.npre 49 [.tru (.v 65543 0), .lst 65543 1, .tru (.v 65539 0), .lst 65539 1]) <|
       .bad))
     (.f (.npre 61 [.num (.v 0 0)]) <|
      .bad))
    (.f (.npre 49 [.tru (.v 65537 0), .lst 65537 1, .tru (.v 65538 0), .lst 65538 1]) <|
     .bad))
   (.f (.npre 38 [.num (.n 4294967296)]) <|
    .bad))
  (.f (.npre 38 [.num (.n 4294967296)]) <|
   .bad)
theorem c66 : ConS Tryz.prog T C66 := con_tr (cs := [C38, C49, C61, C73]) (lcs := []) (known := []) (cons_cons c38 (cons_cons c49 (cons_cons c61 (cons_cons c73 (cons_nil _ _))))) (Known.nil _) (N := 400) (d := 40) (t := t66) (by kernel_rfl) <| by
  intro E hl hp
  clear hl
  have hp := hp rfl
  simp only [C66, show T.pre 66 = Q66 from rfl, flatS, SP.flat, dvs, List.append_nil, List.cons_append, List.nil_append, Q66, U64, U32, I64, Big, W, wv, s64, WT, PR, MR, MB] at hp
  simp only [t66, C66, Tr.good, Fact.den, LX.den, DX.ls, DV.ls, DX.den, Bx.den, Ex.den, eo_add, eo_sub, eo_mul, eo_quo, eo_rem, eo_fdv, eo_mn, eo_mx, eo_land, eo_lor, eo_lxor, eo_landn, eo_shl, eo_shr, dvs, flatS, SP.flat, ST.flat, List.map_cons, List.map_nil, List.append_nil, List.cons_append, List.nil_append, ltb_t, ltb_f, leb_t, leb_f, eqb_t, eqb_f, decide_eq_true_eq, decide_eq_false_iff_not, Bool.not_eq_true', Bool.not_eq_false', Bool.and_eq_true, Bool.and_eq_false_imp, beq_iff_eq, beq_eq_false_iff_ne, bne_iff_ne, U64, U32, I64, Big, W, wv, Told, s64, WT, PR, MR, MB, Int.zero_mul, Int.zero_add, Int.add_zero, Int.mul_zero, IntKind.wrap_u64, IntKind.wrap_i64, IntKind.wrap_u32, ne_eq, forall_const, true_implies, show T.rel 38 = R38 from rfl, R38, show T.rel 49 = R49 from rfl, R49, show T.rel 61 = R61 from rfl, R61, show T.rel 66 = R66 from rfl, R66, show T.rel 73 = R73 from rfl, R73, show T.pre 38 = Q38 from rfl, Q38, show T.pre 49 = Q49 from rfl, Q49, show T.pre 61 = Q61 from rfl, Q61, show T.pre 66 = Q66 from rfl, Q66, show T.pre 73 = Q73 from rfl, Q73]
  revert hp
  generalize (E.r 0).i 0 = h
  generalize (E.r 0).i 1 = l
  generalize (E.r 65537).c 0 = x1_0
  generalize (E.r 65537).l 1 = x1_1
  generalize (E.r 65538).c 0 = x2_0
  generalize (E.r 65538).l 1 = x2_1
  generalize (E.r 65539).c 0 = x3_0
  generalize (E.r 65539).l 1 = x3_1
  generalize (E.r 65543).c 0 = x7_0
  generalize (E.r 65543).l 1 = x7_1
  generalize (E.r 65545).c 0 = x9_0
  generalize (E.r 65545).l 1 = x9_1
  generalize (E.r 65547).c 0 = x11_0
  generalize (E.r 65547).l 1 = x11_1
  generalize (E.r 65548).c 0 = x12_0
  generalize (E.r 65548).l 1 = x12_1
  try simp only [mxI, mnI]
  try simp only [ltb, leb, eqb, Int.lt_irrefl, decide_false, Int.le_refl, decide_true]
  intro hp
  refine ⟨fun e1 => ⟨fun e2 => ⟨fun e3 => ⟨fun e4 => ⟨fun e5 => ⟨fun e6 => ⟨fun e7 => ⟨e7.1, by rw [e7.2, e5.2, e6.2, e4.2, e3.2, e1.2, e2.2]; omega⟩, fun n => n ⟨⟨e5.1, by rw [e5.2, e4.2, e3.2, e1.2, e2.2]; omega, by rw [e5.2, e4.2, e3.2, e1.2, e2.2]; omega⟩, e6.1, by omega, by omega⟩⟩, by omega⟩, fun n => n ⟨⟨e4.1, by omega, by omega⟩, e3.1, by rw [e3.2, e1.2, e2.2]; omega, by rw [e3.2, e1.2, e2.2]; omega⟩⟩, by omega⟩, fun n => n ⟨⟨e1.1, by omega, by omega⟩, e2.1, by omega, by omega⟩⟩, by omega⟩, by omega⟩
end Go.Proofs.YthlcpdjpnbbaeaaGreatDoor.Fn
namespace Go.Proofs.YthlcpdjpnbbaeaaGreatDoor.Fn
open Go Go.RowKit Go.Proofs.YthlcpdjpnbbaeaaGreatDoor.Sy
set_option linter.unusedVariables false
set_option linter.unusedSimpArgs false
set_option maxRecDepth 100000
def t23 : Tr :=
  .br (.f (.rel 66 [.num (.v 0 0), .num (.v 0 1)] 65542 [.bool, .list [.int .i64]]) <|
   .ok [.tru (.v 65542 0), .lst 65542 1])
  (.f (.npre 66 [.num (.v 0 0), .num (.v 0 1)]) <|
   .bad)
theorem c23 : ConS Tryz.prog T C23 := con_tr (cs := [C66]) (lcs := []) (known := []) (cons_cons c66 (cons_nil _ _)) (Known.nil _) (N := 400) (d := 40) (t := t23) (by kernel_rfl) <| by
  intro E hl hp
  clear hl
  have hp := hp rfl
  simp only [C23, show T.pre 23 = Q23 from rfl, flatS, SP.flat, dvs, List.append_nil, List.cons_append, List.nil_append, Q23, U64, U32, I64, Big, W, wv, s64, WT, PR, MR, MB] at hp
  simp only [t23, C23, Tr.good, Fact.den, LX.den, DX.ls, DV.ls, DX.den, Bx.den, Ex.den, eo_add, eo_sub, eo_mul, eo_quo, eo_rem, eo_fdv, eo_mn, eo_mx, eo_land, eo_lor, eo_lxor, eo_landn, eo_shl, eo_shr, dvs, flatS, SP.flat, ST.flat, List.map_cons, List.map_nil, List.append_nil, List.cons_append, List.nil_append, ltb_t, ltb_f, leb_t, leb_f, eqb_t, eqb_f, decide_eq_true_eq, decide_eq_false_iff_not, Bool.not_eq_true', Bool.not_eq_false', Bool.and_eq_true, Bool.and_eq_false_imp, beq_iff_eq, beq_eq_false_iff_ne, bne_iff_ne, U64, U32, I64, Big, W, wv, Told, s64, WT, PR, MR, MB, Int.zero_mul, Int.zero_add, Int.add_zero, Int.mul_zero, IntKind.wrap_u64, IntKind.wrap_i64, IntKind.wrap_u32, ne_eq, forall_const, true_implies, show T.rel 23 = R23 from rfl, R23, show T.rel 66 = R66 from rfl, R66, show T.pre 23 = Q23 from rfl, Q23, show T.pre 66 = Q66 from rfl, Q66]
  revert hp
  generalize (E.r 0).i 0 = h
  generalize (E.r 0).i 1 = l
  generalize (E.r 65542).c 0 = x6_0
  generalize (E.r 65542).l 1 = x6_1
  try simp only [mxI, mnI]
  try simp only [ltb, leb, eqb, Int.lt_irrefl, decide_false, Int.le_refl, decide_true]
  intro hp
  exact ⟨fun h => h, fun n => n hp⟩
end Go.Proofs.YthlcpdjpnbbaeaaGreatDoor.Fn
namespace Go.Proofs.YthlcpdjpnbbaeaaGreatDoor.Fn
open Go Go.RowKit Go.Proofs.YthlcpdjpnbbaeaaGreatDoor.Sy
set_option linter.unusedVariables false
set_option linter.unusedSimpArgs false
set_option maxRecDepth 100000
def t11 : Tr :=
  .br (.f (.rel 23 [.num (.v 0 1), .num (.v 0 2)] 65542 [.bool, .list [.int .i64]]) <|
   .ok [.num (.v 0 0), .tru (.v 65542 0), .lst 65542 1, .num (.v 0 3), .num (.v 0 4)])
  (.f (.npre 23 [.num (.v 0 1), .num (.v 0 2)]) <|
   .bad)
theorem c11 : ConS Tryz.prog T C11 := con_tr (cs := [C23]) (lcs := []) (known := []) (cons_cons c23 (cons_nil _ _)) (Known.nil _) (N := 400) (d := 40) (t := t11) (by kernel_rfl) <| by
  intro E hl hp
  clear hl
  have hp := hp rfl
  simp only [C11, show T.pre 11 = Q11 from rfl, flatS, SP.flat, dvs, List.append_nil, List.cons_append, List.nil_append, Q11, U64, U32, I64, Big, W, wv, s64, WT, PR, MR, MB] at hp
  simp only [t11, C11, Tr.good, Fact.den, LX.den, DX.ls, DV.ls, DX.den, Bx.den, Ex.den, eo_add, eo_sub, eo_mul, eo_quo, eo_rem, eo_fdv, eo_mn, eo_mx, eo_land, eo_lor, eo_lxor, eo_landn, eo_shl, eo_shr, dvs, flatS, SP.flat, ST.flat, List.map_cons, List.map_nil, List.append_nil, List.cons_append, List.nil_append, ltb_t, ltb_f, leb_t, leb_f, eqb_t, eqb_f, decide_eq_true_eq, decide_eq_false_iff_not, Bool.not_eq_true', Bool.not_eq_false', Bool.and_eq_true, Bool.and_eq_false_imp, beq_iff_eq, beq_eq_false_iff_ne, bne_iff_ne, U64, U32, I64, Big, W, wv, Told, s64, WT, PR, MR, MB, Int.zero_mul, Int.zero_add, Int.add_zero, Int.mul_zero, IntKind.wrap_u64, IntKind.wrap_i64, IntKind.wrap_u32, ne_eq, forall_const, true_implies, show T.rel 11 = R11 from rfl, R11, show T.rel 23 = R23 from rfl, R23, show T.pre 11 = Q11 from rfl, Q11, show T.pre 23 = Q23 from rfl, Q23]
  revert hp
  generalize (E.r 0).i 0 = b
  generalize (E.r 0).i 1 = h
  generalize (E.r 0).i 2 = l
  generalize (E.r 0).i 3 = w
  generalize (E.r 0).i 4 = n
  generalize (E.r 65542).c 0 = x6_0
  generalize (E.r 65542).l 1 = x6_1
  try simp only [mxI, mnI]
  try simp only [ltb, leb, eqb, Int.lt_irrefl, decide_false, Int.le_refl, decide_true]
  intro hp
  exact ⟨fun e => ⟨trivial, e.1, e.2, trivial, trivial⟩, fun n => n hp.1⟩
end Go.Proofs.YthlcpdjpnbbaeaaGreatDoor.Fn
namespace Go.Proofs.YthlcpdjpnbbaeaaGreatDoor.Fn
open Go Go.RowKit Go.Proofs.YthlcpdjpnbbaeaaGreatDoor.Sy
set_option linter.unusedVariables false
set_option linter.unusedSimpArgs false
set_option maxRecDepth 100000
def t12 : Tr :=
  .ok [.num (.v 0 0), .num (.v 0 1), .num (.v 0 2)]
theorem c12 : ConS Tryz.prog T C12 := con_tr (cs := []) (lcs := []) (known := []) (cons_nil _ _) (Known.nil _) (N := 400) (d := 40) (t := t12) (by kernel_rfl) <| by
  intro E hl hp
  clear hl
  have hp := hp rfl
  simp only [C12, show T.pre 12 = Q12 from rfl, flatS, SP.flat, dvs, List.append_nil, List.cons_append, List.nil_append, Q12, U64, U32, I64, Big, W, wv, s64, WT, PR, MR, MB] at hp
  simp only [t12, C12, Tr.good, Fact.den, LX.den, DX.ls, DV.ls, DX.den, Bx.den, Ex.den, eo_add, eo_sub, eo_mul, eo_quo, eo_rem, eo_fdv, eo_mn, eo_mx, eo_land, eo_lor, eo_lxor, eo_landn, eo_shl, eo_shr, dvs, flatS, SP.flat, ST.flat, List.map_cons, List.map_nil, List.append_nil, List.cons_append, List.nil_append, ltb_t, ltb_f, leb_t, leb_f, eqb_t, eqb_f, decide_eq_true_eq, decide_eq_false_iff_not, Bool.not_eq_true', Bool.not_eq_false', Bool.and_eq_true, Bool.and_eq_false_imp, beq_iff_eq, beq_eq_false_iff_ne, bne_iff_ne, U64, U32, I64, Big, W, wv, Told, s64, WT, PR, MR, MB, Int.zero_mul, Int.zero_add, Int.add_zero, Int.mul_zero, IntKind.wrap_u64, IntKind.wrap_i64, IntKind.wrap_u32, ne_eq, forall_const, true_implies, show T.rel 12 = R12 from rfl, R12, show T.pre 12 = Q12 from rfl, Q12]
  revert hp
  generalize (E.r 0).i 0 = t
  generalize (E.r 0).i 1 = r
  generalize (E.r 0).i 2 = w
  try simp only [mxI, mnI]
  try simp only [ltb, leb, eqb, Int.lt_irrefl, decide_false, Int.le_refl, decide_true]
  repeat' (first | intro _ | refine And.intro ?_ ?_ | refine Iff.intro ?_ ?_)
  all_goals first | omega | (simp_all; done) | (simp_all; omega)
end Go.Proofs.YthlcpdjpnbbaeaaGreatDoor.Fn
namespace Go.Proofs.YthlcpdjpnbbaeaaGreatDoor.Fn
open Go Go.RowKit Go.Proofs.YthlcpdjpnbbaeaaGreatDoor.Sy
set_option linter.unusedVariables false
set_option linter.unusedSimpArgs false
set_option maxRecDepth 100000
def t45 : Tr :=
  .br (.f (.is (.lt (.v 0 0) (.n 0)) true) <|
   .ok [.num (.n (-1)), .num (.wrap .u64 (.v 0 0))])
  (.f (.is (.lt (.v 0 0) (.n 0)) false) <|
   .ok [.num (.n 0), .num (.wrap .u64 (.v 0 0))])
theorem c45 : ConS Tryz.prog T C45 := con_tr (cs := []) (lcs := []) (known := []) (cons_nil _ _) (Known.nil _) (N := 400) (d := 40) (t := t45) (by kernel_rfl) <| by
  intro E hl hp
  clear hl
  have hp := hp rfl
  simp only [C45, show T.pre 45 = Q45 from rfl, flatS, SP.flat, dvs, List.append_nil, List.cons_append, List.nil_append, Q45, U64, U32, I64, Big, W, wv, s64, WT, PR, MR, MB] at hp
  simp only [t45, C45, Tr.good, Fact.den, LX.den, DX.ls, DV.ls, DX.den, Bx.den, Ex.den, eo_add, eo_sub, eo_mul, eo_quo, eo_rem, eo_fdv, eo_mn, eo_mx, eo_land, eo_lor, eo_lxor, eo_landn, eo_shl, eo_shr, dvs, flatS, SP.flat, ST.flat, List.map_cons, List.map_nil, List.append_nil, List.cons_append, List.nil_append, ltb_t, ltb_f, leb_t, leb_f, eqb_t, eqb_f, decide_eq_true_eq, decide_eq_false_iff_not, Bool.not_eq_true', Bool.not_eq_false', Bool.and_eq_true, Bool.and_eq_false_imp, beq_iff_eq, beq_eq_false_iff_ne, bne_iff_ne, U64, U32, I64, Big, W, wv, Told, s64, WT, PR, MR, MB, Int.zero_mul, Int.zero_add, Int.add_zero, Int.mul_zero, IntKind.wrap_u64, IntKind.wrap_i64, IntKind.wrap_u32, ne_eq, forall_const, true_implies, show T.rel 45 = R45 from rfl, R45, show T.pre 45 = Q45 from rfl, Q45]
  revert hp
  generalize (E.r 0).i 0 = x
  try simp only [mxI, mnI]
  try simp only [ltb, leb, eqb, Int.lt_irrefl, decide_false, Int.le_refl, decide_true]
  repeat' (first | intro _ | refine And.intro ?_ ?_ | refine Iff.intro ?_ ?_)
  all_goals first | omega | (simp_all; done) | (simp_all; omega)
end Go.Proofs.YthlcpdjpnbbaeaaGreatDoor.Fn
namespace Go.Proofs.YthlcpdjpnbbaeaaGreatDoor.Fn
open Go Go.RowKit Go.Proofs.YthlcpdjpnbbaeaaGreatDoor.Sy
set_option linter.unusedVariables false
set_option linter.unusedSimpArgs false
set_option maxRecDepth 100000
def t56 : Tr :=
  .br (.f (.is (.eq (.v 0 4) (.n 0)) true) <|
   .br (.f (.is (.eq (.v 0 3) (.n 0)) true) <|
    .ok [.tru (.and (.eq (.v 0 1) (.n 0)) (.and (.eq (.v 0 2) (.n 0)) (.le (.n 0) (.n 0))))])
   (.f (.is (.eq (.v 0 3) (.n 0)) false) <|
    .ok [.tru (.lt (.n 0) (.n 0))]))
  (.f (.is (.eq (.v 0 4) (.n 0)) false) <|
   .br (.f (.is (.lt (.n 0) (.v 0 4)) true) <|
    .br (.f (.is (.le (.v 0 4) (.n 32)) true) <|
     .br (.f (.is (.le (.wrap .u64 (.v 0 4)) (.v 0 3)) true) <|
      .ok [.tru (.le (.v 0 3) (.wrap .u64 (.bin .mul (.wrap .u64 (.v 0 4)) (.n 1048576))))])
     (.f (.is (.le (.wrap .u64 (.v 0 4)) (.v 0 3)) false) <|
      .ok [.tru (.lt (.n 0) (.n 0))]))
    (.f (.is (.le (.v 0 4) (.n 32)) false) <|
     .ok [.tru (.lt (.n 0) (.n 0))]))
   (.f (.is (.lt (.n 0) (.v 0 4)) false) <|
    .ok [.tru (.lt (.n 0) (.n 0))]))
theorem c56 : ConS Tryz.prog T C56 := con_tr (cs := []) (lcs := []) (known := []) (cons_nil _ _) (Known.nil _) (N := 400) (d := 40) (t := t56) (by kernel_rfl) <| by
  intro E hl hp
  clear hl
  have hp := hp rfl
  simp only [C56, show T.pre 56 = Q56 from rfl, flatS, SP.flat, dvs, List.append_nil, List.cons_append, List.nil_append, Q56, U64, U32, I64, Big, W, wv, s64, WT, PR, MR, MB] at hp
  simp only [t56, C56, Tr.good, Fact.den, LX.den, DX.ls, DV.ls, DX.den, Bx.den, Ex.den, eo_add, eo_sub, eo_mul, eo_quo, eo_rem, eo_fdv, eo_mn, eo_mx, eo_land, eo_lor, eo_lxor, eo_landn, eo_shl, eo_shr, dvs, flatS, SP.flat, ST.flat, List.map_cons, List.map_nil, List.append_nil, List.cons_append, List.nil_append, ltb_t, ltb_f, leb_t, leb_f, eqb_t, eqb_f, decide_eq_true_eq, decide_eq_false_iff_not, Bool.not_eq_true', Bool.not_eq_false', Bool.and_eq_true, Bool.and_eq_false_imp, beq_iff_eq, beq_eq_false_iff_ne, bne_iff_ne, U64, U32, I64, Big, W, wv, Told, s64, WT, PR, MR, MB, Int.zero_mul, Int.zero_add, Int.add_zero, Int.mul_zero, IntKind.wrap_u64, IntKind.wrap_i64, IntKind.wrap_u32, ne_eq, forall_const, true_implies, show T.rel 56 = R56 from rfl, R56, show T.pre 56 = Q56 from rfl, Q56]
  revert hp
  generalize (E.r 0).i 0 = b
  generalize (E.r 0).i 1 = h
  generalize (E.r 0).i 2 = l
  generalize (E.r 0).i 3 = w
  generalize (E.r 0).i 4 = n
  try simp only [mxI, mnI]
  try simp only [ltb, leb, eqb, Int.lt_irrefl, decide_false, Int.le_refl, decide_true]
  repeat' (first | intro _ | refine And.intro ?_ ?_ | refine Iff.intro ?_ ?_)
  all_goals first | omega | (simp_all; done) | (simp_all; omega)
end Go.Proofs.YthlcpdjpnbbaeaaGreatDoor.Fn
namespace Go.Proofs.YthlcpdjpnbbaeaaGreatDoor.Fn
open Go Go.RowKit Go.Proofs.YthlcpdjpnbbaeaaGreatDoor.Sy
set_option linter.unusedVariables false
set_option linter.unusedSimpArgs false
set_option maxRecDepth 100000

def row96 : Array Value → Sem Value := fun args => do
  let (x, y, b) ← Extern.MathBitsCarry.three "Sub64" args
  pure (Extern.MathBitsCarry.pair ((x + Extern.MathBitsCarry.m64 - y - b) % Extern.MathBitsCarry.m64) (if x < y + b then 1 else 0))
theorem small_cases96 (c : Int) (hc : c ≤ 1) : c = Int.ofNat 0 ∨ c = Int.ofNat 1 ∨ ∃ n, c = Int.negSucc n := by
  cases c with
  | ofNat n => match n, hc with
    | 0, _ => exact .inl rfl
    | 1, _ => exact .inr (.inl rfl)
    | n + 2, h => exact absurd h (by simp only [Int.ofNat_eq_natCast]; omega)
  | negSucc n => exact .inr (.inr ⟨n, rfl⟩)
theorem run96 (a b c : Int) (hc : c ≤ 1) (w : World) :
    (callFunc 96 #[.int .u64 a, .int .u64 b, .int .u64 c]).run Tryz.prog w = .ok (.value (.tuple #[.int .u64 (((a.toNat + 18446744073709551616 - b.toNat - c.toNat) % 18446744073709551616 : Nat) : Int), .int .u64 ((if a.toNat < b.toNat + c.toNat then 1 else 0 : Nat) : Int)])) w := by
  rw [run_callFunc_extern Tryz.func96 (by kernel_rfl) (by kernel_rfl) (by kernel_rfl) (e := row96) (by kernel_rfl)]
  rcases small_cases96 c hc with rfl | rfl | ⟨n, rfl⟩ <;> rfl
theorem c96 : ConS Tryz.prog T C96 := con_ext (by kernel_rfl) rfl fun r w hp => by
  have hp : U64 (r.i 0) ∧ U64 (r.i 1) ∧ 0 ≤ r.i 2 ∧ r.i 2 ≤ 1 := hp rfl
  have hc : r.i 2 ≤ 1 := hp.2.2.2
  refine ⟨⟨fun j => if j = 0 then (((((r.i 0).toNat + 18446744073709551616 - (r.i 1).toNat - (r.i 2).toNat) % 18446744073709551616 : Nat)) : Int) else ((if (r.i 0).toNat < (r.i 1).toNat + (r.i 2).toNat then 1 else 0 : Nat) : Int), fun _ => false, fun _ => [], fun _ => none, fun _ => 0, fun _ => undef⟩, run96 (r.i 0) (r.i 1) (r.i 2) hc w, ?_⟩
  show R96 [.num (r.i 0), .num (r.i 1), .num (r.i 2)] [.num _, .num _]
  simp only [R96]
  refine ⟨by simp; omega, fun h2 => ?_, fun h2 => ?_⟩
  · show ((if (r.i 0).toNat < (r.i 1).toNat + (r.i 2).toNat then 1 else 0 : Nat) : Int) = _
    rw [if_pos (by omega)]; rfl
  · show ((if (r.i 0).toNat < (r.i 1).toNat + (r.i 2).toNat then 1 else 0 : Nat) : Int) = _
    rw [if_neg (by omega)]; rfl
end Go.Proofs.YthlcpdjpnbbaeaaGreatDoor.Fn
namespace Go.Proofs.YthlcpdjpnbbaeaaGreatDoor.Fn
open Go Go.RowKit Go.Proofs.YthlcpdjpnbbaeaaGreatDoor.Sy
set_option linter.unusedVariables false
set_option linter.unusedSimpArgs false
set_option maxRecDepth 100000
def t98 : Tr :=
  .br (.f (.rel 96 [.num (.n 0), .num (.v 0 1), .num (.n 0)] 65540 [.int .u64, .int .u64]) <|
   .br (.f (.rel 96 [.num (.n 0), .num (.wrap .u64 (.v 0 0)), .num (.v 65540 1)] 65550 [.int .u64, .int .u64]) <|
    .ok [.num (.wrap .i64 (.v 65550 0)), .num (.v 65540 0)])
   (.f (.npre 96 [.num (.n 0), .num (.wrap .u64 (.v 0 0)), .num (.v 65540 1)]) <|
    .bad))
  (.f (.npre 96 [.num (.n 0), .num (.v 0 1), .num (.n 0)]) <|
   .bad)
theorem c98 : ConS Tryz.prog T C98 := con_tr (cs := [C96]) (lcs := []) (known := []) (cons_cons c96 (cons_nil _ _)) (Known.nil _) (N := 400) (d := 40) (t := t98) (by kernel_rfl) <| by
  intro E hl hp
  clear hl
  have hp := hp rfl
  simp only [C98, show T.pre 98 = Q98 from rfl, flatS, SP.flat, dvs, List.append_nil, List.cons_append, List.nil_append, Q98, U64, U32, I64, Big, W, wv, s64, WT, PR, MR, MB] at hp
  simp only [t98, C98, Tr.good, Fact.den, LX.den, DX.ls, DV.ls, DX.den, Bx.den, Ex.den, eo_add, eo_sub, eo_mul, eo_quo, eo_rem, eo_fdv, eo_mn, eo_mx, eo_land, eo_lor, eo_lxor, eo_landn, eo_shl, eo_shr, dvs, flatS, SP.flat, ST.flat, List.map_cons, List.map_nil, List.append_nil, List.cons_append, List.nil_append, ltb_t, ltb_f, leb_t, leb_f, eqb_t, eqb_f, decide_eq_true_eq, decide_eq_false_iff_not, Bool.not_eq_true', Bool.not_eq_false', Bool.and_eq_true, Bool.and_eq_false_imp, beq_iff_eq, beq_eq_false_iff_ne, bne_iff_ne, U64, U32, I64, Big, W, wv, Told, s64, WT, PR, MR, MB, Int.zero_mul, Int.zero_add, Int.add_zero, Int.mul_zero, IntKind.wrap_u64, IntKind.wrap_i64, IntKind.wrap_u32, ne_eq, forall_const, true_implies, show T.rel 96 = R96 from rfl, R96, show T.rel 98 = R98 from rfl, R98, show T.pre 96 = Q96 from rfl, Q96, show T.pre 98 = Q98 from rfl, Q98]
  revert hp
  generalize (E.r 0).i 0 = h
  generalize (E.r 0).i 1 = l
  generalize (E.r 65540).i 0 = x4_0
  generalize (E.r 65540).i 1 = x4_1
  generalize (E.r 65550).i 0 = x14_0
  generalize (E.r 65550).i 1 = x14_1
  try simp only [mxI, mnI]
  try simp only [ltb, leb, eqb, Int.lt_irrefl, decide_false, Int.le_refl, decide_true]
  repeat' (first | intro _ | refine And.intro ?_ ?_ | refine Iff.intro ?_ ?_)
  all_goals first | omega | (simp_all; done) | (simp_all; omega)
end Go.Proofs.YthlcpdjpnbbaeaaGreatDoor.Fn
namespace Go.Proofs.YthlcpdjpnbbaeaaGreatDoor.Fn
open Go Go.RowKit Go.Proofs.YthlcpdjpnbbaeaaGreatDoor.Sy
set_option linter.unusedVariables false
set_option linter.unusedSimpArgs false
set_option maxRecDepth 100000
def t92 : Tr :=
  .br (.f (.is (.lt (.v 0 0) (.n 0)) true) <|
   .br (.f (.rel 98 [.num (.v 0 0), .num (.v 0 1)] 65543 [.int .i64, .int .u64]) <|
    .ok [.num (.wrap .u64 (.v 65543 0)), .num (.v 65543 1)])
   (.f (.npre 98 [.num (.v 0 0), .num (.v 0 1)]) <|
    .bad))
  (.f (.is (.lt (.v 0 0) (.n 0)) false) <|
   .ok [.num (.wrap .u64 (.v 0 0)), .num (.v 0 1)])
theorem c92 : ConS Tryz.prog T C92 := con_tr (cs := [C98]) (lcs := []) (known := []) (cons_cons c98 (cons_nil _ _)) (Known.nil _) (N := 400) (d := 40) (t := t92) (by kernel_rfl) <| by
  intro E hl hp
  clear hl
  have hp := hp rfl
  simp only [C92, show T.pre 92 = Q92 from rfl, flatS, SP.flat, dvs, List.append_nil, List.cons_append, List.nil_append, Q92, U64, U32, I64, Big, W, wv, s64, WT, PR, MR, MB] at hp
  simp only [t92, C92, Tr.good, Fact.den, LX.den, DX.ls, DV.ls, DX.den, Bx.den, Ex.den, eo_add, eo_sub, eo_mul, eo_quo, eo_rem, eo_fdv, eo_mn, eo_mx, eo_land, eo_lor, eo_lxor, eo_landn, eo_shl, eo_shr, dvs, flatS, SP.flat, ST.flat, List.map_cons, List.map_nil, List.append_nil, List.cons_append, List.nil_append, ltb_t, ltb_f, leb_t, leb_f, eqb_t, eqb_f, decide_eq_true_eq, decide_eq_false_iff_not, Bool.not_eq_true', Bool.not_eq_false', Bool.and_eq_true, Bool.and_eq_false_imp, beq_iff_eq, beq_eq_false_iff_ne, bne_iff_ne, U64, U32, I64, Big, W, wv, Told, s64, WT, PR, MR, MB, Int.zero_mul, Int.zero_add, Int.add_zero, Int.mul_zero, IntKind.wrap_u64, IntKind.wrap_i64, IntKind.wrap_u32, ne_eq, forall_const, true_implies, show T.rel 92 = R92 from rfl, R92, show T.rel 98 = R98 from rfl, R98, show T.pre 92 = Q92 from rfl, Q92, show T.pre 98 = Q98 from rfl, Q98]
  revert hp
  generalize (E.r 0).i 0 = h
  generalize (E.r 0).i 1 = l
  generalize (E.r 65543).i 0 = x7_0
  generalize (E.r 65543).i 1 = x7_1
  try simp only [mxI, mnI]
  try simp only [ltb, leb, eqb, Int.lt_irrefl, decide_false, Int.le_refl, decide_true]
  repeat' (first | intro _ | refine And.intro ?_ ?_ | refine Iff.intro ?_ ?_)
  all_goals first | omega | (simp_all; done) | (simp_all; omega)
end Go.Proofs.YthlcpdjpnbbaeaaGreatDoor.Fn
namespace Go.Proofs.YthlcpdjpnbbaeaaGreatDoor.Fn
open Go Go.RowKit Go.Proofs.YthlcpdjpnbbaeaaGreatDoor.Sy
set_option linter.unusedVariables false
set_option linter.unusedSimpArgs false
set_option maxRecDepth 100000
def t93 : Tr :=
  .f (.is (.eq (.v 65554 0) (.wrap .u64 (.bin .mul (.bin (.land .u64) (.v 0 0) (.n 4294967295)) (.bin (.land .u64) (.v 0 1) (.n 4294967295))))) true) <|
   .f (.is (.eq (.v 65562 0) (.wrap .u64 (.bin .mul (.bin .fdv (.v 0 0) (.n 4294967296)) (.bin (.land .u64) (.v 0 1) (.n 4294967295))))) true) <|
    .f (.is (.eq (.v 65566 0) (.bin (.land .u64) (.wrap .u64 (.bin .add (.v 65562 0) (.bin .fdv (.v 65554 0) (.n 4294967296)))) (.n 4294967295))) true) <|
     .f (.is (.eq (.v 65570 0) (.bin .fdv (.wrap .u64 (.bin .add (.v 65562 0) (.bin .fdv (.v 65554 0) (.n 4294967296)))) (.n 4294967296))) true) <|
      .f (.is (.eq (.v 65577 0) (.wrap .u64 (.bin .mul (.bin (.land .u64) (.v 0 0) (.n 4294967295)) (.bin .fdv (.v 0 1) (.n 4294967296))))) true) <|
       .f (.is (.eq (.v 65587 0) (.wrap .u64 (.bin .mul (.bin .fdv (.v 0 0) (.n 4294967296)) (.bin .fdv (.v 0 1) (.n 4294967296))))) true) <|
        .f (.is (.eq (.v 65588 0) (.wrap .u64 (.bin .add (.wrap .u64 (.bin .add (.v 65587 0) (.v 65570 0))) (.bin .fdv (.wrap .u64 (.bin .add (.v 65566 0) (.v 65577 0))) (.n 4294967296))))) true) <|
         .ok [.num (.v 65588 0), .num (.wrap .u64 (.bin .mul (.v 0 0) (.v 0 1)))]
theorem c93 : ConS Tryz.prog T C93 := con_tr (cs := []) (lcs := []) (known := []) (cons_nil _ _) (Known.nil _) (N := 400) (d := 40) (t := t93) (by kernel_rfl) <| by
  intro E hl hp
  clear hl
  have hp := hp rfl
  simp only [C93, show T.pre 93 = Q93 from rfl, flatS, SP.flat, dvs, List.append_nil, List.cons_append, List.nil_append, Q93, U64, U32, I64, Big, W, wv, s64, WT, PR, MR, MB] at hp
  simp only [t93, C93, Tr.good, Fact.den, LX.den, DX.ls, DV.ls, DX.den, Bx.den, Ex.den, eo_add, eo_sub, eo_mul, eo_quo, eo_rem, eo_fdv, eo_mn, eo_mx, eo_land, eo_lor, eo_lxor, eo_landn, eo_shl, eo_shr, dvs, flatS, SP.flat, ST.flat, List.map_cons, List.map_nil, List.append_nil, List.cons_append, List.nil_append, ltb_t, ltb_f, leb_t, leb_f, eqb_t, eqb_f, decide_eq_true_eq, decide_eq_false_iff_not, Bool.not_eq_true', Bool.not_eq_false', Bool.and_eq_true, Bool.and_eq_false_imp, beq_iff_eq, beq_eq_false_iff_ne, bne_iff_ne, U64, U32, I64, Big, W, wv, Told, s64, WT, PR, MR, MB, Int.zero_mul, Int.zero_add, Int.add_zero, Int.mul_zero, IntKind.wrap_u64, IntKind.wrap_i64, IntKind.wrap_u32, ne_eq, forall_const, true_implies, show T.rel 93 = R93 from rfl, R93, show T.pre 93 = Q93 from rfl, Q93]
  revert hp
  generalize (E.r 0).i 0 = x
  generalize (E.r 0).i 1 = y
  generalize (E.r 65554).i 0 = x18_0
  generalize (E.r 65562).i 0 = x26_0
  generalize (E.r 65566).i 0 = x30_0
  generalize (E.r 65570).i 0 = x34_0
  generalize (E.r 65577).i 0 = x41_0
  generalize (E.r 65587).i 0 = x51_0
  generalize (E.r 65588).i 0 = x52_0
  try simp only [mxI, mnI]
  try simp only [ltb, leb, eqb, Int.lt_irrefl, decide_false, Int.le_refl, decide_true]
  intro hp e18 e26 e30 e34 e41 e51 e52
  obtain ⟨⟨x0, x1⟩, ⟨y0, y1⟩⟩ := hp
  rw [land_mask x0 x1, land_mask y0 y1] at e18
  rw [land_mask y0 y1, fdv (by omega)] at e26
  rw [land_mask x0 x1, fdv (by omega)] at e41
  rw [fdv (by omega), fdv (by omega)] at e51
  simp only [fdv (show (0 : Int) ≤ 4294967296 by omega)] at e30 e34 e52
  have p00 := mul_below (a := x % 4294967296) (b := y % 4294967296) (c := 4294967295) (d := 4294967295) (by omega) (by omega) (by omega) (by omega)
  have p10 := mul_below (a := x / 4294967296) (b := y % 4294967296) (c := 4294967295) (d := 4294967295) (by omega) (by omega) (by omega) (by omega)
  have p01 := mul_below (a := x % 4294967296) (b := y / 4294967296) (c := 4294967295) (d := 4294967295) (by omega) (by omega) (by omega) (by omega)
  have p11 := mul_below (a := x / 4294967296) (b := y / 4294967296) (c := 4294967295) (d := 4294967295) (by omega) (by omega) (by omega) (by omega)
  have e : x * y = (x / 4294967296) * (y / 4294967296) * 18446744073709551616 + ((x / 4294967296) * (y % 4294967296) + (x % 4294967296) * (y / 4294967296)) * 4294967296 + (x % 4294967296) * (y % 4294967296) := by
    have hx : x = x / 4294967296 * 4294967296 + x % 4294967296 := by omega
    have hy : y = y / 4294967296 * 4294967296 + y % 4294967296 := by omega
    generalize x / 4294967296 = a at *
    generalize x % 4294967296 = b at *
    generalize y / 4294967296 = c at *
    generalize y % 4294967296 = d at *
    subst hx hy
    grind
  generalize (x / 4294967296) * (y / 4294967296) = q11 at *
  generalize (x / 4294967296) * (y % 4294967296) = q10 at *
  generalize (x % 4294967296) * (y / 4294967296) = q01 at *
  generalize (x % 4294967296) * (y % 4294967296) = q00 at *
  generalize x * y = z at *
  rw [land_mask (by omega) (by omega)] at e30
  omega
end Go.Proofs.YthlcpdjpnbbaeaaGreatDoor.Fn
namespace Go.Proofs.YthlcpdjpnbbaeaaGreatDoor.Fn
open Go Go.RowKit Go.Proofs.YthlcpdjpnbbaeaaGreatDoor.Sy
set_option linter.unusedVariables false
set_option linter.unusedSimpArgs false
set_option maxRecDepth 100000

theorem small_cases94 (c : Int) (hc : c ≤ 1) : c = Int.ofNat 0 ∨ c = Int.ofNat 1 ∨ ∃ n, c = Int.negSucc n := by
  cases c with
  | ofNat n => match n, hc with
    | 0, _ => exact .inl rfl
    | 1, _ => exact .inr (.inl rfl)
    | n + 2, h => exact absurd h (by simp only [Int.ofNat_eq_natCast]; omega)
  | negSucc n => exact .inr (.inr ⟨n, rfl⟩)
theorem run94 (a b c : Int) (hc : c ≤ 1) (w : World) :
    (callFunc 94 #[.int .u64 a, .int .u64 b, .int .u64 c]).run Tryz.prog w = .ok (.value (.tuple #[.int .u64 (((a.toNat + b.toNat + c.toNat) % 18446744073709551616 : Nat) : Int), .int .u64 (((a.toNat + b.toNat + c.toNat) / 18446744073709551616 : Nat) : Int)])) w := by
  rw [run_callFunc_extern Tryz.func94 (by kernel_rfl) (by kernel_rfl) (by kernel_rfl) (e := add64Entry) (by kernel_rfl)]
  rcases small_cases94 c hc with rfl | rfl | ⟨n, rfl⟩ <;> rfl
theorem c94 : ConS Tryz.prog T C94 := con_ext (by kernel_rfl) rfl fun r w hp => by
  have hp : U64 (r.i 0) ∧ U64 (r.i 1) ∧ 0 ≤ r.i 2 ∧ r.i 2 ≤ 1 := hp rfl
  have hc : r.i 2 ≤ 1 := hp.2.2.2
  refine ⟨⟨fun j => if j = 0 then (((((r.i 0).toNat + (r.i 1).toNat + (r.i 2).toNat) % 18446744073709551616 : Nat)) : Int) else ((((r.i 0).toNat + (r.i 1).toNat + (r.i 2).toNat) / 18446744073709551616 : Nat) : Int), fun _ => false, fun _ => [], fun _ => none, fun _ => 0, fun _ => undef⟩, run94 (r.i 0) (r.i 1) (r.i 2) hc w, ?_⟩
  show R94 [.num (r.i 0), .num (r.i 1), .num (r.i 2)] [.num _, .num _]
  simp only [R94]
  constructor <;> simp <;> omega
end Go.Proofs.YthlcpdjpnbbaeaaGreatDoor.Fn
namespace Go.Proofs.YthlcpdjpnbbaeaaGreatDoor.Fn
open Go Go.RowKit Go.Proofs.YthlcpdjpnbbaeaaGreatDoor.Sy
set_option linter.unusedVariables false
set_option linter.unusedSimpArgs false
set_option maxRecDepth 100000
def t95 : Tr :=
  .br (.f (.is (.v 0 2) true) <|
   .br (.f (.is (.lt (.v 0 0) (.n 9223372036854775808)) true) <|
    .br (.f (.rel 98 [.num (.wrap .i64 (.v 0 0)), .num (.v 0 1)] 65559 [.int .i64, .int .u64]) <|
     .ok [.num (.v 65559 0), .num (.v 65559 1), .tru (.le (.n 0) (.n 0))])
    (.f (.npre 98 [.num (.wrap .i64 (.v 0 0)), .num (.v 0 1)]) <|
     .bad))
   (.f (.is (.lt (.v 0 0) (.n 9223372036854775808)) false) <|
    .br (.f (.is (.eq (.v 0 0) (.n 9223372036854775808)) true) <|
     .br (.f (.is (.eq (.v 0 1) (.n 0)) true) <|
      .br (.f (.rel 98 [.num (.wrap .i64 (.v 0 0)), .num (.v 0 1)] 65559 [.int .i64, .int .u64]) <|
       .ok [.num (.v 65559 0), .num (.v 65559 1), .tru (.le (.n 0) (.n 0))])
      (.f (.npre 98 [.num (.wrap .i64 (.v 0 0)), .num (.v 0 1)]) <|
       .bad))
     (.f (.is (.eq (.v 0 1) (.n 0)) false) <|
      .ok [.num (.n 0), .num (.n 0), .tru (.lt (.n 0) (.n 0))]))
    (.f (.is (.eq (.v 0 0) (.n 9223372036854775808)) false) <|
     .ok [.num (.n 0), .num (.n 0), .tru (.lt (.n 0) (.n 0))])))
  (.f (.is (.v 0 2) false) <|
   .br (.f (.is (.lt (.v 0 0) (.n 9223372036854775808)) true) <|
    .ok [.num (.wrap .i64 (.v 0 0)), .num (.v 0 1), .tru (.le (.n 0) (.n 0))])
   (.f (.is (.lt (.v 0 0) (.n 9223372036854775808)) false) <|
    .ok [.num (.n 0), .num (.n 0), .tru (.lt (.n 0) (.n 0))]))
theorem c95 : ConS Tryz.prog T C95 := con_tr (cs := [C98]) (lcs := []) (known := []) (cons_cons c98 (cons_nil _ _)) (Known.nil _) (N := 400) (d := 40) (t := t95) (by kernel_rfl) <| by
  intro E hl hp
  clear hl
  have hp := hp rfl
  simp only [C95, show T.pre 95 = Q95 from rfl, flatS, SP.flat, dvs, List.append_nil, List.cons_append, List.nil_append, Q95, U64, U32, I64, Big, W, wv, s64, WT, PR, MR, MB] at hp
  simp only [t95, C95, Tr.good, Fact.den, LX.den, DX.ls, DV.ls, DX.den, Bx.den, Ex.den, eo_add, eo_sub, eo_mul, eo_quo, eo_rem, eo_fdv, eo_mn, eo_mx, eo_land, eo_lor, eo_lxor, eo_landn, eo_shl, eo_shr, dvs, flatS, SP.flat, ST.flat, List.map_cons, List.map_nil, List.append_nil, List.cons_append, List.nil_append, ltb_t, ltb_f, leb_t, leb_f, eqb_t, eqb_f, decide_eq_true_eq, decide_eq_false_iff_not, Bool.not_eq_true', Bool.not_eq_false', Bool.and_eq_true, Bool.and_eq_false_imp, beq_iff_eq, beq_eq_false_iff_ne, bne_iff_ne, U64, U32, I64, Big, W, wv, Told, s64, WT, PR, MR, MB, Int.zero_mul, Int.zero_add, Int.add_zero, Int.mul_zero, IntKind.wrap_u64, IntKind.wrap_i64, IntKind.wrap_u32, ne_eq, forall_const, true_implies, show T.rel 95 = R95 from rfl, R95, show T.rel 98 = R98 from rfl, R98, show T.pre 95 = Q95 from rfl, Q95, show T.pre 98 = Q98 from rfl, Q98]
  revert hp
  generalize (E.r 0).i 0 = hi
  generalize (E.r 0).i 1 = lo
  generalize (E.r 0).c 2 = below
  generalize (E.r 65559).i 0 = x23_0
  generalize (E.r 65559).i 1 = x23_1
  try simp only [mxI, mnI]
  try simp only [ltb, leb, eqb, Int.lt_irrefl, decide_false, Int.le_refl, decide_true]
  repeat' (first | intro _ | refine And.intro ?_ ?_ | refine Iff.intro ?_ ?_)
  all_goals first | omega | (simp_all; done) | (simp_all; omega)
end Go.Proofs.YthlcpdjpnbbaeaaGreatDoor.Fn
namespace Go.Proofs.YthlcpdjpnbbaeaaGreatDoor.Fn
open Go Go.RowKit Go.Proofs.YthlcpdjpnbbaeaaGreatDoor.Sy
set_option linter.unusedVariables false
set_option linter.unusedSimpArgs false
set_option maxRecDepth 100000
def t57 : Tr :=
  .br (.f (.rel 92 [.num (.v 0 0), .num (.v 0 1)] 65540 [.int .u64, .int .u64]) <|
   .br (.f (.rel 45 [.num (.v 0 2)] 65547 [.int .i64, .int .u64]) <|
    .br (.f (.rel 92 [.num (.v 65547 0), .num (.v 65547 1)] 65548 [.int .u64, .int .u64]) <|
     .br (.f (.rel 93 [.num (.v 65540 0), .num (.v 65548 1)] 65556 [.int .u64, .int .u64]) <|
      .br (.f (.rel 93 [.num (.v 65540 1), .num (.v 65548 1)] 65564 [.int .u64, .int .u64]) <|
       .br (.f (.rel 94 [.num (.v 65556 1), .num (.v 65564 0), .num (.n 0)] 65572 [.int .u64, .int .u64]) <|
        .br (.f (.is (.eq (.v 65556 0) (.n 0)) false) <|
         .ok [.num (.n 0), .num (.n 0), .tru (.lt (.n 0) (.n 0))])
        (.f (.is (.eq (.v 65556 0) (.n 0)) true) <|
         .br (.f (.is (.eq (.v 65572 1) (.n 0)) false) <|
          .ok [.num (.n 0), .num (.n 0), .tru (.lt (.n 0) (.n 0))])
         (.f (.is (.eq (.v 65572 1) (.n 0)) true) <|
          .br (.f (.rel 95 [.num (.v 65572 0), .num (.v 65564 1), .tru (.not (.beq (.lt (.v 0 0) (.n 0)) (.lt (.v 0 2) (.n 0))))] 65592 [.int .i64, .int .u64, .bool]) <|
           .ok [.num (.v 65592 0), .num (.v 65592 1), .tru (.v 65592 2)])
          (.f (.npre 95 [.num (.v 65572 0), .num (.v 65564 1), .tru (.not (.beq (.lt (.v 0 0) (.n 0)) (.lt (.v 0 2) (.n 0))))]) <|
           .bad))))
       (.f (.npre 94 [.num (.v 65556 1), .num (.v 65564 0), .num (.n 0)]) <|
        .bad))
      (.f (.npre 93 [.num (.v 65540 1), .num (.v 65548 1)]) <|
       .bad))
     (.f (.npre 93 [.num (.v 65540 0), .num (.v 65548 1)]) <|
      .bad))
    (.f (.npre 92 [.num (.v 65547 0), .num (.v 65547 1)]) <|
     .bad))
   (.f (.npre 45 [.num (.v 0 2)]) <|
    .bad))
  (.f (.npre 92 [.num (.v 0 0), .num (.v 0 1)]) <|
   .bad)
theorem c57 : ConS Tryz.prog T C57 := con_tr (cs := [C45, C92, C93, C94, C95]) (lcs := []) (known := []) (cons_cons c45 (cons_cons c92 (cons_cons c93 (cons_cons c94 (cons_cons c95 (cons_nil _ _)))))) (Known.nil _) (N := 400) (d := 40) (t := t57) (by kernel_rfl) <| by
  intro E hl hp
  clear hl
  have hp := hp rfl
  simp only [C57, show T.pre 57 = Q57 from rfl, flatS, SP.flat, dvs, List.append_nil, List.cons_append, List.nil_append, Q57, U64, U32, I64, Big, W, wv, s64, WT, PR, MR, MB] at hp
  simp only [t57, C57, Tr.good, Fact.den, LX.den, DX.ls, DV.ls, DX.den, Bx.den, Ex.den, eo_add, eo_sub, eo_mul, eo_quo, eo_rem, eo_fdv, eo_mn, eo_mx, eo_land, eo_lor, eo_lxor, eo_landn, eo_shl, eo_shr, dvs, flatS, SP.flat, ST.flat, List.map_cons, List.map_nil, List.append_nil, List.cons_append, List.nil_append, ltb_t, ltb_f, leb_t, leb_f, eqb_t, eqb_f, decide_eq_true_eq, decide_eq_false_iff_not, Bool.not_eq_true', Bool.not_eq_false', Bool.and_eq_true, Bool.and_eq_false_imp, beq_iff_eq, beq_eq_false_iff_ne, bne_iff_ne, U64, U32, I64, Big, W, wv, Told, s64, WT, PR, MR, MB, Int.zero_mul, Int.zero_add, Int.add_zero, Int.mul_zero, IntKind.wrap_u64, IntKind.wrap_i64, IntKind.wrap_u32, ne_eq, forall_const, true_implies, show T.rel 45 = R45 from rfl, R45, show T.rel 57 = R57 from rfl, R57, show T.rel 92 = R92 from rfl, R92, show T.rel 93 = R93 from rfl, R93, show T.rel 94 = R94 from rfl, R94, show T.rel 95 = R95 from rfl, R95, show T.pre 45 = Q45 from rfl, Q45, show T.pre 57 = Q57 from rfl, Q57, show T.pre 92 = Q92 from rfl, Q92, show T.pre 93 = Q93 from rfl, Q93, show T.pre 94 = Q94 from rfl, Q94, show T.pre 95 = Q95 from rfl, Q95]
  revert hp
  generalize (E.r 0).i 0 = h
  generalize (E.r 0).i 1 = l
  generalize (E.r 0).i 2 = b
  generalize (E.r 65540).i 0 = x4_0
  generalize (E.r 65540).i 1 = x4_1
  generalize (E.r 65547).i 0 = x11_0
  generalize (E.r 65547).i 1 = x11_1
  generalize (E.r 65548).i 0 = x12_0
  generalize (E.r 65548).i 1 = x12_1
  generalize (E.r 65556).i 0 = x20_0
  generalize (E.r 65556).i 1 = x20_1
  generalize (E.r 65564).i 0 = x28_0
  generalize (E.r 65564).i 1 = x28_1
  generalize (E.r 65572).i 0 = x36_0
  generalize (E.r 65572).i 1 = x36_1
  generalize (E.r 65592).i 0 = x56_0
  generalize (E.r 65592).i 1 = x56_1
  generalize (E.r 65592).c 2 = x56_2
  try simp only [mxI, mnI]
  try simp only [ltb, leb, eqb, Int.lt_irrefl, decide_false, Int.le_refl, decide_true]
  intro hp
  refine ⟨fun f1 => ⟨fun f2 => ⟨fun f3 => ⟨fun f4 => ⟨fun f5 => ⟨fun f6 => ?_, ?_⟩, ?_⟩, ?_⟩, ?_⟩, ?_⟩, ?_⟩
  · have n0 : x12_0 = 0 := by omega
    have hs := mul_sign (v := h * 18446744073709551616 + l) (b := b) (m0 := x4_0) (m1 := x4_1) (n := x12_1) (by omega) (by omega) (by omega) (by omega)
    generalize (h * 18446744073709551616 + l) * b = z at *
    generalize x4_0 * x12_1 = H at *
    generalize x4_1 * x12_1 = L at *
    by_cases s1 : h < 0 <;> by_cases s2 : b < 0 <;> simp only [s1, s2, decide_true, decide_false, not_true_eq_false, false_imp_iff, true_imp_iff, true_and, and_true, not_false_eq_true, reduceCtorEq]
    all_goals cases x56_2 <;> simp only [false_imp_iff, true_imp_iff, true_and, and_true, reduceCtorEq] <;> omega
  all_goals try simp only [true_and]
  all_goals omega
end Go.Proofs.YthlcpdjpnbbaeaaGreatDoor.Fn
namespace Go.Proofs.YthlcpdjpnbbaeaaGreatDoor.Fn
open Go Go.RowKit Go.Proofs.YthlcpdjpnbbaeaaGreatDoor.Sy
set_option linter.unusedVariables false
set_option linter.unusedSimpArgs false
set_option maxRecDepth 100000
def t58 : Tr :=
  .br (.f (.rel 96 [.num (.v 0 1), .num (.v 0 3), .num (.n 0)] 65544 [.int .u64, .int .u64]) <|
   .br (.f (.rel 96 [.num (.wrap .u64 (.v 0 0)), .num (.wrap .u64 (.v 0 2)), .num (.v 65544 1)] 65557 [.int .u64, .int .u64]) <|
    .br (.f (.is (.beq (.lt (.v 0 0) (.n 0)) (.lt (.v 0 2) (.n 0))) false) <|
     .br (.f (.is (.beq (.lt (.v 0 0) (.n 0)) (.lt (.wrap .i64 (.v 65557 0)) (.n 0))) false) <|
      .ok [.num (.n 0), .num (.n 0), .tru (.lt (.n 0) (.n 0))])
     (.f (.is (.beq (.lt (.v 0 0) (.n 0)) (.lt (.wrap .i64 (.v 65557 0)) (.n 0))) true) <|
      .ok [.num (.wrap .i64 (.v 65557 0)), .num (.v 65544 0), .tru (.le (.n 0) (.n 0))]))
    (.f (.is (.beq (.lt (.v 0 0) (.n 0)) (.lt (.v 0 2) (.n 0))) true) <|
     .ok [.num (.wrap .i64 (.v 65557 0)), .num (.v 65544 0), .tru (.le (.n 0) (.n 0))]))
   (.f (.npre 96 [.num (.wrap .u64 (.v 0 0)), .num (.wrap .u64 (.v 0 2)), .num (.v 65544 1)]) <|
    .bad))
  (.f (.npre 96 [.num (.v 0 1), .num (.v 0 3), .num (.n 0)]) <|
   .bad)
theorem c58 : ConS Tryz.prog T C58 := con_tr (cs := [C96]) (lcs := []) (known := []) (cons_cons c96 (cons_nil _ _)) (Known.nil _) (N := 400) (d := 40) (t := t58) (by kernel_rfl) <| by
  intro E hl hp
  clear hl
  have hp := hp rfl
  simp only [C58, show T.pre 58 = Q58 from rfl, flatS, SP.flat, dvs, List.append_nil, List.cons_append, List.nil_append, Q58, U64, U32, I64, Big, W, wv, s64, WT, PR, MR, MB] at hp
  simp only [t58, C58, Tr.good, Fact.den, LX.den, DX.ls, DV.ls, DX.den, Bx.den, Ex.den, eo_add, eo_sub, eo_mul, eo_quo, eo_rem, eo_fdv, eo_mn, eo_mx, eo_land, eo_lor, eo_lxor, eo_landn, eo_shl, eo_shr, dvs, flatS, SP.flat, ST.flat, List.map_cons, List.map_nil, List.append_nil, List.cons_append, List.nil_append, ltb_t, ltb_f, leb_t, leb_f, eqb_t, eqb_f, decide_eq_true_eq, decide_eq_false_iff_not, Bool.not_eq_true', Bool.not_eq_false', Bool.and_eq_true, Bool.and_eq_false_imp, beq_iff_eq, beq_eq_false_iff_ne, bne_iff_ne, U64, U32, I64, Big, W, wv, Told, s64, WT, PR, MR, MB, Int.zero_mul, Int.zero_add, Int.add_zero, Int.mul_zero, IntKind.wrap_u64, IntKind.wrap_i64, IntKind.wrap_u32, ne_eq, forall_const, true_implies, show T.rel 58 = R58 from rfl, R58, show T.rel 96 = R96 from rfl, R96, show T.pre 58 = Q58 from rfl, Q58, show T.pre 96 = Q96 from rfl, Q96]
  revert hp
  generalize (E.r 0).i 0 = ah
  generalize (E.r 0).i 1 = al
  generalize (E.r 0).i 2 = bh
  generalize (E.r 0).i 3 = bl
  generalize (E.r 65544).i 0 = x8_0
  generalize (E.r 65544).i 1 = x8_1
  generalize (E.r 65557).i 0 = x21_0
  generalize (E.r 65557).i 1 = x21_1
  try simp only [mxI, mnI]
  try simp only [ltb, leb, eqb, Int.lt_irrefl, decide_false, Int.le_refl, decide_true]
  repeat' (first | intro _ | refine And.intro ?_ ?_ | refine Iff.intro ?_ ?_)
  all_goals first | omega | (simp_all; done) | (simp_all; omega)
end Go.Proofs.YthlcpdjpnbbaeaaGreatDoor.Fn
namespace Go.Proofs.YthlcpdjpnbbaeaaGreatDoor.Fn
open Go Go.RowKit Go.Proofs.YthlcpdjpnbbaeaaGreatDoor.Sy
set_option linter.unusedVariables false
set_option linter.unusedSimpArgs false
set_option maxRecDepth 100000

set_option maxHeartbeats 4000000 in
set_option maxRecDepth 100000 in
theorem calls123 (x : Int) (w : World) (h0 : 0 ≤ x) (h1 : x ≤ 18446744073709551615) :
    Calls Tryz.prog 123 #[.int .u64 x] w fun e w' => e = .returned (.int .i64 (Lib.bitLen x.toNat)) ∧ w' = w := by
  go_enter Tryz.func123, Tryz.ntmps123
  go_wp2
  all_goals (go_ret; refine ⟨congrArg Ending.returned (congrArg (Value.int IntKind.i64) ?_), rfl⟩)
  all_goals first
    | (rw [Lib.len8_of (x / 4294967296 / 65536 / 256 % 256) (by omega) (by omega)]
       have e : (x / 4294967296 / 65536 / 256 % 256).toNat = x.toNat / 72057594037927936 := by omega
       have l := Lib.bitLen_le8' (x / 4294967296 / 65536 / 256 % 256) (by omega) (by omega)
       have s := Lib.bitLen_shift56 x.toNat (by omega) (by omega)
       rw [e] at l ⊢
       omega)
    | (rw [Lib.len8_of (x / 4294967296 / 65536 % 256) (by omega) (by omega)]
       have e : (x / 4294967296 / 65536 % 256).toNat = x.toNat / 281474976710656 := by omega
       have l := Lib.bitLen_le8' (x / 4294967296 / 65536 % 256) (by omega) (by omega)
       have s := Lib.bitLen_shift48 x.toNat (by omega) (by omega)
       rw [e] at l ⊢
       omega)
    | (rw [Lib.len8_of (x / 4294967296 / 256 % 256) (by omega) (by omega)]
       have e : (x / 4294967296 / 256 % 256).toNat = x.toNat / 1099511627776 := by omega
       have l := Lib.bitLen_le8' (x / 4294967296 / 256 % 256) (by omega) (by omega)
       have s := Lib.bitLen_shift40 x.toNat (by omega) (by omega)
       rw [e] at l ⊢
       omega)
    | (rw [Lib.len8_of (x / 4294967296 % 256) (by omega) (by omega)]
       have e : (x / 4294967296 % 256).toNat = x.toNat / 4294967296 := by omega
       have l := Lib.bitLen_le8' (x / 4294967296 % 256) (by omega) (by omega)
       have s := Lib.bitLen_shift32 x.toNat (by omega) (by omega)
       rw [e] at l ⊢
       omega)
    | (rw [Lib.len8_of (x / 65536 / 256 % 256) (by omega) (by omega)]
       have e : (x / 65536 / 256 % 256).toNat = x.toNat / 16777216 := by omega
       have l := Lib.bitLen_le8' (x / 65536 / 256 % 256) (by omega) (by omega)
       have s := Lib.bitLen_shift24 x.toNat (by omega) (by omega)
       rw [e] at l ⊢
       omega)
    | (rw [Lib.len8_of (x / 65536 % 256) (by omega) (by omega)]
       have e : (x / 65536 % 256).toNat = x.toNat / 65536 := by omega
       have l := Lib.bitLen_le8' (x / 65536 % 256) (by omega) (by omega)
       have s := Lib.bitLen_shift16 x.toNat (by omega) (by omega)
       rw [e] at l ⊢
       omega)
    | (rw [Lib.len8_of (x / 256 % 256) (by omega) (by omega)]
       have e : (x / 256 % 256).toNat = x.toNat / 256 := by omega
       have l := Lib.bitLen_le8' (x / 256 % 256) (by omega) (by omega)
       have s := Lib.bitLen_shift8 x.toNat (by omega) (by omega)
       rw [e] at l ⊢
       omega)
    | (rw [Lib.len8_of (x % 256) (by omega) (by omega)]
       have e : (x % 256).toNat = x.toNat := by omega
       have l := Lib.bitLen_le8' (x % 256) (by omega) (by omega)
       rw [e] at l ⊢
       omega)
theorem c123 : ConS Tryz.prog T C123 := by
  intro r w _ hp
  have hp : U64 (r.i 0) := hp rfl
  unfold Invoked
  rw [if_pos (by kernel_rfl)]
  refine (calls123 (r.i 0) w hp.1 (by have := hp.2; omega)).mono ?_
  rintro e w' ⟨rfl, rfl⟩
  exact ⟨⟨fun _ => (Lib.bitLen (r.i 0).toNat : Int), fun _ => false, fun _ => [], fun _ => none, fun _ => 0, fun _ => undef⟩, rfl, rfl, Below.refl _ _, fun j ks hj => by match j, hj with | 0, hj => cases hj | _ + 1, hj => cases hj⟩
end Go.Proofs.YthlcpdjpnbbaeaaGreatDoor.Fn
namespace Go.Proofs.YthlcpdjpnbbaeaaGreatDoor.Fn
open Go Go.RowKit Go.Proofs.YthlcpdjpnbbaeaaGreatDoor.Sy
set_option linter.unusedVariables false
set_option linter.unusedSimpArgs false
set_option maxRecDepth 100000
def t113 : Tr :=
  .br (.f (.rel 123 [.num (.v 0 0)] 65538 [.int .i64]) <|
   .ok [.num (.wrap .i64 (.bin .sub (.n 64) (.v 65538 0)))])
  (.f (.npre 123 [.num (.v 0 0)]) <|
   .bad)
theorem c113 : ConS Tryz.prog T C113 := con_tr (cs := [C123]) (lcs := []) (known := []) (cons_cons c123 (cons_nil _ _)) (Known.nil _) (N := 400) (d := 40) (t := t113) (by kernel_rfl) <| by
  intro E hl hp
  clear hl
  have hp := hp rfl
  simp only [C113, show T.pre 113 = Q113 from rfl, flatS, SP.flat, dvs, List.append_nil, List.cons_append, List.nil_append, Q113, U64, U32, I64, Big, W, wv, s64, WT, PR, MR, MB] at hp
  simp only [t113, C113, Tr.good, Fact.den, LX.den, DX.ls, DV.ls, DX.den, Bx.den, Ex.den, eo_add, eo_sub, eo_mul, eo_quo, eo_rem, eo_fdv, eo_mn, eo_mx, eo_land, eo_lor, eo_lxor, eo_landn, eo_shl, eo_shr, dvs, flatS, SP.flat, ST.flat, List.map_cons, List.map_nil, List.append_nil, List.cons_append, List.nil_append, ltb_t, ltb_f, leb_t, leb_f, eqb_t, eqb_f, decide_eq_true_eq, decide_eq_false_iff_not, Bool.not_eq_true', Bool.not_eq_false', Bool.and_eq_true, Bool.and_eq_false_imp, beq_iff_eq, beq_eq_false_iff_ne, bne_iff_ne, U64, U32, I64, Big, W, wv, Told, s64, WT, PR, MR, MB, Int.zero_mul, Int.zero_add, Int.add_zero, Int.mul_zero, IntKind.wrap_u64, IntKind.wrap_i64, IntKind.wrap_u32, ne_eq, forall_const, true_implies, show T.rel 113 = R113 from rfl, R113, show T.rel 123 = R123 from rfl, R123, show T.pre 113 = Q113 from rfl, Q113, show T.pre 123 = Q123 from rfl, Q123]
  revert hp
  generalize (E.r 0).i 0 = x
  generalize (E.r 65538).i 0 = x2_0
  try simp only [mxI, mnI]
  try simp only [ltb, leb, eqb, Int.lt_irrefl, decide_false, Int.le_refl, decide_true]
  intro hp
  refine ⟨fun h => ?_, fun h => h hp⟩
  have := Lib.bitLen_le x.toNat 64 (by omega) (by omega)
  omega
end Go.Proofs.YthlcpdjpnbbaeaaGreatDoor.Fn
