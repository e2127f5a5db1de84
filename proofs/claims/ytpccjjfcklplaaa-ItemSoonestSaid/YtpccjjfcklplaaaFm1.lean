/- What is told of the functions, shown: turnstone/turnstoneref01.Cmp, turnstone/turnstoneref01.U, turnstone/turnstoneref01.N, turnstone/turnstoneref01.Power, turnstone/turnstoneref03.Since, turnstone/turnstoneref04.Right, turnstone/turnstoneref05.Right, turnstone/turnstoneref05.Spread, (turnstone/pos.Pos).Cmp, (turnstone/item.Item).Ahead, (turnstone/item.Item).Due. -/
import Derived.Test.YtpccjjfcklplaaaFm0
namespace Go.Proofs.Ytpccjjfcklplaaa.Fn
open Go Go.RowKit Go.Proofs.Ytpccjjfcklplaaa.Sy
set_option linter.unusedVariables false
set_option linter.unusedSimpArgs false
set_option maxRecDepth 100000
def t10 : Tr :=
  .br (.f (.rel 36 [.tru (.v 0 0), .lst 0 1, .tru (.v 0 2), .lst 0 3] 65541 [.bool, .list [.int .i64]]) <|
   .br (.f (.rel 34 [.tru (.v 65541 0), .lst 65541 1] 65542 [.int .i64]) <|
    .ok [.num (.v 65542 0)])
   (.f (.npre 34 [.tru (.v 65541 0), .lst 65541 1]) <|
    .bad))
  (.f (.npre 36 [.tru (.v 0 0), .lst 0 1, .tru (.v 0 2), .lst 0 3]) <|
   .bad)
theorem c10 : ConS Try.prog T C10 := con_tr (cs := [C34, C36]) (lcs := []) (known := []) (cons_cons c34 (cons_cons c36 (cons_nil _ _))) (Known.nil _) (N := 400) (d := 40) (t := t10) (by kernel_rfl) <| by
  intro E hl hp
  have hl1 := hl 1 _ rfl
  have hl3 := hl 3 _ rfl
  clear hl
  have hp := hp rfl
  simp only [C10, show T.pre 10 = Q10 from rfl, flatS, SP.flat, dvs, List.append_nil, List.cons_append, List.nil_append, Q10, U64, U32, I64, Big, W, wv, s64, WT, PR, MR, MB] at hp
  simp only [t10, C10, Tr.good, Fact.den, LX.den, DX.ls, DV.ls, DX.den, Bx.den, Ex.den, eo_add, eo_sub, eo_mul, eo_quo, eo_rem, eo_fdv, eo_mn, eo_mx, eo_land, eo_lor, eo_lxor, eo_landn, eo_shl, eo_shr, dvs, flatS, SP.flat, ST.flat, List.map_cons, List.map_nil, List.append_nil, List.cons_append, List.nil_append, ltb_t, ltb_f, leb_t, leb_f, eqb_t, eqb_f, decide_eq_true_eq, decide_eq_false_iff_not, Bool.not_eq_true', Bool.not_eq_false', Bool.and_eq_true, Bool.and_eq_false_imp, beq_iff_eq, beq_eq_false_iff_ne, bne_iff_ne, U64, U32, I64, Big, W, wv, Told, s64, WT, PR, MR, MB, Int.zero_mul, Int.zero_add, Int.add_zero, Int.mul_zero, IntKind.wrap_u64, IntKind.wrap_i64, IntKind.wrap_u32, ne_eq, forall_const, true_implies, show T.rel 10 = R10 from rfl, R10, show T.rel 34 = R34 from rfl, R34, show T.rel 36 = R36 from rfl, R36, show T.pre 10 = Q10 from rfl, Q10, show T.pre 34 = Q34 from rfl, Q34, show T.pre 36 = Q36 from rfl, Q36]
  revert hp hl1 hl3
  generalize (E.r 0).c 0 = an
  generalize (E.r 0).l 1 = al
  generalize (E.r 0).c 2 = bn
  generalize (E.r 0).l 3 = bl
  generalize (E.r 65541).c 0 = x5_0
  generalize (E.r 65541).l 1 = x5_1
  generalize (E.r 65542).i 0 = x6_0
  try simp only [mxI, mnI]
  try simp only [ltb, leb, eqb, Int.lt_irrefl, decide_false, Int.le_refl, decide_true]
  intro hal hbl hp
  refine ⟨fun e => ⟨fun e2 => ?_, fun n => n e.1⟩, fun n => n hp⟩
  rw [e.2] at e2
  omega
end Go.Proofs.Ytpccjjfcklplaaa.Fn
namespace Go.Proofs.Ytpccjjfcklplaaa.Fn
open Go Go.RowKit Go.Proofs.Ytpccjjfcklplaaa.Sy
set_option linter.unusedVariables false
set_option linter.unusedSimpArgs false
set_option maxRecDepth 100000
def t11 : Tr :=
  .br (.f (.rel 101102 [.num (.v 0 0), .rows []] 65538 [.int .u64, .list [.int .i64]]) <|
   .br (.f (.is (.lt (.n 0) (.v 65538 0)) false) <|
    .ok [.tru (.lt (.n 0) (.n 0)), .lst 65538 1])
   (.f (.is (.lt (.n 0) (.v 65538 0)) true) <|
    .br (.f (.is (.le (.len 65538 1) (.n 1000000000)) false) <|
     .bad)
    (.f (.is (.le (.len 65538 1) (.n 1000000000)) true) <|
     .f (.lseq 65547 (.app (.lst 65538 1) (.rows [[.wrap .i64 (.bin .rem (.v 65538 0) (.n 10000))]]))) <|
      .br (.f (.nrel 101102 [.num (.v 0 0), .rows []] [.num (.wrap .u64 (.bin .quo (.v 65538 0) (.n 10000))), .lst 65547 0]) <|
       .bad)
      (.f (.ndec 101102 [.num (.v 0 0), .rows []] [.num (.v 65538 0), .lst 65538 1] [.num (.wrap .u64 (.bin .quo (.v 65538 0) (.n 10000))), .lst 65547 0]) <|
       .bad))))
  (.f (.nrel 101102 [.num (.v 0 0), .rows []] [.num (.v 0 0), .rows []]) <|
   .bad)
theorem c11 : ConS Try.prog T C11 := con_tr (cs := []) (lcs := [L101102]) (known := []) (cons_nil _ _) (Known.nil _) (N := 400) (d := 40) (t := t11) (by kernel_rfl) <| by
  intro E hl hp
  clear hl
  have hp := hp rfl
  simp only [C11, show T.pre 11 = Q11 from rfl, flatS, SP.flat, dvs, List.append_nil, List.cons_append, List.nil_append, Q11, U64, U32, I64, Big, W, wv, s64, WT, PR, MR, MB] at hp
  simp only [t11, C11, Tr.good, Fact.den, LX.den, DX.ls, DV.ls, DX.den, Bx.den, Ex.den, eo_add, eo_sub, eo_mul, eo_quo, eo_rem, eo_fdv, eo_mn, eo_mx, eo_land, eo_lor, eo_lxor, eo_landn, eo_shl, eo_shr, dvs, flatS, SP.flat, ST.flat, List.map_cons, List.map_nil, List.append_nil, List.cons_append, List.nil_append, ltb_t, ltb_f, leb_t, leb_f, eqb_t, eqb_f, decide_eq_true_eq, decide_eq_false_iff_not, Bool.not_eq_true', Bool.not_eq_false', Bool.and_eq_true, Bool.and_eq_false_imp, beq_iff_eq, beq_eq_false_iff_ne, bne_iff_ne, U64, U32, I64, Big, W, wv, Told, s64, WT, PR, MR, MB, Int.zero_mul, Int.zero_add, Int.add_zero, Int.mul_zero, IntKind.wrap_u64, IntKind.wrap_i64, IntKind.wrap_u32, ne_eq, forall_const, true_implies, show T.rel 11 = R11 from rfl, R11, show T.rel 101102 = R101102 from rfl, R101102, show T.mu 101102 = M101102 from rfl, M101102, show T.pre 11 = Q11 from rfl, Q11]
  revert hp
  generalize (E.r 0).i 0 = x
  generalize (E.r 65538).i 0 = x2_0
  generalize (E.r 65538).l 1 = x2_1
  generalize (E.r 65547).l 0 = x11_0
  try simp only [mxI, mnI]
  try simp only [ltb, leb, eqb, Int.lt_irrefl, decide_false, Int.le_refl, decide_true]
  intro hp
  refine ⟨fun ⟨i0, i1, i2, i3⟩ => ?_, fun n => n ⟨hp.1, dig_nil, by simp [dval, P4], by simp⟩⟩
  simp only [dval, Int.add_zero] at i2
  have p := P4_pos x2_1.length
  have d0 := dval_nonneg i1
  refine ⟨fun h => ?_, fun h => ?_⟩
  · have e : x2_0 = 0 := by omega
    rw [e, Int.mul_zero, Int.add_zero] at i2
    exact ⟨⟨i1, fun h => i3 e (by omega), by simp⟩, by simp only [bval, cond_false]; exact i2⟩
  · have l5 : x2_1.length < 5 := by
      refine Classical.byContradiction fun hn => ?_
      have a := P4_mono (show 5 ≤ x2_1.length by omega)
      have b : P4 5 = 100000000000000000000 := by decide
      have c := Int.mul_le_mul_of_nonneg_left (show 1 ≤ x2_0 by omega) (show 0 ≤ P4 x2_1.length by omega)
      omega
    have r0 := Int.emod_nonneg x2_0 (show (10000 : Int) ≠ 0 by omega)
    have r1 := Int.emod_lt_of_pos x2_0 (show (0 : Int) < 10000 by omega)
    have bnd : x2_0 < 18446744073709551616 := by
      have c := Int.mul_le_mul_of_nonneg_right (show 1 ≤ P4 x2_1.length by omega) (show 0 ≤ x2_0 by omega)
      omega
    rw [Int.tmod_eq_emod_of_nonneg i0, Int.tdiv_eq_ediv_of_nonneg i0]
    have e1 : (x2_0 % 10000 + 9223372036854775808) % 18446744073709551616 - 9223372036854775808 = x2_0 % 10000 := by omega
    have e2 : x2_0 / 10000 % 18446744073709551616 = x2_0 / 10000 := by omega
    simp only [e1, e2]
    refine ⟨by omega, fun _ e => ?_⟩
    subst e
    refine ⟨fun n => n ⟨by omega, dig_snoc i1 r0 r1, ?_, fun h5 _ => ?_⟩, by omega⟩
    · rw [dval_snoc, List.length_append, List.length_singleton, P4_add]
      simp only [P4, dval]
      have em : x2_0 = 10000 * (x2_0 / 10000) + x2_0 % 10000 := by omega
      generalize x2_0 / 10000 = q at *
      generalize x2_0 % 10000 = r at *
      subst em
      grind
    · rw [List.length_append, List.length_singleton, show ((x2_1.length + 1 : Nat) : Int) - 1 = x2_1.length by omega, rowAt_snoc]
      omega
end Go.Proofs.Ytpccjjfcklplaaa.Fn
namespace Go.Proofs.Ytpccjjfcklplaaa.Fn
open Go Go.RowKit Go.Proofs.Ytpccjjfcklplaaa.Sy
set_option linter.unusedVariables false
set_option linter.unusedSimpArgs false
set_option maxRecDepth 100000
def t56 : Tr :=
  .br (.f (.is (.le (.n 0) (.v 0 0)) true) <|
   .br (.f (.rel 11 [.num (.wrap .u64 (.v 0 0))] 65541 [.bool, .list [.int .i64]]) <|
    .ok [.tru (.v 65541 0), .lst 65541 1])
   (.f (.npre 11 [.num (.wrap .u64 (.v 0 0))]) <|
    .bad))
  (.f (.is (.le (.n 0) (.v 0 0)) false) <|
   .br (.f (.rel 11 [.num (.wrap .u64 (.bin .add (.wrap .u64 (.wrap .i64 (.bin .sub (.n 0) (.wrap .i64 (.bin .add (.v 0 0) (.n 1)))))) (.n 1)))] 65544 [.bool, .list [.int .i64]]) <|
    .f (.is (.eq (.v 65547 0) (.wrap .i64 (.bin .sub (.n 0) (.wrap .i64 (.bin .add (.v 0 0) (.n 1)))))) true) <|
     .ok [.tru (.le (.n 0) (.n 0)), .lst 65544 1])
   (.f (.npre 11 [.num (.wrap .u64 (.bin .add (.wrap .u64 (.wrap .i64 (.bin .sub (.n 0) (.wrap .i64 (.bin .add (.v 0 0) (.n 1)))))) (.n 1)))]) <|
    .bad))
theorem c56 : ConS Try.prog T C56 := con_tr (cs := [C11]) (lcs := []) (known := []) (cons_cons c11 (cons_nil _ _)) (Known.nil _) (N := 400) (d := 40) (t := t56) (by kernel_rfl) <| by
  intro E hl hp
  clear hl
  have hp := hp rfl
  simp only [C56, show T.pre 56 = Q56 from rfl, flatS, SP.flat, dvs, List.append_nil, List.cons_append, List.nil_append, Q56, U64, U32, I64, Big, W, wv, s64, WT, PR, MR, MB] at hp
  simp only [t56, C56, Tr.good, Fact.den, LX.den, DX.ls, DV.ls, DX.den, Bx.den, Ex.den, eo_add, eo_sub, eo_mul, eo_quo, eo_rem, eo_fdv, eo_mn, eo_mx, eo_land, eo_lor, eo_lxor, eo_landn, eo_shl, eo_shr, dvs, flatS, SP.flat, ST.flat, List.map_cons, List.map_nil, List.append_nil, List.cons_append, List.nil_append, ltb_t, ltb_f, leb_t, leb_f, eqb_t, eqb_f, decide_eq_true_eq, decide_eq_false_iff_not, Bool.not_eq_true', Bool.not_eq_false', Bool.and_eq_true, Bool.and_eq_false_imp, beq_iff_eq, beq_eq_false_iff_ne, bne_iff_ne, U64, U32, I64, Big, W, wv, Told, s64, WT, PR, MR, MB, Int.zero_mul, Int.zero_add, Int.add_zero, Int.mul_zero, IntKind.wrap_u64, IntKind.wrap_i64, IntKind.wrap_u32, ne_eq, forall_const, true_implies, show T.rel 11 = R11 from rfl, R11, show T.rel 56 = R56 from rfl, R56, show T.pre 11 = Q11 from rfl, Q11, show T.pre 56 = Q56 from rfl, Q56]
  revert hp
  generalize (E.r 0).i 0 = x
  generalize (E.r 65541).c 0 = x5_0
  generalize (E.r 65541).l 1 = x5_1
  generalize (E.r 65544).c 0 = x8_0
  generalize (E.r 65544).l 1 = x8_1
  generalize (E.r 65547).i 0 = x11_0
  try simp only [mxI, mnI]
  try simp only [ltb, leb, eqb, Int.lt_irrefl, decide_false, Int.le_refl, decide_true]
  intro hp
  refine ⟨fun h => ⟨fun e => ⟨e.1, by rw [e.2]; omega⟩, by omega⟩, fun h => ⟨fun e h2 => ?_, by omega⟩⟩
  have ev : (((0 - ((x + 1 + 9223372036854775808) % 18446744073709551616 - 9223372036854775808) + 9223372036854775808) % 18446744073709551616 - 9223372036854775808) % 18446744073709551616 + 1) % 18446744073709551616 = -x := by omega
  rw [ev] at e
  have pz := e.1.pos
  have b := bval_abs (n := true) e.1.1
  have b2 := bval_abs (n := x8_0) e.1.1
  have nz : x8_1.length ≠ 0 := (pz.1.1 (by omega)).1
  have e8 : x8_0 = false := (pz.1.1 (by omega)).2
  refine ⟨⟨e.1.1, e.1.h, fun h => absurd h nz⟩, ?_⟩
  rw [b.1 rfl, ← b2.2 e8]
  omega
end Go.Proofs.Ytpccjjfcklplaaa.Fn
namespace Go.Proofs.Ytpccjjfcklplaaa.Fn
open Go Go.RowKit Go.Proofs.Ytpccjjfcklplaaa.Sy
set_option linter.unusedVariables false
set_option linter.unusedSimpArgs false
set_option maxRecDepth 100000
def t35 : Tr :=
  .br (.f (.rel 56 [.num (.n 1)] 65537 [.bool, .list [.int .i64]]) <|
   .br (.f (.rel 103503 [.num (.v 0 0), .tru (.v 65537 0), .lst 65537 1, .num (.n 0)] 65541 [.bool, .list [.int .i64], .int .i64]) <|
    .br (.f (.is (.lt (.v 65541 2) (.v 0 0)) false) <|
     .ok [.tru (.v 65541 0), .lst 65541 1])
    (.f (.is (.lt (.v 65541 2) (.v 0 0)) true) <|
     .br (.f (.npre 55 [.tru (.v 65541 0), .lst 65541 1, .tru (.v 65541 0), .lst 65541 1]) <|
      .bad)
     (.f (.rel 55 [.tru (.v 65541 0), .lst 65541 1, .tru (.v 65541 0), .lst 65541 1] 65547 [.bool, .list [.int .i64]]) <|
      .br (.f (.nrel 103503 [.num (.v 0 0), .tru (.v 65537 0), .lst 65537 1, .num (.n 0)] [.tru (.v 65547 0), .lst 65547 1, .num (.wrap .i64 (.bin .add (.v 65541 2) (.n 1)))]) <|
       .bad)
      (.f (.ndec 103503 [.num (.v 0 0), .tru (.v 65537 0), .lst 65537 1, .num (.n 0)] [.tru (.v 65541 0), .lst 65541 1, .num (.v 65541 2)] [.tru (.v 65547 0), .lst 65547 1, .num (.wrap .i64 (.bin .add (.v 65541 2) (.n 1)))]) <|
       .bad))))
   (.f (.nrel 103503 [.num (.v 0 0), .tru (.v 65537 0), .lst 65537 1, .num (.n 0)] [.tru (.v 65537 0), .lst 65537 1, .num (.n 0)]) <|
    .bad))
  (.f (.npre 56 [.num (.n 1)]) <|
   .bad)
theorem c35 : ConS Try.prog T C35 := con_tr (cs := [C55, C56]) (lcs := [L103503]) (known := []) (cons_cons c55 (cons_cons c56 (cons_nil _ _))) (Known.nil _) (N := 400) (d := 40) (t := t35) (by kernel_rfl) <| by
  intro E hl hp
  clear hl
  have hp := hp rfl
  simp only [C35, show T.pre 35 = Q35 from rfl, flatS, SP.flat, dvs, List.append_nil, List.cons_append, List.nil_append, Q35, U64, U32, I64, Big, W, wv, s64, WT, PR, MR, MB] at hp
  simp only [t35, C35, Tr.good, Fact.den, LX.den, DX.ls, DV.ls, DX.den, Bx.den, Ex.den, eo_add, eo_sub, eo_mul, eo_quo, eo_rem, eo_fdv, eo_mn, eo_mx, eo_land, eo_lor, eo_lxor, eo_landn, eo_shl, eo_shr, dvs, flatS, SP.flat, ST.flat, List.map_cons, List.map_nil, List.append_nil, List.cons_append, List.nil_append, ltb_t, ltb_f, leb_t, leb_f, eqb_t, eqb_f, decide_eq_true_eq, decide_eq_false_iff_not, Bool.not_eq_true', Bool.not_eq_false', Bool.and_eq_true, Bool.and_eq_false_imp, beq_iff_eq, beq_eq_false_iff_ne, bne_iff_ne, U64, U32, I64, Big, W, wv, Told, s64, WT, PR, MR, MB, Int.zero_mul, Int.zero_add, Int.add_zero, Int.mul_zero, IntKind.wrap_u64, IntKind.wrap_i64, IntKind.wrap_u32, ne_eq, forall_const, true_implies, show T.rel 35 = R35 from rfl, R35, show T.rel 55 = R55 from rfl, R55, show T.rel 56 = R56 from rfl, R56, show T.rel 103503 = R103503 from rfl, R103503, show T.mu 103503 = M103503 from rfl, M103503, show T.pre 35 = Q35 from rfl, Q35, show T.pre 55 = Q55 from rfl, Q55, show T.pre 56 = Q56 from rfl, Q56]
  revert hp
  generalize (E.r 0).i 0 = n
  generalize (E.r 65537).c 0 = x1_0
  generalize (E.r 65537).l 1 = x1_1
  generalize (E.r 65541).c 0 = x5_0
  generalize (E.r 65541).l 1 = x5_1
  generalize (E.r 65541).i 2 = x5_2
  generalize (E.r 65547).c 0 = x11_0
  generalize (E.r 65547).l 1 = x11_1
  try simp only [mxI, mnI]
  try simp only [ltb, leb, eqb, Int.lt_irrefl, decide_false, Int.le_refl, decide_true]
  intro hp
  refine ⟨fun e1 => ⟨fun ⟨i0, i1, i2, i3⟩ => ⟨fun c => ?_, fun c => ?_⟩, fun n => n ⟨trivial, by omega, e1.1, e1.2⟩⟩, by omega⟩
  · have : x5_2 = n := by omega
    subst this
    exact ⟨i2, i3⟩
  · have p0 := p2_pos x5_2.toNat
    have p1 := p2_mono (show x5_2.toNat ≤ 200 by omega)
    rw [p2_200] at p1
    have ew : (x5_2 + 1 + 9223372036854775808) % 18446744073709551616 - 9223372036854775808 = x5_2 + 1 := by omega
    rw [ew]
    refine ⟨fun n => n ⟨⟨i2, by omega, by omega⟩, ⟨i2, by omega, by omega⟩⟩, fun e2 => ⟨fun n => n ⟨by omega, by omega, e2.1, ?_⟩, by omega⟩⟩
    rw [e2.2, i3, show (x5_2 + 1).toNat = x5_2.toNat + 1 by omega, Int.pow_succ]
    omega
end Go.Proofs.Ytpccjjfcklplaaa.Fn
namespace Go.Proofs.Ytpccjjfcklplaaa.Fn
open Go Go.RowKit Go.Proofs.Ytpccjjfcklplaaa.Sy
set_option linter.unusedVariables false
set_option linter.unusedSimpArgs false
set_option maxRecDepth 100000
def t32 : Tr :=
  .br (.f (.rel 11 [.num (.v 0 0)] 65538 [.bool, .list [.int .i64]]) <|
   .br (.f (.rel 11 [.num (.v 0 1)] 65540 [.bool, .list [.int .i64]]) <|
    .br (.f (.rel 36 [.tru (.v 65538 0), .lst 65538 1, .tru (.v 65540 0), .lst 65540 1] 65541 [.bool, .list [.int .i64]]) <|
     .br (.f (.rel 35 [.num (.n 63)] 65545 [.bool, .list [.int .i64]]) <|
      .br (.f (.rel 10 [.tru (.v 65541 0), .lst 65541 1, .tru (.v 65545 0), .lst 65545 1] 65546 [.int .i64]) <|
       .br (.f (.is (.le (.n 0) (.v 65546 0)) true) <|
        .br (.f (.rel 35 [.num (.n 64)] 65549 [.bool, .list [.int .i64]]) <|
         .br (.f (.rel 36 [.tru (.v 65541 0), .lst 65541 1, .tru (.v 65549 0), .lst 65549 1] 65550 [.bool, .list [.int .i64]]) <|
          .ok [.tru (.v 65550 0), .lst 65550 1])
         (.f (.npre 36 [.tru (.v 65541 0), .lst 65541 1, .tru (.v 65549 0), .lst 65549 1]) <|
          .bad))
        (.f (.npre 35 [.num (.n 64)]) <|
         .bad))
       (.f (.is (.le (.n 0) (.v 65546 0)) false) <|
        .br (.f (.rel 35 [.num (.n 63)] 65549 [.bool, .list [.int .i64]]) <|
         .br (.f (.rel 54 [.tru (.v 65549 0), .lst 65549 1] 65550 [.bool, .list [.int .i64]]) <|
          .br (.f (.rel 10 [.tru (.v 65541 0), .lst 65541 1, .tru (.v 65550 0), .lst 65550 1] 65551 [.int .i64]) <|
           .br (.f (.is (.lt (.v 65551 0) (.n 0)) true) <|
            .br (.f (.rel 35 [.num (.n 64)] 65554 [.bool, .list [.int .i64]]) <|
             .br (.f (.rel 55 [.tru (.v 65541 0), .lst 65541 1, .tru (.v 65554 0), .lst 65554 1] 65555 [.bool, .list [.int .i64]]) <|
              .ok [.tru (.v 65555 0), .lst 65555 1])
             (.f (.npre 55 [.tru (.v 65541 0), .lst 65541 1, .tru (.v 65554 0), .lst 65554 1]) <|
              .bad))
            (.f (.npre 35 [.num (.n 64)]) <|
             .bad))
           (.f (.is (.lt (.v 65551 0) (.n 0)) false) <|
            .ok [.tru (.v 65541 0), .lst 65541 1]))
          (.f (.npre 10 [.tru (.v 65541 0), .lst 65541 1, .tru (.v 65550 0), .lst 65550 1]) <|
           .bad))
         (.f (.npre 54 [.tru (.v 65549 0), .lst 65549 1]) <|
          .bad))
        (.f (.npre 35 [.num (.n 63)]) <|
         .bad)))
      (.f (.npre 10 [.tru (.v 65541 0), .lst 65541 1, .tru (.v 65545 0), .lst 65545 1]) <|
       .bad))
     (.f (.npre 35 [.num (.n 63)]) <|
      .bad))
    (.f (.npre 36 [.tru (.v 65538 0), .lst 65538 1, .tru (.v 65540 0), .lst 65540 1]) <|
     .bad))
   (.f (.npre 11 [.num (.v 0 1)]) <|
    .bad))
  (.f (.npre 11 [.num (.v 0 0)]) <|
   .bad)
theorem c32 : ConS Try.prog T C32 := con_tr (cs := [C10, C11, C35, C36, C54, C55]) (lcs := []) (known := []) (cons_cons c10 (cons_cons c11 (cons_cons c35 (cons_cons c36 (cons_cons c54 (cons_cons c55 (cons_nil _ _))))))) (Known.nil _) (N := 400) (d := 40) (t := t32) (by kernel_rfl) <| by
  intro E hl hp
  clear hl
  have hp := hp rfl
  simp only [C32, show T.pre 32 = Q32 from rfl, flatS, SP.flat, dvs, List.append_nil, List.cons_append, List.nil_append, Q32, U64, U32, I64, Big, W, wv, s64, WT, PR, MR, MB] at hp
  simp only [t32, C32, Tr.good, Fact.den, LX.den, DX.ls, DV.ls, DX.den, Bx.den, Ex.den, eo_add, eo_sub, eo_mul, eo_quo, eo_rem, eo_fdv, eo_mn, eo_mx, eo_land, eo_lor, eo_lxor, eo_landn, eo_shl, eo_shr, dvs, flatS, SP.flat, ST.flat, List.map_cons, List.map_nil, List.append_nil, List.cons_append, List.nil_append, ltb_t, ltb_f, leb_t, leb_f, eqb_t, eqb_f, decide_eq_true_eq, decide_eq_false_iff_not, Bool.not_eq_true', Bool.not_eq_false', Bool.and_eq_true, Bool.and_eq_false_imp, beq_iff_eq, beq_eq_false_iff_ne, bne_iff_ne, U64, U32, I64, Big, W, wv, Told, s64, WT, PR, MR, MB, Int.zero_mul, Int.zero_add, Int.add_zero, Int.mul_zero, IntKind.wrap_u64, IntKind.wrap_i64, IntKind.wrap_u32, ne_eq, forall_const, true_implies, show T.rel 10 = R10 from rfl, R10, show T.rel 11 = R11 from rfl, R11, show T.rel 32 = R32 from rfl, R32, show T.rel 35 = R35 from rfl, R35, show T.rel 36 = R36 from rfl, R36, show T.rel 54 = R54 from rfl, R54, show T.rel 55 = R55 from rfl, R55, show T.pre 10 = Q10 from rfl, Q10, show T.pre 11 = Q11 from rfl, Q11, show T.pre 32 = Q32 from rfl, Q32, show T.pre 35 = Q35 from rfl, Q35, show T.pre 36 = Q36 from rfl, Q36, show T.pre 54 = Q54 from rfl, Q54, show T.pre 55 = Q55 from rfl, Q55]
  revert hp
  generalize (E.r 0).i 0 = t
  generalize (E.r 0).i 1 = u
  generalize (E.r 65538).c 0 = x2_0
  generalize (E.r 65538).l 1 = x2_1
  generalize (E.r 65540).c 0 = x4_0
  generalize (E.r 65540).l 1 = x4_1
  generalize (E.r 65541).c 0 = x5_0
  generalize (E.r 65541).l 1 = x5_1
  generalize (E.r 65545).c 0 = x9_0
  generalize (E.r 65545).l 1 = x9_1
  generalize (E.r 65546).i 0 = x10_0
  generalize (E.r 65549).c 0 = x13_0
  generalize (E.r 65549).l 1 = x13_1
  generalize (E.r 65550).c 0 = x14_0
  generalize (E.r 65550).l 1 = x14_1
  generalize (E.r 65551).i 0 = x15_0
  generalize (E.r 65554).c 0 = x18_0
  generalize (E.r 65554).l 1 = x18_1
  generalize (E.r 65555).c 0 = x19_0
  generalize (E.r 65555).l 1 = x19_1
  try simp only [mxI, mnI]
  try simp only [ltb, leb, eqb, Int.lt_irrefl, decide_false, Int.le_refl, decide_true]
  intro hp
  rw [p2_63, p2_64]
  repeat' (first | assumption | (intro (h : _ ∧ _); obtain ⟨_, _⟩ := h) | intro _ | refine And.intro ?_ ?_)
  all_goals try (show False; refine absurd ?_ ‹¬ _›)
  all_goals repeat' (first | assumption | refine And.intro ?_ ?_)
  all_goals first | omega | (simp_all; done) | (simp_all; omega)
end Go.Proofs.Ytpccjjfcklplaaa.Fn
namespace Go.Proofs.Ytpccjjfcklplaaa.Fn
open Go Go.RowKit Go.Proofs.Ytpccjjfcklplaaa.Sy
set_option linter.unusedVariables false
set_option linter.unusedSimpArgs false
set_option maxRecDepth 100000
def t33 : Tr :=
  .br (.f (.is (.le (.n 1) (.v 0 2)) true) <|
   .br (.f (.is (.le (.v 0 2) (.n 1048576)) true) <|
    .ok [.tru (.lt (.v 0 1) (.v 0 2))])
   (.f (.is (.le (.v 0 2) (.n 1048576)) false) <|
    .ok [.tru (.lt (.n 0) (.n 0))]))
  (.f (.is (.le (.n 1) (.v 0 2)) false) <|
   .ok [.tru (.lt (.n 0) (.n 0))])
theorem c33 : ConS Try.prog T C33 := con_tr (cs := []) (lcs := []) (known := []) (cons_nil _ _) (Known.nil _) (N := 400) (d := 40) (t := t33) (by kernel_rfl) <| by
  intro E hl hp
  clear hl
  clear hp
  simp only [t33, C33, Tr.good, Fact.den, LX.den, DX.ls, DV.ls, DX.den, Bx.den, Ex.den, eo_add, eo_sub, eo_mul, eo_quo, eo_rem, eo_fdv, eo_mn, eo_mx, eo_land, eo_lor, eo_lxor, eo_landn, eo_shl, eo_shr, dvs, flatS, SP.flat, ST.flat, List.map_cons, List.map_nil, List.append_nil, List.cons_append, List.nil_append, ltb_t, ltb_f, leb_t, leb_f, eqb_t, eqb_f, decide_eq_true_eq, decide_eq_false_iff_not, Bool.not_eq_true', Bool.not_eq_false', Bool.and_eq_true, Bool.and_eq_false_imp, beq_iff_eq, beq_eq_false_iff_ne, bne_iff_ne, U64, U32, I64, Big, W, wv, Told, s64, WT, PR, MR, MB, Int.zero_mul, Int.zero_add, Int.add_zero, Int.mul_zero, IntKind.wrap_u64, IntKind.wrap_i64, IntKind.wrap_u32, ne_eq, forall_const, true_implies, show T.rel 33 = R33 from rfl, R33]
  generalize (E.r 0).i 0 = t
  generalize (E.r 0).i 1 = r
  generalize (E.r 0).i 2 = w
  try simp only [mxI, mnI]
  try simp only [ltb, leb, eqb, Int.lt_irrefl, decide_false, Int.le_refl, decide_true]
  simp only [Pq, PR]
  repeat' (first | intro _ | refine And.intro ?_ ?_ | refine Iff.intro ?_ ?_)
  all_goals first | omega | (simp_all; done) | (simp_all; omega)
end Go.Proofs.Ytpccjjfcklplaaa.Fn
namespace Go.Proofs.Ytpccjjfcklplaaa.Fn
open Go Go.RowKit Go.Proofs.Ytpccjjfcklplaaa.Sy
set_option linter.unusedVariables false
set_option linter.unusedSimpArgs false
set_option maxRecDepth 100000
def t9 : Tr :=
  .br (.f (.rel 32 [.num (.v 0 4), .num (.v 0 0)] 65544 [.bool, .list [.int .i64]]) <|
   .f (.rel 33 [.num (.v 0 0), .num (.v 0 1), .num (.v 0 2)] 65549 [.bool]) <|
    .br (.f (.is (.v 65549 0) true) <|
     .f (.rel 33 [.num (.v 0 4), .num (.v 0 5), .num (.v 0 6)] 65553 [.bool]) <|
      .br (.f (.is (.v 65553 0) true) <|
       .br (.f (.is (.eq (.v 0 2) (.v 0 6)) true) <|
        .br (.f (.is (.lt (.n 0) (.v 0 3)) true) <|
         .br (.f (.rel 34 [.tru (.v 65544 0), .lst 65544 1] 65571 [.int .i64]) <|
          .br (.f (.is (.le (.n 0) (.v 65571 0)) true) <|
           .br (.f (.rel 35 [.num (.n 60)] 65576 [.bool, .list [.int .i64]]) <|
            .br (.f (.rel 10 [.tru (.v 65544 0), .lst 65544 1, .tru (.v 65576 0), .lst 65576 1] 65577 [.int .i64]) <|
             .ok [.tru (.le (.v 65577 0) (.n 0))])
            (.f (.npre 10 [.tru (.v 65544 0), .lst 65544 1, .tru (.v 65576 0), .lst 65576 1]) <|
             .bad))
           (.f (.npre 35 [.num (.n 60)]) <|
            .bad))
          (.f (.is (.le (.n 0) (.v 65571 0)) false) <|
           .ok [.tru (.lt (.n 0) (.n 0))]))
         (.f (.npre 34 [.tru (.v 65544 0), .lst 65544 1]) <|
          .bad))
        (.f (.is (.lt (.n 0) (.v 0 3)) false) <|
         .ok [.tru (.lt (.n 0) (.n 0))]))
       (.f (.is (.eq (.v 0 2) (.v 0 6)) false) <|
        .ok [.tru (.lt (.n 0) (.n 0))]))
      (.f (.is (.v 65553 0) false) <|
       .ok [.tru (.lt (.n 0) (.n 0))]))
    (.f (.is (.v 65549 0) false) <|
     .ok [.tru (.lt (.n 0) (.n 0))]))
  (.f (.npre 32 [.num (.v 0 4), .num (.v 0 0)]) <|
   .bad)
theorem c9 : ConS Try.prog T C9 := con_tr (cs := [C10, C32, C33, C34, C35]) (lcs := []) (known := []) (cons_cons c10 (cons_cons c32 (cons_cons c33 (cons_cons c34 (cons_cons c35 (cons_nil _ _)))))) (Known.nil _) (N := 400) (d := 40) (t := t9) (by kernel_rfl) <| by
  intro E hl hp
  clear hl
  have hp := hp rfl
  simp only [C9, show T.pre 9 = Q9 from rfl, flatS, SP.flat, dvs, List.append_nil, List.cons_append, List.nil_append, Q9, U64, U32, I64, Big, W, wv, s64, WT, PR, MR, MB] at hp
  simp only [t9, C9, Tr.good, Fact.den, LX.den, DX.ls, DV.ls, DX.den, Bx.den, Ex.den, eo_add, eo_sub, eo_mul, eo_quo, eo_rem, eo_fdv, eo_mn, eo_mx, eo_land, eo_lor, eo_lxor, eo_landn, eo_shl, eo_shr, dvs, flatS, SP.flat, ST.flat, List.map_cons, List.map_nil, List.append_nil, List.cons_append, List.nil_append, ltb_t, ltb_f, leb_t, leb_f, eqb_t, eqb_f, decide_eq_true_eq, decide_eq_false_iff_not, Bool.not_eq_true', Bool.not_eq_false', Bool.and_eq_true, Bool.and_eq_false_imp, beq_iff_eq, beq_eq_false_iff_ne, bne_iff_ne, U64, U32, I64, Big, W, wv, Told, s64, WT, PR, MR, MB, Int.zero_mul, Int.zero_add, Int.add_zero, Int.mul_zero, IntKind.wrap_u64, IntKind.wrap_i64, IntKind.wrap_u32, ne_eq, forall_const, true_implies, show T.rel 9 = R9 from rfl, R9, show T.rel 10 = R10 from rfl, R10, show T.rel 32 = R32 from rfl, R32, show T.rel 33 = R33 from rfl, R33, show T.rel 34 = R34 from rfl, R34, show T.rel 35 = R35 from rfl, R35, show T.pre 9 = Q9 from rfl, Q9, show T.pre 10 = Q10 from rfl, Q10, show T.pre 32 = Q32 from rfl, Q32, show T.pre 34 = Q34 from rfl, Q34, show T.pre 35 = Q35 from rfl, Q35]
  revert hp
  generalize (E.r 0).i 0 = t
  generalize (E.r 0).i 1 = r
  generalize (E.r 0).i 2 = w
  generalize (E.r 0).i 3 = id
  generalize (E.r 0).i 4 = dt
  generalize (E.r 0).i 5 = dr
  generalize (E.r 0).i 6 = dw
  generalize (E.r 65544).c 0 = x8_0
  generalize (E.r 65544).l 1 = x8_1
  generalize (E.r 65549).c 0 = x13_0
  generalize (E.r 65553).c 0 = x17_0
  generalize (E.r 65571).i 0 = x35_0
  generalize (E.r 65576).c 0 = x40_0
  generalize (E.r 65576).l 1 = x40_1
  generalize (E.r 65577).i 0 = x41_0
  try simp only [Bg]
  try generalize bval x8_0 x8_1 = y8_0
  try generalize bval x40_0 x40_1 = y40_0
  try simp only [mxI, mnI]
  try simp only [ltb, leb, eqb, Int.lt_irrefl, decide_false, Int.le_refl, decide_true]
  intro hp
  simp only [Pq]
  rw [show (2 : Int) ^ (Int.toNat 60) = 1152921504606846976 from rfl]
  repeat' (first | assumption | (intro (h : _ ∧ _); obtain ⟨h1, h2⟩ := h; (first | (subst h1; revert h2) | revert h1 h2)) | (intro h; (first | subst h | skip)) | refine And.intro ?_ ?_)
  all_goals try (show False; refine absurd ?_ ‹¬ _›)
  all_goals repeat' (first | assumption | refine And.intro ?_ ?_)
  all_goals first | omega | grind
end Go.Proofs.Ytpccjjfcklplaaa.Fn
namespace Go.Proofs.Ytpccjjfcklplaaa.Fn
open Go Go.RowKit Go.Proofs.Ytpccjjfcklplaaa.Sy
set_option linter.unusedVariables false
set_option linter.unusedSimpArgs false
set_option maxRecDepth 100000
set_option maxHeartbeats 8000000
def t12 : Tr :=
  .br (.f (.rel 101203 [.num (.v 0 0), .lst 0 1, .tru (.lt (.n 0) (.n 0)), .rows [], .tru (.lt (.n 0) (.n 0)), .rows [], .num (.n 0)] 65542 [.bool, .list [.int .i64], .bool, .list [.int .i64], .int .i64]) <|
   .br (.f (.is (.lt (.v 65542 4) (.len 0 1)) false) <|
    .br (.f (.rel 36 [.tru (.v 65542 2), .lst 65542 3, .tru (.v 65542 0), .lst 65542 1] 65546 [.bool, .list [.int .i64]]) <|
     .ok [.tru (.v 65546 0), .lst 65546 1])
    (.f (.npre 36 [.tru (.v 65542 2), .lst 65542 3, .tru (.v 65542 0), .lst 65542 1]) <|
     .bad))
   (.f (.is (.lt (.v 65542 4) (.len 0 1)) true) <|
    .br (.f (.is (.lt (.v 65542 4) (.n 0)) true) <|
     .bad)
    (.f (.is (.lt (.v 65542 4) (.n 0)) false) <|
     .br (.f (.npre 32 [.num (.at 0 1 (.v 65542 4) 0), .num (.v 0 0)]) <|
      .bad)
     (.f (.rel 32 [.num (.at 0 1 (.v 65542 4) 0), .num (.v 0 0)] 65554 [.bool, .list [.int .i64]]) <|
      .br (.f (.npre 32 [.num (.at 0 1 (.v 65542 4) 4), .num (.v 0 0)]) <|
       .bad)
      (.f (.rel 32 [.num (.at 0 1 (.v 65542 4) 4), .num (.v 0 0)] 65559 [.bool, .list [.int .i64]]) <|
       .br (.f (.is (.eq (.v 65542 4) (.n 0)) false) <|
        .br (.f (.npre 10 [.tru (.v 65554 0), .lst 65554 1, .tru (.v 65542 0), .lst 65542 1]) <|
         .bad)
        (.f (.rel 10 [.tru (.v 65554 0), .lst 65554 1, .tru (.v 65542 0), .lst 65542 1] 65569 [.int .i64]) <|
         .br (.f (.is (.lt (.v 65569 0) (.n 0)) true) <|
          .br (.f (.npre 10 [.tru (.v 65554 0), .lst 65554 1, .tru (.v 65542 2), .lst 65542 3]) <|
           .bad)
          (.f (.rel 10 [.tru (.v 65554 0), .lst 65554 1, .tru (.v 65542 2), .lst 65542 3] 65579 [.int .i64]) <|
           .br (.f (.is (.lt (.n 0) (.v 65579 0)) true) <|
            .br (.f (.npre 10 [.tru (.v 65559 0), .lst 65559 1, .tru (.v 65554 0), .lst 65554 1]) <|
             .bad)
            (.f (.rel 10 [.tru (.v 65559 0), .lst 65559 1, .tru (.v 65554 0), .lst 65554 1] 65586 [.int .i64]) <|
             .br (.f (.is (.lt (.n 0) (.v 65586 0)) true) <|
              .br (.f (.nrel 101203 [.num (.v 0 0), .lst 0 1, .tru (.lt (.n 0) (.n 0)), .rows [], .tru (.lt (.n 0) (.n 0)), .rows [], .num (.n 0)] [.tru (.v 65554 0), .lst 65554 1, .tru (.v 65559 0), .lst 65559 1, .num (.wrap .i64 (.bin .add (.v 65542 4) (.n 1)))]) <|
               .bad)
              (.f (.ndec 101203 [.num (.v 0 0), .lst 0 1, .tru (.lt (.n 0) (.n 0)), .rows [], .tru (.lt (.n 0) (.n 0)), .rows [], .num (.n 0)] [.tru (.v 65542 0), .lst 65542 1, .tru (.v 65542 2), .lst 65542 3, .num (.v 65542 4)] [.tru (.v 65554 0), .lst 65554 1, .tru (.v 65559 0), .lst 65559 1, .num (.wrap .i64 (.bin .add (.v 65542 4) (.n 1)))]) <|
               .bad))
             (.f (.is (.lt (.n 0) (.v 65586 0)) false) <|
              .br (.f (.nrel 101203 [.num (.v 0 0), .lst 0 1, .tru (.lt (.n 0) (.n 0)), .rows [], .tru (.lt (.n 0) (.n 0)), .rows [], .num (.n 0)] [.tru (.v 65554 0), .lst 65554 1, .tru (.v 65554 0), .lst 65554 1, .num (.wrap .i64 (.bin .add (.v 65542 4) (.n 1)))]) <|
               .bad)
              (.f (.ndec 101203 [.num (.v 0 0), .lst 0 1, .tru (.lt (.n 0) (.n 0)), .rows [], .tru (.lt (.n 0) (.n 0)), .rows [], .num (.n 0)] [.tru (.v 65542 0), .lst 65542 1, .tru (.v 65542 2), .lst 65542 3, .num (.v 65542 4)] [.tru (.v 65554 0), .lst 65554 1, .tru (.v 65554 0), .lst 65554 1, .num (.wrap .i64 (.bin .add (.v 65542 4) (.n 1)))]) <|
               .bad))))
           (.f (.is (.lt (.n 0) (.v 65579 0)) false) <|
            .br (.f (.npre 10 [.tru (.v 65559 0), .lst 65559 1, .tru (.v 65542 2), .lst 65542 3]) <|
             .bad)
            (.f (.rel 10 [.tru (.v 65559 0), .lst 65559 1, .tru (.v 65542 2), .lst 65542 3] 65584 [.int .i64]) <|
             .br (.f (.is (.lt (.n 0) (.v 65584 0)) true) <|
              .br (.f (.nrel 101203 [.num (.v 0 0), .lst 0 1, .tru (.lt (.n 0) (.n 0)), .rows [], .tru (.lt (.n 0) (.n 0)), .rows [], .num (.n 0)] [.tru (.v 65554 0), .lst 65554 1, .tru (.v 65559 0), .lst 65559 1, .num (.wrap .i64 (.bin .add (.v 65542 4) (.n 1)))]) <|
               .bad)
              (.f (.ndec 101203 [.num (.v 0 0), .lst 0 1, .tru (.lt (.n 0) (.n 0)), .rows [], .tru (.lt (.n 0) (.n 0)), .rows [], .num (.n 0)] [.tru (.v 65542 0), .lst 65542 1, .tru (.v 65542 2), .lst 65542 3, .num (.v 65542 4)] [.tru (.v 65554 0), .lst 65554 1, .tru (.v 65559 0), .lst 65559 1, .num (.wrap .i64 (.bin .add (.v 65542 4) (.n 1)))]) <|
               .bad))
             (.f (.is (.lt (.n 0) (.v 65584 0)) false) <|
              .br (.f (.nrel 101203 [.num (.v 0 0), .lst 0 1, .tru (.lt (.n 0) (.n 0)), .rows [], .tru (.lt (.n 0) (.n 0)), .rows [], .num (.n 0)] [.tru (.v 65554 0), .lst 65554 1, .tru (.v 65542 2), .lst 65542 3, .num (.wrap .i64 (.bin .add (.v 65542 4) (.n 1)))]) <|
               .bad)
              (.f (.ndec 101203 [.num (.v 0 0), .lst 0 1, .tru (.lt (.n 0) (.n 0)), .rows [], .tru (.lt (.n 0) (.n 0)), .rows [], .num (.n 0)] [.tru (.v 65542 0), .lst 65542 1, .tru (.v 65542 2), .lst 65542 3, .num (.v 65542 4)] [.tru (.v 65554 0), .lst 65554 1, .tru (.v 65542 2), .lst 65542 3, .num (.wrap .i64 (.bin .add (.v 65542 4) (.n 1)))]) <|
               .bad))))))
         (.f (.is (.lt (.v 65569 0) (.n 0)) false) <|
          .br (.f (.npre 10 [.tru (.v 65554 0), .lst 65554 1, .tru (.v 65542 2), .lst 65542 3]) <|
           .bad)
          (.f (.rel 10 [.tru (.v 65554 0), .lst 65554 1, .tru (.v 65542 2), .lst 65542 3] 65577 [.int .i64]) <|
           .br (.f (.is (.lt (.n 0) (.v 65577 0)) true) <|
            .br (.f (.npre 10 [.tru (.v 65559 0), .lst 65559 1, .tru (.v 65554 0), .lst 65554 1]) <|
             .bad)
            (.f (.rel 10 [.tru (.v 65559 0), .lst 65559 1, .tru (.v 65554 0), .lst 65554 1] 65584 [.int .i64]) <|
             .br (.f (.is (.lt (.n 0) (.v 65584 0)) true) <|
              .br (.f (.nrel 101203 [.num (.v 0 0), .lst 0 1, .tru (.lt (.n 0) (.n 0)), .rows [], .tru (.lt (.n 0) (.n 0)), .rows [], .num (.n 0)] [.tru (.v 65542 0), .lst 65542 1, .tru (.v 65559 0), .lst 65559 1, .num (.wrap .i64 (.bin .add (.v 65542 4) (.n 1)))]) <|
               .bad)
              (.f (.ndec 101203 [.num (.v 0 0), .lst 0 1, .tru (.lt (.n 0) (.n 0)), .rows [], .tru (.lt (.n 0) (.n 0)), .rows [], .num (.n 0)] [.tru (.v 65542 0), .lst 65542 1, .tru (.v 65542 2), .lst 65542 3, .num (.v 65542 4)] [.tru (.v 65542 0), .lst 65542 1, .tru (.v 65559 0), .lst 65559 1, .num (.wrap .i64 (.bin .add (.v 65542 4) (.n 1)))]) <|
               .bad))
             (.f (.is (.lt (.n 0) (.v 65584 0)) false) <|
              .br (.f (.nrel 101203 [.num (.v 0 0), .lst 0 1, .tru (.lt (.n 0) (.n 0)), .rows [], .tru (.lt (.n 0) (.n 0)), .rows [], .num (.n 0)] [.tru (.v 65542 0), .lst 65542 1, .tru (.v 65554 0), .lst 65554 1, .num (.wrap .i64 (.bin .add (.v 65542 4) (.n 1)))]) <|
               .bad)
              (.f (.ndec 101203 [.num (.v 0 0), .lst 0 1, .tru (.lt (.n 0) (.n 0)), .rows [], .tru (.lt (.n 0) (.n 0)), .rows [], .num (.n 0)] [.tru (.v 65542 0), .lst 65542 1, .tru (.v 65542 2), .lst 65542 3, .num (.v 65542 4)] [.tru (.v 65542 0), .lst 65542 1, .tru (.v 65554 0), .lst 65554 1, .num (.wrap .i64 (.bin .add (.v 65542 4) (.n 1)))]) <|
               .bad))))
           (.f (.is (.lt (.n 0) (.v 65577 0)) false) <|
            .br (.f (.npre 10 [.tru (.v 65559 0), .lst 65559 1, .tru (.v 65542 2), .lst 65542 3]) <|
             .bad)
            (.f (.rel 10 [.tru (.v 65559 0), .lst 65559 1, .tru (.v 65542 2), .lst 65542 3] 65582 [.int .i64]) <|
             .br (.f (.is (.lt (.n 0) (.v 65582 0)) true) <|
              .br (.f (.nrel 101203 [.num (.v 0 0), .lst 0 1, .tru (.lt (.n 0) (.n 0)), .rows [], .tru (.lt (.n 0) (.n 0)), .rows [], .num (.n 0)] [.tru (.v 65542 0), .lst 65542 1, .tru (.v 65559 0), .lst 65559 1, .num (.wrap .i64 (.bin .add (.v 65542 4) (.n 1)))]) <|
               .bad)
              (.f (.ndec 101203 [.num (.v 0 0), .lst 0 1, .tru (.lt (.n 0) (.n 0)), .rows [], .tru (.lt (.n 0) (.n 0)), .rows [], .num (.n 0)] [.tru (.v 65542 0), .lst 65542 1, .tru (.v 65542 2), .lst 65542 3, .num (.v 65542 4)] [.tru (.v 65542 0), .lst 65542 1, .tru (.v 65559 0), .lst 65559 1, .num (.wrap .i64 (.bin .add (.v 65542 4) (.n 1)))]) <|
               .bad))
             (.f (.is (.lt (.n 0) (.v 65582 0)) false) <|
              .br (.f (.nrel 101203 [.num (.v 0 0), .lst 0 1, .tru (.lt (.n 0) (.n 0)), .rows [], .tru (.lt (.n 0) (.n 0)), .rows [], .num (.n 0)] [.tru (.v 65542 0), .lst 65542 1, .tru (.v 65542 2), .lst 65542 3, .num (.wrap .i64 (.bin .add (.v 65542 4) (.n 1)))]) <|
               .bad)
              (.f (.ndec 101203 [.num (.v 0 0), .lst 0 1, .tru (.lt (.n 0) (.n 0)), .rows [], .tru (.lt (.n 0) (.n 0)), .rows [], .num (.n 0)] [.tru (.v 65542 0), .lst 65542 1, .tru (.v 65542 2), .lst 65542 3, .num (.v 65542 4)] [.tru (.v 65542 0), .lst 65542 1, .tru (.v 65542 2), .lst 65542 3, .num (.wrap .i64 (.bin .add (.v 65542 4) (.n 1)))]) <|
               .bad))))))))
       (.f (.is (.eq (.v 65542 4) (.n 0)) true) <|
        .br (.f (.npre 10 [.tru (.v 65559 0), .lst 65559 1, .tru (.v 65554 0), .lst 65554 1]) <|
         .bad)
        (.f (.rel 10 [.tru (.v 65559 0), .lst 65559 1, .tru (.v 65554 0), .lst 65554 1] 65586 [.int .i64]) <|
         .br (.f (.is (.lt (.n 0) (.v 65586 0)) true) <|
          .br (.f (.nrel 101203 [.num (.v 0 0), .lst 0 1, .tru (.lt (.n 0) (.n 0)), .rows [], .tru (.lt (.n 0) (.n 0)), .rows [], .num (.n 0)] [.tru (.v 65554 0), .lst 65554 1, .tru (.v 65559 0), .lst 65559 1, .num (.wrap .i64 (.bin .add (.v 65542 4) (.n 1)))]) <|
           .bad)
          (.f (.ndec 101203 [.num (.v 0 0), .lst 0 1, .tru (.lt (.n 0) (.n 0)), .rows [], .tru (.lt (.n 0) (.n 0)), .rows [], .num (.n 0)] [.tru (.v 65542 0), .lst 65542 1, .tru (.v 65542 2), .lst 65542 3, .num (.v 65542 4)] [.tru (.v 65554 0), .lst 65554 1, .tru (.v 65559 0), .lst 65559 1, .num (.wrap .i64 (.bin .add (.v 65542 4) (.n 1)))]) <|
           .bad))
         (.f (.is (.lt (.n 0) (.v 65586 0)) false) <|
          .br (.f (.nrel 101203 [.num (.v 0 0), .lst 0 1, .tru (.lt (.n 0) (.n 0)), .rows [], .tru (.lt (.n 0) (.n 0)), .rows [], .num (.n 0)] [.tru (.v 65554 0), .lst 65554 1, .tru (.v 65554 0), .lst 65554 1, .num (.wrap .i64 (.bin .add (.v 65542 4) (.n 1)))]) <|
           .bad)
          (.f (.ndec 101203 [.num (.v 0 0), .lst 0 1, .tru (.lt (.n 0) (.n 0)), .rows [], .tru (.lt (.n 0) (.n 0)), .rows [], .num (.n 0)] [.tru (.v 65542 0), .lst 65542 1, .tru (.v 65542 2), .lst 65542 3, .num (.v 65542 4)] [.tru (.v 65554 0), .lst 65554 1, .tru (.v 65554 0), .lst 65554 1, .num (.wrap .i64 (.bin .add (.v 65542 4) (.n 1)))]) <|
           .bad)))))))))
  (.f (.nrel 101203 [.num (.v 0 0), .lst 0 1, .tru (.lt (.n 0) (.n 0)), .rows [], .tru (.lt (.n 0) (.n 0)), .rows [], .num (.n 0)] [.tru (.lt (.n 0) (.n 0)), .rows [], .tru (.lt (.n 0) (.n 0)), .rows [], .num (.n 0)]) <|
   .bad)
theorem c12 : ConS Try.prog T C12 := con_tr (cs := [C10, C32, C36]) (lcs := [L101203]) (known := []) (cons_cons c10 (cons_cons c32 (cons_cons c36 (cons_nil _ _)))) (Known.nil _) (N := 400) (d := 40) (t := t12) (by kernel_rfl) <| by
  intro E hl hp
  have hl1 := hl 1 _ rfl
  clear hl
  have hp := hp rfl
  simp only [C12, show T.pre 12 = Q12 from rfl, flatS, SP.flat, dvs, List.append_nil, List.cons_append, List.nil_append, Q12, U64, U32, I64, Big, W, wv, s64, WT, PR, MR, MB] at hp
  simp only [t12, C12, Tr.good, Fact.den, LX.den, DX.ls, DV.ls, DX.den, Bx.den, Ex.den, eo_add, eo_sub, eo_mul, eo_quo, eo_rem, eo_fdv, eo_mn, eo_mx, eo_land, eo_lor, eo_lxor, eo_landn, eo_shl, eo_shr, dvs, flatS, SP.flat, ST.flat, List.map_cons, List.map_nil, List.append_nil, List.cons_append, List.nil_append, ltb_t, ltb_f, leb_t, leb_f, eqb_t, eqb_f, decide_eq_true_eq, decide_eq_false_iff_not, Bool.not_eq_true', Bool.not_eq_false', Bool.and_eq_true, Bool.and_eq_false_imp, beq_iff_eq, beq_eq_false_iff_ne, bne_iff_ne, U64, U32, I64, Big, W, wv, Told, s64, WT, PR, MR, MB, Int.zero_mul, Int.zero_add, Int.add_zero, Int.mul_zero, IntKind.wrap_u64, IntKind.wrap_i64, IntKind.wrap_u32, ne_eq, forall_const, true_implies, show T.rel 10 = R10 from rfl, R10, show T.rel 12 = R12 from rfl, R12, show T.rel 32 = R32 from rfl, R32, show T.rel 36 = R36 from rfl, R36, show T.rel 101203 = R101203 from rfl, R101203, show T.mu 101203 = M101203 from rfl, M101203, show T.pre 10 = Q10 from rfl, Q10, show T.pre 12 = Q12 from rfl, Q12, show T.pre 32 = Q32 from rfl, Q32, show T.pre 36 = Q36 from rfl, Q36]
  revert hp hl1
  generalize (E.r 0).i 0 = base
  generalize (E.r 0).l 1 = xs
  generalize (E.r 65542).c 0 = x6_0
  generalize (E.r 65542).l 1 = x6_1
  generalize (E.r 65542).c 2 = x6_2
  generalize (E.r 65542).l 3 = x6_3
  generalize (E.r 65542).i 4 = x6_4
  generalize (E.r 65546).c 0 = x10_0
  generalize (E.r 65546).l 1 = x10_1
  generalize (E.r 65554).c 0 = x18_0
  generalize (E.r 65554).l 1 = x18_1
  generalize (E.r 65559).c 0 = x23_0
  generalize (E.r 65559).l 1 = x23_1
  generalize (E.r 65569).i 0 = x33_0
  generalize (E.r 65577).i 0 = x41_0
  generalize (E.r 65579).i 0 = x43_0
  generalize (E.r 65582).i 0 = x46_0
  generalize (E.r 65584).i 0 = x48_0
  generalize (E.r 65586).i 0 = x50_0
  try simp only [Bg]
  try generalize bval x6_0 x6_1 = y6_0
  try generalize bval x6_2 x6_3 = y6_2
  try generalize bval x10_0 x10_1 = y10_0
  try generalize bval x18_0 x18_1 = y18_0
  try generalize bval x23_0 x23_1 = y23_0
  try simp only [mxI, mnI]
  try simp only [ltb, leb, eqb, Int.lt_irrefl, decide_false, Int.le_refl, decide_true]
  simp only [bval_nil]
  intro hl hp
  obtain ⟨hb, hk, hn⟩ := hp
  have B0 := BOK_nil
  have hS := SPR_le base xs
  refine ⟨fun ⟨i0, i1, i2, i3, i4, i5⟩ => ?_, fun n => n ⟨trivial, by omega, B0, B0, rfl, rfl⟩⟩
  obtain ⟨k, rfl⟩ := Int.eq_ofNat_of_zero_le i0
  have ew : ((k : Int) + 1 + 9223372036854775808) % 18446744073709551616 - 9223372036854775808 = ((k + 1 : Nat) : Int) := by omega
  simp only [Int.toNat_natCast] at i4 i5
  simp only [ew, Int.toNat_natCast]
  have hkk := hk k
  have bl := mnF_bd (f := tf 0 base xs) (tf_le 0 base xs) (by decide) k
  have bh := mxF_bd (f := tg base xs) (tg_le base xs) (by decide) (2 * k)
  have a := mnF_step (tf 0 base xs) k
  have b := mxF_step (tg base xs) (2 * k)
  have c := mxF_step (tg base xs) (2 * k + 1)
  have tp := tf_le 0 base xs k
  have td := tg_le base xs (2 * k + 1)
  have et : (Sy.rowAt xs k 0 - base + 9223372036854775808) % 18446744073709551616 - 9223372036854775808 = tf 0 base xs k := rfl
  have eg : tg base xs (2 * k) = tf 0 base xs k := by simp only [tg, tf, show 2 * k / 2 = k by omega, show 2 * k % 2 = 0 by omega, if_true]
  have ed : (Sy.rowAt xs k 4 - base + 9223372036854775808) % 18446744073709551616 - 9223372036854775808 = tg base xs (2 * k + 1) := by
    simp only [tg, show (2 * k + 1) / 2 = k by omega, show ¬ (2 * k + 1) % 2 = 0 by omega, if_false]
  rw [eg] at b
  rw [← i4] at a bl
  rw [← i5] at b bh
  rw [show 2 * (k + 1) = 2 * k + 1 + 1 by omega]
  simp only [et, ed]
  refine ⟨fun cge => ?_, ?_⟩
  case refine_1 => exact ⟨fun ⟨q1, q2⟩ => ⟨q1, by rw [q2, i4, i5, show k = xs.length by omega]; rfl⟩, fun n => n ⟨⟨i3, by omega, by omega⟩, i2, by omega, by omega⟩⟩
  clear i4 i5 et ed eg ew hS
  generalize tf 0 base xs k = P at *
  generalize tg base xs (2 * k + 1) = D at *
  generalize mnF (tf 0 base xs) (k + 1) = M1 at *
  generalize mxF (tg base xs) (2 * k + 1) = X1 at *
  generalize mxF (tg base xs) (2 * k + 1 + 1) = X2 at *
  repeat' (first | assumption | (intro (h : _ ∧ _); obtain ⟨h1, h2⟩ := h; (first | (subst h1; revert h2) | revert h1 h2)) | (intro h; (first | subst h | skip)) | refine And.intro ?_ ?_)
  all_goals try (show False; refine absurd ?_ ‹¬ _›)
  all_goals repeat' (first | assumption | refine And.intro ?_ ?_)
  all_goals first | omega | grind
end Go.Proofs.Ytpccjjfcklplaaa.Fn
namespace Go.Proofs.Ytpccjjfcklplaaa.Fn
open Go Go.RowKit Go.Proofs.Ytpccjjfcklplaaa.Sy
set_option linter.unusedVariables false
set_option linter.unusedSimpArgs false
set_option maxRecDepth 100000
def t49 : Tr :=
  .f (.rel 42 [.num (.v 0 3), .num (.v 0 0)] 65543 [.int .i64]) <|
   .br (.f (.is (.lt (.n 0) (.v 65543 0)) true) <|
    .br (.f (.is (.lt (.wrap .u64 (.bin .mul (.wrap .u64 (.v 0 1)) (.wrap .u64 (.v 0 5)))) (.wrap .u64 (.bin .mul (.wrap .u64 (.v 0 4)) (.wrap .u64 (.v 0 2))))) true) <|
     .ok [.num (.n (-1))])
    (.f (.is (.lt (.wrap .u64 (.bin .mul (.wrap .u64 (.v 0 1)) (.wrap .u64 (.v 0 5)))) (.wrap .u64 (.bin .mul (.wrap .u64 (.v 0 4)) (.wrap .u64 (.v 0 2))))) false) <|
     .br (.f (.is (.lt (.wrap .u64 (.bin .mul (.wrap .u64 (.v 0 4)) (.wrap .u64 (.v 0 2)))) (.wrap .u64 (.bin .mul (.wrap .u64 (.v 0 1)) (.wrap .u64 (.v 0 5))))) true) <|
      .ok [.num (.n (-1))])
     (.f (.is (.lt (.wrap .u64 (.bin .mul (.wrap .u64 (.v 0 4)) (.wrap .u64 (.v 0 2)))) (.wrap .u64 (.bin .mul (.wrap .u64 (.v 0 1)) (.wrap .u64 (.v 0 5))))) false) <|
      .ok [.num (.n (-1))])))
   (.f (.is (.lt (.n 0) (.v 65543 0)) false) <|
    .br (.f (.is (.lt (.v 65543 0) (.n 0)) true) <|
     .br (.f (.is (.lt (.wrap .u64 (.bin .mul (.wrap .u64 (.v 0 1)) (.wrap .u64 (.v 0 5)))) (.wrap .u64 (.bin .mul (.wrap .u64 (.v 0 4)) (.wrap .u64 (.v 0 2))))) true) <|
      .ok [.num (.n 1)])
     (.f (.is (.lt (.wrap .u64 (.bin .mul (.wrap .u64 (.v 0 1)) (.wrap .u64 (.v 0 5)))) (.wrap .u64 (.bin .mul (.wrap .u64 (.v 0 4)) (.wrap .u64 (.v 0 2))))) false) <|
      .br (.f (.is (.lt (.wrap .u64 (.bin .mul (.wrap .u64 (.v 0 4)) (.wrap .u64 (.v 0 2)))) (.wrap .u64 (.bin .mul (.wrap .u64 (.v 0 1)) (.wrap .u64 (.v 0 5))))) true) <|
       .ok [.num (.n 1)])
      (.f (.is (.lt (.wrap .u64 (.bin .mul (.wrap .u64 (.v 0 4)) (.wrap .u64 (.v 0 2)))) (.wrap .u64 (.bin .mul (.wrap .u64 (.v 0 1)) (.wrap .u64 (.v 0 5))))) false) <|
       .ok [.num (.n 1)])))
    (.f (.is (.lt (.v 65543 0) (.n 0)) false) <|
     .br (.f (.is (.lt (.wrap .u64 (.bin .mul (.wrap .u64 (.v 0 1)) (.wrap .u64 (.v 0 5)))) (.wrap .u64 (.bin .mul (.wrap .u64 (.v 0 4)) (.wrap .u64 (.v 0 2))))) true) <|
      .ok [.num (.n (-1))])
     (.f (.is (.lt (.wrap .u64 (.bin .mul (.wrap .u64 (.v 0 1)) (.wrap .u64 (.v 0 5)))) (.wrap .u64 (.bin .mul (.wrap .u64 (.v 0 4)) (.wrap .u64 (.v 0 2))))) false) <|
      .br (.f (.is (.lt (.wrap .u64 (.bin .mul (.wrap .u64 (.v 0 4)) (.wrap .u64 (.v 0 2)))) (.wrap .u64 (.bin .mul (.wrap .u64 (.v 0 1)) (.wrap .u64 (.v 0 5))))) true) <|
       .ok [.num (.n 1)])
      (.f (.is (.lt (.wrap .u64 (.bin .mul (.wrap .u64 (.v 0 4)) (.wrap .u64 (.v 0 2)))) (.wrap .u64 (.bin .mul (.wrap .u64 (.v 0 1)) (.wrap .u64 (.v 0 5))))) false) <|
       .ok [.num (.n 0)]))))
theorem c49 : ConS Try.prog T C49 := con_tr (cs := [C42]) (lcs := []) (known := []) (cons_cons c42 (cons_nil _ _)) (Known.nil _) (N := 400) (d := 40) (t := t49) (by kernel_rfl) <| by
  intro E hl hp
  clear hl
  have hp := hp rfl
  simp only [C49, show T.pre 49 = Q49 from rfl, flatS, SP.flat, dvs, List.append_nil, List.cons_append, List.nil_append, Q49, U64, U32, I64, Big, W, wv, s64, WT, PR, MR, MB] at hp
  simp only [t49, C49, Tr.good, Fact.den, LX.den, DX.ls, DV.ls, DX.den, Bx.den, Ex.den, eo_add, eo_sub, eo_mul, eo_quo, eo_rem, eo_fdv, eo_mn, eo_mx, eo_land, eo_lor, eo_lxor, eo_landn, eo_shl, eo_shr, dvs, flatS, SP.flat, ST.flat, List.map_cons, List.map_nil, List.append_nil, List.cons_append, List.nil_append, ltb_t, ltb_f, leb_t, leb_f, eqb_t, eqb_f, decide_eq_true_eq, decide_eq_false_iff_not, Bool.not_eq_true', Bool.not_eq_false', Bool.and_eq_true, Bool.and_eq_false_imp, beq_iff_eq, beq_eq_false_iff_ne, bne_iff_ne, U64, U32, I64, Big, W, wv, Told, s64, WT, PR, MR, MB, Int.zero_mul, Int.zero_add, Int.add_zero, Int.mul_zero, IntKind.wrap_u64, IntKind.wrap_i64, IntKind.wrap_u32, ne_eq, forall_const, true_implies, show T.rel 42 = R42 from rfl, R42, show T.rel 49 = R49 from rfl, R49, show T.pre 49 = Q49 from rfl, Q49]
  revert hp
  generalize (E.r 0).i 0 = t
  generalize (E.r 0).i 1 = r
  generalize (E.r 0).i 2 = w
  generalize (E.r 0).i 3 = u
  generalize (E.r 0).i 4 = q
  generalize (E.r 0).i 5 = v
  generalize (E.r 65543).i 0 = x7_0
  try simp only [mxI, mnI]
  try simp only [ltb, leb, eqb, Int.lt_irrefl, decide_false, Int.le_refl, decide_true]
  intro hp
  simp only [show r % 18446744073709551616 = r by omega, show w % 18446744073709551616 = w by omega, show q % 18446744073709551616 = q by omega, show v % 18446744073709551616 = v by omega]
  have p1 := mul_below (a := r) (b := v) (c := 4294967295) (d := 4294967295) (by omega) (by omega) (by omega) (by omega)
  have p2 := mul_below (a := q) (b := w) (c := 4294967295) (d := 4294967295) (by omega) (by omega) (by omega) (by omega)
  generalize r * v = a at *
  generalize q * w = b at *
  repeat' (first | intro _ | refine And.intro ?_ ?_ | refine Iff.intro ?_ ?_)
  all_goals first | omega | (simp_all; done) | (simp_all; omega)
end Go.Proofs.Ytpccjjfcklplaaa.Fn
namespace Go.Proofs.Ytpccjjfcklplaaa.Fn
open Go Go.RowKit Go.Proofs.Ytpccjjfcklplaaa.Sy
set_option linter.unusedVariables false
set_option linter.unusedSimpArgs false
set_option maxRecDepth 100000
def t20 : Tr :=
  .br (.f (.rel 49 [.num (.v 0 0), .num (.v 0 1), .num (.v 0 2), .num (.v 0 7), .num (.v 0 8), .num (.v 0 9)] 65543 [.int .i64]) <|
   .br (.f (.is (.lt (.v 65543 0) (.n 0)) true) <|
    .ok [.tru (.le (.n 0) (.n 0))])
   (.f (.is (.lt (.v 65543 0) (.n 0)) false) <|
    .br (.f (.is (.eq (.v 65543 0) (.n 0)) true) <|
     .ok [.tru (.lt (.v 0 3) (.v 0 10))])
    (.f (.is (.eq (.v 65543 0) (.n 0)) false) <|
     .ok [.tru (.lt (.n 0) (.n 0))])))
  (.f (.npre 49 [.num (.v 0 0), .num (.v 0 1), .num (.v 0 2), .num (.v 0 7), .num (.v 0 8), .num (.v 0 9)]) <|
   .bad)
theorem c20 : ConS Try.prog T C20 := con_tr (cs := [C49]) (lcs := []) (known := []) (cons_cons c49 (cons_nil _ _)) (Known.nil _) (N := 400) (d := 40) (t := t20) (by kernel_rfl) <| by
  intro E hl hp
  clear hl
  have hp := hp rfl
  simp only [C20, show T.pre 20 = Q20 from rfl, flatS, SP.flat, dvs, List.append_nil, List.cons_append, List.nil_append, Q20, U64, U32, I64, Big, W, wv, s64, WT, PR, MR, MB] at hp
  simp only [t20, C20, Tr.good, Fact.den, LX.den, DX.ls, DV.ls, DX.den, Bx.den, Ex.den, eo_add, eo_sub, eo_mul, eo_quo, eo_rem, eo_fdv, eo_mn, eo_mx, eo_land, eo_lor, eo_lxor, eo_landn, eo_shl, eo_shr, dvs, flatS, SP.flat, ST.flat, List.map_cons, List.map_nil, List.append_nil, List.cons_append, List.nil_append, ltb_t, ltb_f, leb_t, leb_f, eqb_t, eqb_f, decide_eq_true_eq, decide_eq_false_iff_not, Bool.not_eq_true', Bool.not_eq_false', Bool.and_eq_true, Bool.and_eq_false_imp, beq_iff_eq, beq_eq_false_iff_ne, bne_iff_ne, U64, U32, I64, Big, W, wv, Told, s64, WT, PR, MR, MB, Int.zero_mul, Int.zero_add, Int.add_zero, Int.mul_zero, IntKind.wrap_u64, IntKind.wrap_i64, IntKind.wrap_u32, ne_eq, forall_const, true_implies, show T.rel 20 = R20 from rfl, R20, show T.rel 49 = R49 from rfl, R49, show T.pre 20 = Q20 from rfl, Q20, show T.pre 49 = Q49 from rfl, Q49]
  revert hp
  generalize (E.r 0).i 0 = t
  generalize (E.r 0).i 1 = r
  generalize (E.r 0).i 2 = w
  generalize (E.r 0).i 3 = i
  generalize (E.r 0).i 4 = dt
  generalize (E.r 0).i 5 = dr
  generalize (E.r 0).i 6 = dw
  generalize (E.r 0).i 7 = u
  generalize (E.r 0).i 8 = q
  generalize (E.r 0).i 9 = v
  generalize (E.r 0).i 10 = j
  generalize (E.r 0).i 11 = du
  generalize (E.r 0).i 12 = dq
  generalize (E.r 0).i 13 = dv
  generalize (E.r 65543).i 0 = x7_0
  try simp only [mxI, mnI]
  try simp only [ltb, leb, eqb, Int.lt_irrefl, decide_false, Int.le_refl, decide_true]
  intro hp
  simp only [AHI]
  refine ⟨fun e => ?_, fun n => n hp⟩
  have c := pcI_of e
  rw [← c]
  clear e c
  repeat' (first | assumption | (intro (h : _ ∧ _); obtain ⟨h1, h2⟩ := h; (first | (subst h1; revert h2) | revert h1 h2)) | (intro h; (first | subst h | skip)) | refine And.intro ?_ ?_)
  all_goals try (show False; refine absurd ?_ ‹¬ _›)
  all_goals repeat' (first | assumption | refine And.intro ?_ ?_)
  all_goals first | omega | grind
end Go.Proofs.Ytpccjjfcklplaaa.Fn
namespace Go.Proofs.Ytpccjjfcklplaaa.Fn
open Go Go.RowKit Go.Proofs.Ytpccjjfcklplaaa.Sy
set_option linter.unusedVariables false
set_option linter.unusedSimpArgs false
set_option maxRecDepth 100000
def t22 : Tr :=
  .br (.f (.rel 49 [.num (.v 0 4), .num (.v 0 5), .num (.v 0 6), .num (.v 0 11), .num (.v 0 12), .num (.v 0 13)] 65543 [.int .i64]) <|
   .br (.f (.is (.lt (.v 65543 0) (.n 0)) true) <|
    .ok [.tru (.le (.n 0) (.n 0))])
   (.f (.is (.lt (.v 65543 0) (.n 0)) false) <|
    .br (.f (.is (.eq (.v 65543 0) (.n 0)) true) <|
     .br (.f (.rel 20 [.num (.v 0 0), .num (.v 0 1), .num (.v 0 2), .num (.v 0 3), .num (.v 0 4), .num (.v 0 5), .num (.v 0 6), .num (.v 0 7), .num (.v 0 8), .num (.v 0 9), .num (.v 0 10), .num (.v 0 11), .num (.v 0 12), .num (.v 0 13)] 65553 [.bool]) <|
      .ok [.tru (.v 65553 0)])
     (.f (.npre 20 [.num (.v 0 0), .num (.v 0 1), .num (.v 0 2), .num (.v 0 3), .num (.v 0 4), .num (.v 0 5), .num (.v 0 6), .num (.v 0 7), .num (.v 0 8), .num (.v 0 9), .num (.v 0 10), .num (.v 0 11), .num (.v 0 12), .num (.v 0 13)]) <|
      .bad))
    (.f (.is (.eq (.v 65543 0) (.n 0)) false) <|
     .ok [.tru (.lt (.n 0) (.n 0))])))
  (.f (.npre 49 [.num (.v 0 4), .num (.v 0 5), .num (.v 0 6), .num (.v 0 11), .num (.v 0 12), .num (.v 0 13)]) <|
   .bad)
theorem c22 : ConS Try.prog T C22 := con_tr (cs := [C20, C49]) (lcs := []) (known := []) (cons_cons c20 (cons_cons c49 (cons_nil _ _))) (Known.nil _) (N := 400) (d := 40) (t := t22) (by kernel_rfl) <| by
  intro E hl hp
  clear hl
  have hp := hp rfl
  simp only [C22, show T.pre 22 = Q22 from rfl, flatS, SP.flat, dvs, List.append_nil, List.cons_append, List.nil_append, Q22, U64, U32, I64, Big, W, wv, s64, WT, PR, MR, MB] at hp
  simp only [t22, C22, Tr.good, Fact.den, LX.den, DX.ls, DV.ls, DX.den, Bx.den, Ex.den, eo_add, eo_sub, eo_mul, eo_quo, eo_rem, eo_fdv, eo_mn, eo_mx, eo_land, eo_lor, eo_lxor, eo_landn, eo_shl, eo_shr, dvs, flatS, SP.flat, ST.flat, List.map_cons, List.map_nil, List.append_nil, List.cons_append, List.nil_append, ltb_t, ltb_f, leb_t, leb_f, eqb_t, eqb_f, decide_eq_true_eq, decide_eq_false_iff_not, Bool.not_eq_true', Bool.not_eq_false', Bool.and_eq_true, Bool.and_eq_false_imp, beq_iff_eq, beq_eq_false_iff_ne, bne_iff_ne, U64, U32, I64, Big, W, wv, Told, s64, WT, PR, MR, MB, Int.zero_mul, Int.zero_add, Int.add_zero, Int.mul_zero, IntKind.wrap_u64, IntKind.wrap_i64, IntKind.wrap_u32, ne_eq, forall_const, true_implies, show T.rel 20 = R20 from rfl, R20, show T.rel 22 = R22 from rfl, R22, show T.rel 49 = R49 from rfl, R49, show T.pre 20 = Q20 from rfl, Q20, show T.pre 22 = Q22 from rfl, Q22, show T.pre 49 = Q49 from rfl, Q49]
  revert hp
  generalize (E.r 0).i 0 = t
  generalize (E.r 0).i 1 = r
  generalize (E.r 0).i 2 = w
  generalize (E.r 0).i 3 = i
  generalize (E.r 0).i 4 = dt
  generalize (E.r 0).i 5 = dr
  generalize (E.r 0).i 6 = dw
  generalize (E.r 0).i 7 = u
  generalize (E.r 0).i 8 = q
  generalize (E.r 0).i 9 = v
  generalize (E.r 0).i 10 = j
  generalize (E.r 0).i 11 = du
  generalize (E.r 0).i 12 = dq
  generalize (E.r 0).i 13 = dv
  generalize (E.r 65543).i 0 = x7_0
  generalize (E.r 65553).c 0 = x17_0
  try simp only [mxI, mnI]
  try simp only [ltb, leb, eqb, Int.lt_irrefl, decide_false, Int.le_refl, decide_true]
  intro hp
  simp only [DUI]
  refine ⟨fun e => ?_, fun n => n ⟨hp.2.2.2.2.1, hp.2.2.2.2.2.1, hp.2.2.2.2.2.2.1, hp.2.2.2.2.2.2.2⟩⟩
  have c := pcI_of e
  rw [← c]
  clear e c
  repeat' (first | assumption | (intro (h : _ ∧ _); obtain ⟨h1, h2⟩ := h; (first | (subst h1; revert h2) | revert h1 h2)) | (intro h; (first | subst h | skip)) | refine And.intro ?_ ?_)
  all_goals try (show False; refine absurd ?_ ‹¬ _›)
  all_goals repeat' (first | assumption | refine And.intro ?_ ?_)
  all_goals first | omega | grind
end Go.Proofs.Ytpccjjfcklplaaa.Fn
