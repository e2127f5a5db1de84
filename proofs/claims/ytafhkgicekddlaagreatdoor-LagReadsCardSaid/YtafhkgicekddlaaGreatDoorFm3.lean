/- What is told of the functions, shown: turnstone/turnstoneref08.Right, turnstone/turnstoneref04.Right, turnstone/turnstoneref01.Cmp, turnstone/turnstoneref01.N, turnstone/turnstoneref01.Power, turnstone/turnstoneref03.Since, turnstone/turnstoneref04.Distance, turnstone/turnstoneref01.Is, turnstone/turnstoneref09.Over, turnstone/turnstoneref01.Wide, turnstone/turnstonelaw01.Of, turnstone/turnstonelaw08.Of, turnstone/turnstoneref01.Div. -/
import Derived.Test.YtafhkgicekddlaaGreatDoorFm2
namespace Go.Proofs.YtafhkgicekddlaaGreatDoor.Fn
open Go Go.RowKit Go.Proofs.YtafhkgicekddlaaGreatDoor.Sy
set_option linter.unusedVariables false
set_option linter.unusedSimpArgs false
set_option maxRecDepth 100000
def t69 : Tr :=
  .br (.f (.is (.eq (.v 0 4) (.n 0)) true) <|
   .br (.f (.is (.eq (.v 0 3) (.n 0)) true) <|
    .br (.f (.rel 40 [.tru (.v 0 1), .lst 0 2] 65547 [.int .i64]) <|
     .ok [.tru (.eq (.v 65547 0) (.n 0))])
    (.f (.npre 40 [.tru (.v 0 1), .lst 0 2]) <|
     .bad))
   (.f (.is (.eq (.v 0 3) (.n 0)) false) <|
    .ok [.tru (.lt (.n 0) (.n 0))]))
  (.f (.is (.eq (.v 0 4) (.n 0)) false) <|
   .br (.f (.is (.le (.n 1) (.v 0 4)) true) <|
    .br (.f (.is (.le (.v 0 4) (.n 32)) true) <|
     .br (.f (.is (.le (.wrap .u64 (.v 0 4)) (.v 0 3)) true) <|
      .ok [.tru (.le (.v 0 3) (.wrap .u64 (.bin .mul (.wrap .u64 (.v 0 4)) (.n 1048576))))])
     (.f (.is (.le (.wrap .u64 (.v 0 4)) (.v 0 3)) false) <|
      .ok [.tru (.lt (.n 0) (.n 0))]))
    (.f (.is (.le (.v 0 4) (.n 32)) false) <|
     .ok [.tru (.lt (.n 0) (.n 0))]))
   (.f (.is (.le (.n 1) (.v 0 4)) false) <|
    .ok [.tru (.lt (.n 0) (.n 0))]))
theorem c69 : ConS Tryz.prog T C69 := con_tr (cs := [C40]) (lcs := []) (known := []) (cons_cons c40 (cons_nil _ _)) (Known.nil _) (N := 400) (d := 40) (t := t69) (by kernel_rfl) <| by
  intro E hl hp
  have hl2 := hl 2 _ rfl
  clear hl
  have hp := hp rfl
  simp only [C69, show T.pre 69 = Q69 from rfl, flatS, SP.flat, dvs, List.append_nil, List.cons_append, List.nil_append, Q69, U64, U32, I64, Big, W, wv, s64, WT, PR, MR, MB] at hp
  simp only [t69, C69, Tr.good, Fact.den, LX.den, DX.ls, DV.ls, DX.den, Bx.den, Ex.den, eo_add, eo_sub, eo_mul, eo_quo, eo_rem, eo_fdv, eo_mn, eo_mx, eo_land, eo_lor, eo_lxor, eo_landn, eo_shl, eo_shr, dvs, flatS, SP.flat, ST.flat, List.map_cons, List.map_nil, List.append_nil, List.cons_append, List.nil_append, ltb_t, ltb_f, leb_t, leb_f, eqb_t, eqb_f, decide_eq_true_eq, decide_eq_false_iff_not, Bool.not_eq_true', Bool.not_eq_false', Bool.and_eq_true, Bool.and_eq_false_imp, beq_iff_eq, beq_eq_false_iff_ne, bne_iff_ne, U64, U32, I64, Big, W, wv, Told, s64, WT, PR, MR, MB, Int.zero_mul, Int.zero_add, Int.add_zero, Int.mul_zero, IntKind.wrap_u64, IntKind.wrap_i64, IntKind.wrap_u32, ne_eq, forall_const, true_implies, show T.rel 40 = R40 from rfl, R40, show T.rel 69 = R69 from rfl, R69, show T.pre 40 = Q40 from rfl, Q40, show T.pre 69 = Q69 from rfl, Q69]
  revert hp hl2
  generalize (E.r 0).i 0 = b
  generalize (E.r 0).c 1 = an
  generalize (E.r 0).l 2 = al
  generalize (E.r 0).i 3 = w
  generalize (E.r 0).i 4 = n
  generalize (E.r 65547).i 0 = x11_0
  try simp only [mxI, mnI]
  try simp only [ltb, leb, eqb, Int.lt_irrefl, decide_false, Int.le_refl, decide_true]
  intro hl hp
  simp only [Mq, MB]
  refine ⟨fun c => ⟨fun c2 => ⟨fun e => ?_, fun n => n hp.1⟩, fun c2 => ?_⟩, fun c => ⟨fun c2 => ⟨fun c3 => ⟨fun c4 => ?_, fun c4 => ?_⟩, fun c3 => ?_⟩, fun c2 => ?_⟩⟩
  · omega
  · refine ⟨fun h => h.elim, fun h => by omega⟩
  · have := hp.2
    omega
  all_goals refine ⟨fun h => h.elim, fun h => by have := hp.2; omega⟩
end Go.Proofs.YtafhkgicekddlaaGreatDoor.Fn
namespace Go.Proofs.YtafhkgicekddlaaGreatDoor.Fn
open Go Go.RowKit Go.Proofs.YtafhkgicekddlaaGreatDoor.Sy
set_option linter.unusedVariables false
set_option linter.unusedSimpArgs false
set_option maxRecDepth 100000
def t70 : Tr :=
  .br (.f (.is (.le (.n 1) (.v 0 2)) true) <|
   .br (.f (.is (.le (.v 0 2) (.n 1048576)) true) <|
    .ok [.tru (.lt (.v 0 1) (.v 0 2))])
   (.f (.is (.le (.v 0 2) (.n 1048576)) false) <|
    .ok [.tru (.lt (.n 0) (.n 0))]))
  (.f (.is (.le (.n 1) (.v 0 2)) false) <|
   .ok [.tru (.lt (.n 0) (.n 0))])
theorem c70 : ConS Tryz.prog T C70 := con_tr (cs := []) (lcs := []) (known := []) (cons_nil _ _) (Known.nil _) (N := 400) (d := 40) (t := t70) (by kernel_rfl) <| by
  intro E hl hp
  clear hl
  clear hp
  simp only [t70, C70, Tr.good, Fact.den, LX.den, DX.ls, DV.ls, DX.den, Bx.den, Ex.den, eo_add, eo_sub, eo_mul, eo_quo, eo_rem, eo_fdv, eo_mn, eo_mx, eo_land, eo_lor, eo_lxor, eo_landn, eo_shl, eo_shr, dvs, flatS, SP.flat, ST.flat, List.map_cons, List.map_nil, List.append_nil, List.cons_append, List.nil_append, ltb_t, ltb_f, leb_t, leb_f, eqb_t, eqb_f, decide_eq_true_eq, decide_eq_false_iff_not, Bool.not_eq_true', Bool.not_eq_false', Bool.and_eq_true, Bool.and_eq_false_imp, beq_iff_eq, beq_eq_false_iff_ne, bne_iff_ne, U64, U32, I64, Big, W, wv, Told, s64, WT, PR, MR, MB, Int.zero_mul, Int.zero_add, Int.add_zero, Int.mul_zero, IntKind.wrap_u64, IntKind.wrap_i64, IntKind.wrap_u32, ne_eq, forall_const, true_implies, show T.rel 70 = R70 from rfl, R70]
  generalize (E.r 0).i 0 = t
  generalize (E.r 0).i 1 = r
  generalize (E.r 0).i 2 = w
  try simp only [mxI, mnI]
  try simp only [ltb, leb, eqb, Int.lt_irrefl, decide_false, Int.le_refl, decide_true]
  simp only [Pq, PR]
  repeat' (first | intro _ | refine And.intro ?_ ?_ | refine Iff.intro ?_ ?_)
  all_goals first | omega | (simp_all; done) | (simp_all; omega)
end Go.Proofs.YtafhkgicekddlaaGreatDoor.Fn
namespace Go.Proofs.YtafhkgicekddlaaGreatDoor.Fn
open Go Go.RowKit Go.Proofs.YtafhkgicekddlaaGreatDoor.Sy
set_option linter.unusedVariables false
set_option linter.unusedSimpArgs false
set_option maxRecDepth 100000
def t22 : Tr :=
  .br (.f (.rel 60 [.tru (.v 0 0), .lst 0 1, .tru (.v 0 2), .lst 0 3] 65541 [.bool, .list [.int .i64]]) <|
   .br (.f (.rel 40 [.tru (.v 65541 0), .lst 65541 1] 65542 [.int .i64]) <|
    .ok [.num (.v 65542 0)])
   (.f (.npre 40 [.tru (.v 65541 0), .lst 65541 1]) <|
    .bad))
  (.f (.npre 60 [.tru (.v 0 0), .lst 0 1, .tru (.v 0 2), .lst 0 3]) <|
   .bad)
theorem c22 : ConS Tryz.prog T C22 := con_tr (cs := [C40, C60]) (lcs := []) (known := []) (cons_cons c40 (cons_cons c60 (cons_nil _ _))) (Known.nil _) (N := 400) (d := 40) (t := t22) (by kernel_rfl) <| by
  intro E hl hp
  have hl1 := hl 1 _ rfl
  have hl3 := hl 3 _ rfl
  clear hl
  have hp := hp rfl
  simp only [C22, show T.pre 22 = Q22 from rfl, flatS, SP.flat, dvs, List.append_nil, List.cons_append, List.nil_append, Q22, U64, U32, I64, Big, W, wv, s64, WT, PR, MR] at hp
  simp only [t22, C22, Tr.good, Fact.den, LX.den, DX.ls, DV.ls, DX.den, Bx.den, Ex.den, eo_add, eo_sub, eo_mul, eo_quo, eo_rem, eo_fdv, eo_mn, eo_mx, eo_land, eo_lor, eo_lxor, eo_landn, eo_shl, eo_shr, dvs, flatS, SP.flat, ST.flat, List.map_cons, List.map_nil, List.append_nil, List.cons_append, List.nil_append, ltb_t, ltb_f, leb_t, leb_f, eqb_t, eqb_f, decide_eq_true_eq, decide_eq_false_iff_not, Bool.not_eq_true', Bool.not_eq_false', Bool.and_eq_true, Bool.and_eq_false_imp, beq_iff_eq, beq_eq_false_iff_ne, bne_iff_ne, U64, U32, I64, Big, W, wv, Told, s64, WT, PR, MR, Int.zero_mul, Int.zero_add, Int.add_zero, Int.mul_zero, IntKind.wrap_u64, IntKind.wrap_i64, IntKind.wrap_u32, ne_eq, forall_const, true_implies, show T.rel 22 = R22 from rfl, R22, show T.rel 40 = R40 from rfl, R40, show T.rel 60 = R60 from rfl, R60, show T.pre 22 = Q22 from rfl, Q22, show T.pre 40 = Q40 from rfl, Q40, show T.pre 60 = Q60 from rfl, Q60]
  revert hp hl1 hl3
  generalize (E.r 0).c 0 = an
  generalize (E.r 0).l 1 = al
  generalize (E.r 0).c 2 = bn
  generalize (E.r 0).l 3 = bl
  generalize (E.r 65541).c 0 = x5_0
  generalize (E.r 65541).l 1 = x5_1
  generalize (E.r 65541).i 2 = x5_2
  generalize (E.r 65542).i 0 = x6_0
  try simp only [mxI, mnI]
  try simp only [ltb, leb, eqb, Int.lt_irrefl, decide_false, Int.le_refl, decide_true]
  intro hal hbl hp
  refine ⟨fun e => ⟨fun e2 => ?_, fun n => n e.1⟩, fun n => n hp⟩
  rw [e.2] at e2
  omega
end Go.Proofs.YtafhkgicekddlaaGreatDoor.Fn
namespace Go.Proofs.YtafhkgicekddlaaGreatDoor.Fn
open Go Go.RowKit Go.Proofs.YtafhkgicekddlaaGreatDoor.Sy
set_option linter.unusedVariables false
set_option linter.unusedSimpArgs false
set_option maxRecDepth 100000
def t23 : Tr :=
  .br (.f (.is (.le (.n 0) (.v 0 0)) true) <|
   .br (.f (.rel 59 [.num (.wrap .u64 (.v 0 0))] 65541 [.bool, .list [.int .i64]]) <|
    .ok [.tru (.v 65541 0), .lst 65541 1])
   (.f (.npre 59 [.num (.wrap .u64 (.v 0 0))]) <|
    .bad))
  (.f (.is (.le (.n 0) (.v 0 0)) false) <|
   .br (.f (.rel 59 [.num (.wrap .u64 (.bin .add (.wrap .u64 (.wrap .i64 (.bin .sub (.n 0) (.wrap .i64 (.bin .add (.v 0 0) (.n 1)))))) (.n 1)))] 65544 [.bool, .list [.int .i64]]) <|
    .f (.is (.eq (.v 65547 0) (.wrap .i64 (.bin .sub (.n 0) (.wrap .i64 (.bin .add (.v 0 0) (.n 1)))))) true) <|
     .ok [.tru (.le (.n 0) (.n 0)), .lst 65544 1])
   (.f (.npre 59 [.num (.wrap .u64 (.bin .add (.wrap .u64 (.wrap .i64 (.bin .sub (.n 0) (.wrap .i64 (.bin .add (.v 0 0) (.n 1)))))) (.n 1)))]) <|
    .bad))
theorem c23 : ConS Tryz.prog T C23 := con_tr (cs := [C59]) (lcs := []) (known := []) (cons_cons c59 (cons_nil _ _)) (Known.nil _) (N := 400) (d := 40) (t := t23) (by kernel_rfl) <| by
  intro E hl hp
  clear hl
  have hp := hp rfl
  simp only [C23, show T.pre 23 = Q23 from rfl, flatS, SP.flat, dvs, List.append_nil, List.cons_append, List.nil_append, Q23, U64, U32, I64, Big, W, wv, s64, WT, PR, MR] at hp
  simp only [t23, C23, Tr.good, Fact.den, LX.den, DX.ls, DV.ls, DX.den, Bx.den, Ex.den, eo_add, eo_sub, eo_mul, eo_quo, eo_rem, eo_fdv, eo_mn, eo_mx, eo_land, eo_lor, eo_lxor, eo_landn, eo_shl, eo_shr, dvs, flatS, SP.flat, ST.flat, List.map_cons, List.map_nil, List.append_nil, List.cons_append, List.nil_append, ltb_t, ltb_f, leb_t, leb_f, eqb_t, eqb_f, decide_eq_true_eq, decide_eq_false_iff_not, Bool.not_eq_true', Bool.not_eq_false', Bool.and_eq_true, Bool.and_eq_false_imp, beq_iff_eq, beq_eq_false_iff_ne, bne_iff_ne, U64, U32, I64, Big, W, wv, Told, s64, WT, PR, MR, Int.zero_mul, Int.zero_add, Int.add_zero, Int.mul_zero, IntKind.wrap_u64, IntKind.wrap_i64, IntKind.wrap_u32, ne_eq, forall_const, true_implies, show T.rel 23 = R23 from rfl, R23, show T.rel 59 = R59 from rfl, R59, show T.pre 23 = Q23 from rfl, Q23, show T.pre 59 = Q59 from rfl, Q59]
  revert hp
  generalize (E.r 0).i 0 = x
  generalize (E.r 65541).c 0 = x5_0
  generalize (E.r 65541).l 1 = x5_1
  generalize (E.r 65541).i 2 = x5_2
  generalize (E.r 65544).c 0 = x8_0
  generalize (E.r 65544).l 1 = x8_1
  generalize (E.r 65544).i 2 = x8_2
  generalize (E.r 65547).i 0 = x11_0
  try simp only [mxI, mnI]
  try simp only [ltb, leb, eqb, Int.lt_irrefl, decide_false, Int.le_refl, decide_true]
  intro hp
  refine ⟨fun h => ⟨fun e => ⟨e.1, by rw [e.2]; omega⟩, by omega⟩, fun h => ⟨fun e h2 => ?_, by omega⟩⟩
  have ev : (((0 - ((x + 1 + 9223372036854775808) % 18446744073709551616 - 9223372036854775808) + 9223372036854775808) % 18446744073709551616 - 9223372036854775808) % 18446744073709551616 + 1) % 18446744073709551616 = -x := by omega
  rw [ev] at e
  have pz := e.1.pos
  have b := bval_abs (n := true) e.1.1
  have b2 := bval_abs (n := x8_0) e.1.1
  have nz : x8_1.length ≠ 0 := (pz.1.1 (by omega)).1
  have e8 : x8_0 = false := (pz.1.1 (by omega)).2
  refine ⟨⟨e.1.1, e.1.2.1, fun h => absurd h nz⟩, ?_⟩
  rw [b.1 rfl, ← b2.2 e8]
  omega
end Go.Proofs.YtafhkgicekddlaaGreatDoor.Fn
namespace Go.Proofs.YtafhkgicekddlaaGreatDoor.Fn
open Go Go.RowKit Go.Proofs.YtafhkgicekddlaaGreatDoor.Sy
set_option linter.unusedVariables false
set_option linter.unusedSimpArgs false
set_option maxRecDepth 100000
def t97 : Tr :=
  .br (.f (.rel 23 [.num (.n 1)] 65537 [.bool, .list [.int .i64]]) <|
   .br (.f (.rel 109703 [.num (.v 0 0), .tru (.v 65537 0), .lst 65537 1, .num (.n 0)] 65541 [.bool, .list [.int .i64], .int .i64]) <|
    .br (.f (.is (.lt (.v 65541 2) (.v 0 0)) false) <|
     .ok [.tru (.v 65541 0), .lst 65541 1])
    (.f (.is (.lt (.v 65541 2) (.v 0 0)) true) <|
     .br (.f (.npre 42 [.tru (.v 65541 0), .lst 65541 1, .tru (.v 65541 0), .lst 65541 1]) <|
      .bad)
     (.f (.rel 42 [.tru (.v 65541 0), .lst 65541 1, .tru (.v 65541 0), .lst 65541 1] 65547 [.bool, .list [.int .i64]]) <|
      .br (.f (.nrel 109703 [.num (.v 0 0), .tru (.v 65537 0), .lst 65537 1, .num (.n 0)] [.tru (.v 65547 0), .lst 65547 1, .num (.wrap .i64 (.bin .add (.v 65541 2) (.n 1)))]) <|
       .bad)
      (.f (.ndec 109703 [.num (.v 0 0), .tru (.v 65537 0), .lst 65537 1, .num (.n 0)] [.tru (.v 65541 0), .lst 65541 1, .num (.v 65541 2)] [.tru (.v 65547 0), .lst 65547 1, .num (.wrap .i64 (.bin .add (.v 65541 2) (.n 1)))]) <|
       .bad))))
   (.f (.nrel 109703 [.num (.v 0 0), .tru (.v 65537 0), .lst 65537 1, .num (.n 0)] [.tru (.v 65537 0), .lst 65537 1, .num (.n 0)]) <|
    .bad))
  (.f (.npre 23 [.num (.n 1)]) <|
   .bad)
theorem c97 : ConS Tryz.prog T C97 := con_tr (cs := [C23, C42]) (lcs := [L109703]) (known := []) (cons_cons c23 (cons_cons c42 (cons_nil _ _))) (Known.nil _) (N := 400) (d := 40) (t := t97) (by kernel_rfl) <| by
  intro E hl hp
  clear hl
  have hp := hp rfl
  simp only [C97, show T.pre 97 = Q97 from rfl, flatS, SP.flat, dvs, List.append_nil, List.cons_append, List.nil_append, Q97, U64, U32, I64, Big, W, wv, s64, WT, PR, MR] at hp
  simp only [t97, C97, Tr.good, Fact.den, LX.den, DX.ls, DV.ls, DX.den, Bx.den, Ex.den, eo_add, eo_sub, eo_mul, eo_quo, eo_rem, eo_fdv, eo_mn, eo_mx, eo_land, eo_lor, eo_lxor, eo_landn, eo_shl, eo_shr, dvs, flatS, SP.flat, ST.flat, List.map_cons, List.map_nil, List.append_nil, List.cons_append, List.nil_append, ltb_t, ltb_f, leb_t, leb_f, eqb_t, eqb_f, decide_eq_true_eq, decide_eq_false_iff_not, Bool.not_eq_true', Bool.not_eq_false', Bool.and_eq_true, Bool.and_eq_false_imp, beq_iff_eq, beq_eq_false_iff_ne, bne_iff_ne, U64, U32, I64, Big, W, wv, Told, s64, WT, PR, MR, Int.zero_mul, Int.zero_add, Int.add_zero, Int.mul_zero, IntKind.wrap_u64, IntKind.wrap_i64, IntKind.wrap_u32, ne_eq, forall_const, true_implies, show T.rel 23 = R23 from rfl, R23, show T.rel 42 = R42 from rfl, R42, show T.rel 97 = R97 from rfl, R97, show T.rel 109703 = R109703 from rfl, R109703, show T.mu 109703 = M109703 from rfl, M109703, show T.pre 23 = Q23 from rfl, Q23, show T.pre 42 = Q42 from rfl, Q42, show T.pre 97 = Q97 from rfl, Q97]
  revert hp
  generalize (E.r 0).i 0 = n
  generalize (E.r 65537).c 0 = x1_0
  generalize (E.r 65537).l 1 = x1_1
  generalize (E.r 65537).i 2 = x1_2
  generalize (E.r 65541).c 0 = x5_0
  generalize (E.r 65541).l 1 = x5_1
  generalize (E.r 65541).i 2 = x5_2
  generalize (E.r 65541).i 3 = x5_3
  generalize (E.r 65547).c 0 = x11_0
  generalize (E.r 65547).l 1 = x11_1
  generalize (E.r 65547).i 2 = x11_2
  try simp only [mxI, mnI]
  try simp only [ltb, leb, eqb, Int.lt_irrefl, decide_false, Int.le_refl, decide_true]
  intro hp
  refine ⟨fun e1 => ⟨fun ⟨i0, i1, i2, i3⟩ => ⟨fun c => ?_, fun c => ?_⟩, fun n => n ⟨trivial, by omega, e1.1, e1.2⟩⟩, by omega⟩
  · have : x5_2 = n := by omega
    subst this
    exact ⟨i2, i3⟩
  · have p0 := p2_pos x5_2.toNat
    have p1 := p2_mono (show x5_2.toNat ≤ 200 by omega)
    rw [p2_200] at p1
    have ew : (x5_2 + 1 + 9223372036854775808) % 18446744073709551616 - 9223372036854775808 = x5_2 + 1 := by omega
    rw [ew]
    refine ⟨fun n => n ⟨⟨i2, by omega, by omega⟩, ⟨i2, by omega, by omega⟩⟩, fun e2 => ⟨fun n => n ⟨by omega, by omega, e2.1, ?_⟩, by omega⟩⟩
    rw [e2.2, i3, show (x5_2 + 1).toNat = x5_2.toNat + 1 by omega, Int.pow_succ]
    omega
end Go.Proofs.YtafhkgicekddlaaGreatDoor.Fn
namespace Go.Proofs.YtafhkgicekddlaaGreatDoor.Fn
open Go Go.RowKit Go.Proofs.YtafhkgicekddlaaGreatDoor.Sy
set_option linter.unusedVariables false
set_option linter.unusedSimpArgs false
set_option maxRecDepth 100000
def t96 : Tr :=
  .br (.f (.rel 59 [.num (.v 0 0)] 65538 [.bool, .list [.int .i64]]) <|
   .br (.f (.rel 59 [.num (.v 0 1)] 65540 [.bool, .list [.int .i64]]) <|
    .br (.f (.rel 60 [.tru (.v 65538 0), .lst 65538 1, .tru (.v 65540 0), .lst 65540 1] 65541 [.bool, .list [.int .i64]]) <|
     .br (.f (.rel 97 [.num (.n 63)] 65545 [.bool, .list [.int .i64]]) <|
      .br (.f (.rel 22 [.tru (.v 65541 0), .lst 65541 1, .tru (.v 65545 0), .lst 65545 1] 65546 [.int .i64]) <|
       .br (.f (.is (.le (.n 0) (.v 65546 0)) true) <|
        .br (.f (.rel 97 [.num (.n 64)] 65549 [.bool, .list [.int .i64]]) <|
         .br (.f (.rel 60 [.tru (.v 65541 0), .lst 65541 1, .tru (.v 65549 0), .lst 65549 1] 65550 [.bool, .list [.int .i64]]) <|
          .ok [.tru (.v 65550 0), .lst 65550 1])
         (.f (.npre 60 [.tru (.v 65541 0), .lst 65541 1, .tru (.v 65549 0), .lst 65549 1]) <|
          .bad))
        (.f (.npre 97 [.num (.n 64)]) <|
         .bad))
       (.f (.is (.le (.n 0) (.v 65546 0)) false) <|
        .br (.f (.rel 97 [.num (.n 63)] 65549 [.bool, .list [.int .i64]]) <|
         .br (.f (.rel 62 [.tru (.v 65549 0), .lst 65549 1] 65550 [.bool, .list [.int .i64]]) <|
          .br (.f (.rel 22 [.tru (.v 65541 0), .lst 65541 1, .tru (.v 65550 0), .lst 65550 1] 65551 [.int .i64]) <|
           .br (.f (.is (.lt (.v 65551 0) (.n 0)) true) <|
            .br (.f (.rel 97 [.num (.n 64)] 65554 [.bool, .list [.int .i64]]) <|
             .br (.f (.rel 42 [.tru (.v 65541 0), .lst 65541 1, .tru (.v 65554 0), .lst 65554 1] 65555 [.bool, .list [.int .i64]]) <|
              .ok [.tru (.v 65555 0), .lst 65555 1])
             (.f (.npre 42 [.tru (.v 65541 0), .lst 65541 1, .tru (.v 65554 0), .lst 65554 1]) <|
              .bad))
            (.f (.npre 97 [.num (.n 64)]) <|
             .bad))
           (.f (.is (.lt (.v 65551 0) (.n 0)) false) <|
            .ok [.tru (.v 65541 0), .lst 65541 1]))
          (.f (.npre 22 [.tru (.v 65541 0), .lst 65541 1, .tru (.v 65550 0), .lst 65550 1]) <|
           .bad))
         (.f (.npre 62 [.tru (.v 65549 0), .lst 65549 1]) <|
          .bad))
        (.f (.npre 97 [.num (.n 63)]) <|
         .bad)))
      (.f (.npre 22 [.tru (.v 65541 0), .lst 65541 1, .tru (.v 65545 0), .lst 65545 1]) <|
       .bad))
     (.f (.npre 97 [.num (.n 63)]) <|
      .bad))
    (.f (.npre 60 [.tru (.v 65538 0), .lst 65538 1, .tru (.v 65540 0), .lst 65540 1]) <|
     .bad))
   (.f (.npre 59 [.num (.v 0 1)]) <|
    .bad))
  (.f (.npre 59 [.num (.v 0 0)]) <|
   .bad)
theorem c96 : ConS Tryz.prog T C96 := con_tr (cs := [C22, C42, C59, C60, C62, C97]) (lcs := []) (known := []) (cons_cons c22 (cons_cons c42 (cons_cons c59 (cons_cons c60 (cons_cons c62 (cons_cons c97 (cons_nil _ _))))))) (Known.nil _) (N := 400) (d := 40) (t := t96) (by kernel_rfl) <| by
  intro E hl hp
  clear hl
  have hp := hp rfl
  simp only [C96, show T.pre 96 = Q96 from rfl, flatS, SP.flat, dvs, List.append_nil, List.cons_append, List.nil_append, Q96, U64, U32, I64, Big, W, wv, s64, WT, PR, MR, MB] at hp
  simp only [t96, C96, Tr.good, Fact.den, LX.den, DX.ls, DV.ls, DX.den, Bx.den, Ex.den, eo_add, eo_sub, eo_mul, eo_quo, eo_rem, eo_fdv, eo_mn, eo_mx, eo_land, eo_lor, eo_lxor, eo_landn, eo_shl, eo_shr, dvs, flatS, SP.flat, ST.flat, List.map_cons, List.map_nil, List.append_nil, List.cons_append, List.nil_append, ltb_t, ltb_f, leb_t, leb_f, eqb_t, eqb_f, decide_eq_true_eq, decide_eq_false_iff_not, Bool.not_eq_true', Bool.not_eq_false', Bool.and_eq_true, Bool.and_eq_false_imp, beq_iff_eq, beq_eq_false_iff_ne, bne_iff_ne, U64, U32, I64, Big, W, wv, Told, s64, WT, PR, MR, MB, Int.zero_mul, Int.zero_add, Int.add_zero, Int.mul_zero, IntKind.wrap_u64, IntKind.wrap_i64, IntKind.wrap_u32, ne_eq, forall_const, true_implies, show T.rel 22 = R22 from rfl, R22, show T.rel 42 = R42 from rfl, R42, show T.rel 59 = R59 from rfl, R59, show T.rel 60 = R60 from rfl, R60, show T.rel 62 = R62 from rfl, R62, show T.rel 96 = R96 from rfl, R96, show T.rel 97 = R97 from rfl, R97, show T.pre 22 = Q22 from rfl, Q22, show T.pre 42 = Q42 from rfl, Q42, show T.pre 59 = Q59 from rfl, Q59, show T.pre 60 = Q60 from rfl, Q60, show T.pre 62 = Q62 from rfl, Q62, show T.pre 96 = Q96 from rfl, Q96, show T.pre 97 = Q97 from rfl, Q97]
  revert hp
  generalize (E.r 0).i 0 = t
  generalize (E.r 0).i 1 = u
  generalize (E.r 65538).c 0 = x2_0
  generalize (E.r 65538).l 1 = x2_1
  generalize (E.r 65540).c 0 = x4_0
  generalize (E.r 65540).l 1 = x4_1
  generalize (E.r 65541).c 0 = x5_0
  generalize (E.r 65541).l 1 = x5_1
  generalize (E.r 65545).c 0 = x9_0
  generalize (E.r 65545).l 1 = x9_1
  generalize (E.r 65546).i 0 = x10_0
  generalize (E.r 65549).c 0 = x13_0
  generalize (E.r 65549).l 1 = x13_1
  generalize (E.r 65550).c 0 = x14_0
  generalize (E.r 65550).l 1 = x14_1
  generalize (E.r 65551).i 0 = x15_0
  generalize (E.r 65554).c 0 = x18_0
  generalize (E.r 65554).l 1 = x18_1
  generalize (E.r 65555).c 0 = x19_0
  generalize (E.r 65555).l 1 = x19_1
  try simp only [mxI, mnI]
  try simp only [ltb, leb, eqb, Int.lt_irrefl, decide_false, Int.le_refl, decide_true]
  intro hp
  rw [p2_63, p2_64]
  repeat' (first | assumption | (rintro ⟨_, _⟩) | intro _ | refine And.intro ?_ ?_)
  all_goals try refine absurd ?_ ‹¬ _›
  all_goals repeat' (first | assumption | refine And.intro ?_ ?_)
  all_goals first | omega | (simp_all; done) | (simp_all; omega)
end Go.Proofs.YtafhkgicekddlaaGreatDoor.Fn
namespace Go.Proofs.YtafhkgicekddlaaGreatDoor.Fn
open Go Go.RowKit Go.Proofs.YtafhkgicekddlaaGreatDoor.Sy
set_option linter.unusedVariables false
set_option linter.unusedSimpArgs false
set_option maxRecDepth 100000
def t71 : Tr :=
  .br (.f (.rel 59 [.num (.wrap .u64 (.v 0 2))] 65541 [.bool, .list [.int .i64]]) <|
   .br (.f (.rel 96 [.num (.v 0 0), .num (.v 0 3)] 65545 [.bool, .list [.int .i64]]) <|
    .br (.f (.rel 58 [.tru (.v 65541 0), .lst 65541 1, .tru (.v 65545 0), .lst 65545 1] 65546 [.bool, .list [.int .i64]]) <|
     .br (.f (.rel 59 [.num (.wrap .u64 (.v 0 1))] 65550 [.bool, .list [.int .i64]]) <|
      .br (.f (.rel 42 [.tru (.v 65546 0), .lst 65546 1, .tru (.v 65550 0), .lst 65550 1] 65551 [.bool, .list [.int .i64]]) <|
       .ok [.tru (.v 65551 0), .lst 65551 1])
      (.f (.npre 42 [.tru (.v 65546 0), .lst 65546 1, .tru (.v 65550 0), .lst 65550 1]) <|
       .bad))
     (.f (.npre 59 [.num (.wrap .u64 (.v 0 1))]) <|
      .bad))
    (.f (.npre 58 [.tru (.v 65541 0), .lst 65541 1, .tru (.v 65545 0), .lst 65545 1]) <|
     .bad))
   (.f (.npre 96 [.num (.v 0 0), .num (.v 0 3)]) <|
    .bad))
  (.f (.npre 59 [.num (.wrap .u64 (.v 0 2))]) <|
   .bad)
theorem c71 : ConS Tryz.prog T C71 := con_tr (cs := [C42, C58, C59, C96]) (lcs := []) (known := []) (cons_cons c42 (cons_cons c58 (cons_cons c59 (cons_cons c96 (cons_nil _ _))))) (Known.nil _) (N := 400) (d := 40) (t := t71) (by kernel_rfl) <| by
  intro E hl hp
  clear hl
  have hp := hp rfl
  simp only [C71, show T.pre 71 = Q71 from rfl, flatS, SP.flat, dvs, List.append_nil, List.cons_append, List.nil_append, Q71, U64, U32, I64, Big, W, wv, s64, WT, PR, MR, MB] at hp
  simp only [t71, C71, Tr.good, Fact.den, LX.den, DX.ls, DV.ls, DX.den, Bx.den, Ex.den, eo_add, eo_sub, eo_mul, eo_quo, eo_rem, eo_fdv, eo_mn, eo_mx, eo_land, eo_lor, eo_lxor, eo_landn, eo_shl, eo_shr, dvs, flatS, SP.flat, ST.flat, List.map_cons, List.map_nil, List.append_nil, List.cons_append, List.nil_append, ltb_t, ltb_f, leb_t, leb_f, eqb_t, eqb_f, decide_eq_true_eq, decide_eq_false_iff_not, Bool.not_eq_true', Bool.not_eq_false', Bool.and_eq_true, Bool.and_eq_false_imp, beq_iff_eq, beq_eq_false_iff_ne, bne_iff_ne, U64, U32, I64, Big, W, wv, Told, s64, WT, PR, MR, MB, Int.zero_mul, Int.zero_add, Int.add_zero, Int.mul_zero, IntKind.wrap_u64, IntKind.wrap_i64, IntKind.wrap_u32, ne_eq, forall_const, true_implies, show T.rel 42 = R42 from rfl, R42, show T.rel 58 = R58 from rfl, R58, show T.rel 59 = R59 from rfl, R59, show T.rel 71 = R71 from rfl, R71, show T.rel 96 = R96 from rfl, R96, show T.pre 42 = Q42 from rfl, Q42, show T.pre 58 = Q58 from rfl, Q58, show T.pre 59 = Q59 from rfl, Q59, show T.pre 71 = Q71 from rfl, Q71, show T.pre 96 = Q96 from rfl, Q96]
  revert hp
  generalize (E.r 0).i 0 = t
  generalize (E.r 0).i 1 = r
  generalize (E.r 0).i 2 = w
  generalize (E.r 0).i 3 = base
  generalize (E.r 65541).c 0 = x5_0
  generalize (E.r 65541).l 1 = x5_1
  generalize (E.r 65545).c 0 = x9_0
  generalize (E.r 65545).l 1 = x9_1
  generalize (E.r 65546).c 0 = x10_0
  generalize (E.r 65546).l 1 = x10_1
  generalize (E.r 65550).c 0 = x14_0
  generalize (E.r 65550).l 1 = x14_1
  generalize (E.r 65551).c 0 = x15_0
  generalize (E.r 65551).l 1 = x15_1
  try simp only [mxI, mnI]
  try simp only [ltb, leb, eqb, Int.lt_irrefl, decide_false, Int.le_refl, decide_true]
  intro hp
  have e1 : w % 18446744073709551616 = w := by omega
  have e2 : r % 18446744073709551616 = r := by omega
  have s := mul_abs (w := w) (s := (t - base + 9223372036854775808) % 18446744073709551616 - 9223372036854775808) (A := 4294967295) (by omega) (by omega) (by omega) (by omega)
  simp only [e1, e2]
  refine ⟨fun a1 => ⟨fun a2 => ⟨fun a3 => ⟨fun a4 => ⟨fun a5 => ⟨a5.1, ?_⟩, fun n => n ⟨⟨a3.1, ?_, ?_⟩, a4.1, by omega, by omega⟩⟩, by omega⟩, fun n => n ⟨⟨a1.1, by omega, by omega⟩, a2.1, by omega, by omega⟩⟩, by omega⟩, by omega⟩
  · rw [a5.2, a3.2, a1.2, a2.2, a4.2]
  · rw [a3.2, a1.2, a2.2]; omega
  · rw [a3.2, a1.2, a2.2]; omega
end Go.Proofs.YtafhkgicekddlaaGreatDoor.Fn
namespace Go.Proofs.YtafhkgicekddlaaGreatDoor.Fn
open Go Go.RowKit Go.Proofs.YtafhkgicekddlaaGreatDoor.Sy
set_option linter.unusedVariables false
set_option linter.unusedSimpArgs false
set_option maxRecDepth 100000
def t72 : Tr :=
  .br (.f (.rel 97 [.num (.n 127)] 65538 [.bool, .list [.int .i64]]) <|
   .br (.f (.rel 22 [.tru (.v 0 0), .lst 0 1, .tru (.v 65538 0), .lst 65538 1] 65543 [.int .i64]) <|
    .br (.f (.is (.lt (.v 65543 0) (.n 0)) true) <|
     .br (.f (.rel 62 [.tru (.v 65538 0), .lst 65538 1] 65548 [.bool, .list [.int .i64]]) <|
      .br (.f (.rel 22 [.tru (.v 0 0), .lst 0 1, .tru (.v 65548 0), .lst 65548 1] 65549 [.int .i64]) <|
       .ok [.tru (.le (.n 0) (.v 65549 0))])
      (.f (.npre 22 [.tru (.v 0 0), .lst 0 1, .tru (.v 65548 0), .lst 65548 1]) <|
       .bad))
     (.f (.npre 62 [.tru (.v 65538 0), .lst 65538 1]) <|
      .bad))
    (.f (.is (.lt (.v 65543 0) (.n 0)) false) <|
     .ok [.tru (.lt (.n 0) (.n 0))]))
   (.f (.npre 22 [.tru (.v 0 0), .lst 0 1, .tru (.v 65538 0), .lst 65538 1]) <|
    .bad))
  (.f (.npre 97 [.num (.n 127)]) <|
   .bad)
theorem c72 : ConS Tryz.prog T C72 := con_tr (cs := [C22, C62, C97]) (lcs := []) (known := []) (cons_cons c22 (cons_cons c62 (cons_cons c97 (cons_nil _ _)))) (Known.nil _) (N := 400) (d := 40) (t := t72) (by kernel_rfl) <| by
  intro E hl hp
  have hl1 := hl 1 _ rfl
  clear hl
  have hp := hp rfl
  simp only [C72, show T.pre 72 = Q72 from rfl, flatS, SP.flat, dvs, List.append_nil, List.cons_append, List.nil_append, Q72, U64, U32, I64, Big, W, wv, s64, WT, PR, MR, MB] at hp
  simp only [t72, C72, Tr.good, Fact.den, LX.den, DX.ls, DV.ls, DX.den, Bx.den, Ex.den, eo_add, eo_sub, eo_mul, eo_quo, eo_rem, eo_fdv, eo_mn, eo_mx, eo_land, eo_lor, eo_lxor, eo_landn, eo_shl, eo_shr, dvs, flatS, SP.flat, ST.flat, List.map_cons, List.map_nil, List.append_nil, List.cons_append, List.nil_append, ltb_t, ltb_f, leb_t, leb_f, eqb_t, eqb_f, decide_eq_true_eq, decide_eq_false_iff_not, Bool.not_eq_true', Bool.not_eq_false', Bool.and_eq_true, Bool.and_eq_false_imp, beq_iff_eq, beq_eq_false_iff_ne, bne_iff_ne, U64, U32, I64, Big, W, wv, Told, s64, WT, PR, MR, MB, Int.zero_mul, Int.zero_add, Int.add_zero, Int.mul_zero, IntKind.wrap_u64, IntKind.wrap_i64, IntKind.wrap_u32, ne_eq, forall_const, true_implies, show T.rel 22 = R22 from rfl, R22, show T.rel 62 = R62 from rfl, R62, show T.rel 72 = R72 from rfl, R72, show T.rel 97 = R97 from rfl, R97, show T.pre 22 = Q22 from rfl, Q22, show T.pre 62 = Q62 from rfl, Q62, show T.pre 72 = Q72 from rfl, Q72, show T.pre 97 = Q97 from rfl, Q97]
  revert hp hl1
  generalize (E.r 0).c 0 = n
  generalize (E.r 0).l 1 = l
  generalize (E.r 65538).c 0 = x2_0
  generalize (E.r 65538).l 1 = x2_1
  generalize (E.r 65543).i 0 = x7_0
  generalize (E.r 65548).c 0 = x12_0
  generalize (E.r 65548).l 1 = x12_1
  generalize (E.r 65549).i 0 = x13_0
  try simp only [mxI, mnI]
  try simp only [ltb, leb, eqb, Int.lt_irrefl, decide_false, Int.le_refl, decide_true]
  intro hl hp
  simp only [Bi, Big]
  rw [p2_127]
  refine ⟨fun e1 => ⟨fun e2 => ⟨fun c => ⟨fun e3 => ⟨fun e4 => ?_, fun n => n ⟨hp, e3.1, by omega, by omega⟩⟩, fun n => n ⟨e1.1, by omega, by omega⟩⟩, fun c => ?_⟩, fun n => n ⟨hp, e1.1, by omega, by omega⟩⟩, by omega⟩
  · omega
  · refine ⟨fun h => h.elim, fun h => ?_⟩
    omega
end Go.Proofs.YtafhkgicekddlaaGreatDoor.Fn
namespace Go.Proofs.YtafhkgicekddlaaGreatDoor.Fn
open Go Go.RowKit Go.Proofs.YtafhkgicekddlaaGreatDoor.Sy
set_option linter.unusedVariables false
set_option linter.unusedSimpArgs false
set_option maxRecDepth 100000
def t37 : Tr :=
  .br (.f (.rel 69 [.num (.v 0 0), .tru (.v 0 1), .lst 0 2, .num (.v 0 3), .num (.v 0 4)] 65541 [.bool]) <|
   .br (.f (.is (.v 65541 0) false) <|
    .ok [.tru (.lt (.n 0) (.n 0)), .rows [], .tru (.lt (.n 0) (.n 0))])
   (.f (.is (.v 65541 0) true) <|
    .br (.f (.is (.eq (.v 0 4) (.n 0)) true) <|
     .ok [.tru (.lt (.n 0) (.n 0)), .rows [], .tru (.lt (.n 0) (.n 0))])
    (.f (.is (.eq (.v 0 4) (.n 0)) false) <|
     .f (.rel 70 [.num (.v 0 5), .num (.v 0 6), .num (.v 0 7)] 65550 [.bool]) <|
      .br (.f (.is (.v 65550 0) false) <|
       .ok [.tru (.lt (.n 0) (.n 0)), .rows [], .tru (.lt (.n 0) (.n 0))])
      (.f (.is (.v 65550 0) true) <|
       .br (.f (.rel 59 [.num (.wrap .u64 (.v 0 7))] 65558 [.bool, .list [.int .i64]]) <|
        .br (.f (.rel 58 [.tru (.v 0 1), .lst 0 2, .tru (.v 65558 0), .lst 65558 1] 65559 [.bool, .list [.int .i64]]) <|
         .br (.f (.rel 71 [.num (.v 0 5), .num (.v 0 6), .num (.v 0 7), .num (.v 0 0)] 65565 [.bool, .list [.int .i64]]) <|
          .br (.f (.rel 59 [.num (.v 0 3)] 65568 [.bool, .list [.int .i64]]) <|
           .br (.f (.rel 58 [.tru (.v 65565 0), .lst 65565 1, .tru (.v 65568 0), .lst 65568 1] 65569 [.bool, .list [.int .i64]]) <|
            .br (.f (.rel 60 [.tru (.v 65559 0), .lst 65559 1, .tru (.v 65569 0), .lst 65569 1] 65574 [.bool, .list [.int .i64]]) <|
             .br (.f (.rel 72 [.tru (.v 65559 0), .lst 65559 1] 65578 [.bool]) <|
              .br (.f (.is (.v 65578 0) false) <|
               .ok [.tru (.lt (.n 0) (.n 0)), .rows [], .tru (.lt (.n 0) (.n 0))])
              (.f (.is (.v 65578 0) true) <|
               .br (.f (.rel 72 [.tru (.v 65569 0), .lst 65569 1] 65582 [.bool]) <|
                .br (.f (.is (.v 65582 0) false) <|
                 .ok [.tru (.lt (.n 0) (.n 0)), .rows [], .tru (.lt (.n 0) (.n 0))])
                (.f (.is (.v 65582 0) true) <|
                 .br (.f (.rel 72 [.tru (.v 65574 0), .lst 65574 1] 65587 [.bool]) <|
                  .br (.f (.is (.v 65587 0) false) <|
                   .ok [.tru (.lt (.n 0) (.n 0)), .rows [], .tru (.lt (.n 0) (.n 0))])
                  (.f (.is (.v 65587 0) true) <|
                   .ok [.tru (.v 65574 0), .lst 65574 1, .tru (.le (.n 0) (.n 0))]))
                 (.f (.npre 72 [.tru (.v 65574 0), .lst 65574 1]) <|
                  .bad)))
               (.f (.npre 72 [.tru (.v 65569 0), .lst 65569 1]) <|
                .bad)))
             (.f (.npre 72 [.tru (.v 65559 0), .lst 65559 1]) <|
              .bad))
            (.f (.npre 60 [.tru (.v 65559 0), .lst 65559 1, .tru (.v 65569 0), .lst 65569 1]) <|
             .bad))
           (.f (.npre 58 [.tru (.v 65565 0), .lst 65565 1, .tru (.v 65568 0), .lst 65568 1]) <|
            .bad))
          (.f (.npre 59 [.num (.v 0 3)]) <|
           .bad))
         (.f (.npre 71 [.num (.v 0 5), .num (.v 0 6), .num (.v 0 7), .num (.v 0 0)]) <|
          .bad))
        (.f (.npre 58 [.tru (.v 0 1), .lst 0 2, .tru (.v 65558 0), .lst 65558 1]) <|
         .bad))
       (.f (.npre 59 [.num (.wrap .u64 (.v 0 7))]) <|
        .bad)))))
  (.f (.npre 69 [.num (.v 0 0), .tru (.v 0 1), .lst 0 2, .num (.v 0 3), .num (.v 0 4)]) <|
   .bad)
theorem c37 : ConS Tryz.prog T C37 := con_tr (cs := [C58, C59, C60, C69, C70, C71, C72]) (lcs := []) (known := []) (cons_cons c58 (cons_cons c59 (cons_cons c60 (cons_cons c69 (cons_cons c70 (cons_cons c71 (cons_cons c72 (cons_nil _ _)))))))) (Known.nil _) (N := 400) (d := 40) (t := t37) (by kernel_rfl) <| by
  intro E hl hp
  have hl2 := hl 2 _ rfl
  clear hl
  have hp := hp rfl
  simp only [C37, show T.pre 37 = Q37 from rfl, flatS, SP.flat, dvs, List.append_nil, List.cons_append, List.nil_append, Q37, U64, U32, I64, Big, W, wv, s64, WT, PR, MR, MB] at hp
  simp only [t37, C37, Tr.good, Fact.den, LX.den, DX.ls, DV.ls, DX.den, Bx.den, Ex.den, eo_add, eo_sub, eo_mul, eo_quo, eo_rem, eo_fdv, eo_mn, eo_mx, eo_land, eo_lor, eo_lxor, eo_landn, eo_shl, eo_shr, dvs, flatS, SP.flat, ST.flat, List.map_cons, List.map_nil, List.append_nil, List.cons_append, List.nil_append, ltb_t, ltb_f, leb_t, leb_f, eqb_t, eqb_f, decide_eq_true_eq, decide_eq_false_iff_not, Bool.not_eq_true', Bool.not_eq_false', Bool.and_eq_true, Bool.and_eq_false_imp, beq_iff_eq, beq_eq_false_iff_ne, bne_iff_ne, U64, U32, I64, Big, W, wv, Told, s64, WT, PR, MR, MB, Int.zero_mul, Int.zero_add, Int.add_zero, Int.mul_zero, IntKind.wrap_u64, IntKind.wrap_i64, IntKind.wrap_u32, ne_eq, forall_const, true_implies, show T.rel 37 = R37 from rfl, R37, show T.rel 58 = R58 from rfl, R58, show T.rel 59 = R59 from rfl, R59, show T.rel 60 = R60 from rfl, R60, show T.rel 69 = R69 from rfl, R69, show T.rel 70 = R70 from rfl, R70, show T.rel 71 = R71 from rfl, R71, show T.rel 72 = R72 from rfl, R72, show T.pre 37 = Q37 from rfl, Q37, show T.pre 58 = Q58 from rfl, Q58, show T.pre 59 = Q59 from rfl, Q59, show T.pre 60 = Q60 from rfl, Q60, show T.pre 69 = Q69 from rfl, Q69, show T.pre 71 = Q71 from rfl, Q71, show T.pre 72 = Q72 from rfl, Q72]
  revert hp hl2
  generalize (E.r 0).i 0 = b
  generalize (E.r 0).c 1 = an
  generalize (E.r 0).l 2 = al
  generalize (E.r 0).i 3 = w
  generalize (E.r 0).i 4 = n
  generalize (E.r 0).i 5 = t
  generalize (E.r 0).i 6 = r
  generalize (E.r 0).i 7 = v
  generalize (E.r 65541).c 0 = x5_0
  generalize (E.r 65550).c 0 = x14_0
  generalize (E.r 65558).c 0 = x22_0
  generalize (E.r 65558).l 1 = x22_1
  generalize (E.r 65559).c 0 = x23_0
  generalize (E.r 65559).l 1 = x23_1
  generalize (E.r 65565).c 0 = x29_0
  generalize (E.r 65565).l 1 = x29_1
  generalize (E.r 65568).c 0 = x32_0
  generalize (E.r 65568).l 1 = x32_1
  generalize (E.r 65569).c 0 = x33_0
  generalize (E.r 65569).l 1 = x33_1
  generalize (E.r 65574).c 0 = x38_0
  generalize (E.r 65574).l 1 = x38_1
  generalize (E.r 65578).c 0 = x42_0
  generalize (E.r 65582).c 0 = x46_0
  generalize (E.r 65587).c 0 = x51_0
  simp only [Bg]
  try generalize bval an al = an_v
  try generalize bval x22_0 x22_1 = y22_0
  try generalize bval x23_0 x23_1 = y23_0
  try generalize bval x29_0 x29_1 = y29_0
  try generalize bval x32_0 x32_1 = y32_0
  try generalize bval x33_0 x33_1 = y33_0
  try generalize bval x38_0 x38_1 = y38_0
  try simp only [mxI, mnI]
  try simp only [ltb, leb, eqb, Int.lt_irrefl, decide_false, Int.le_refl, decide_true]
  simp only [bval_nil]
  intro hl hp
  have B0 := BOK_nil
  have e1 : v % 18446744073709551616 = v := by omega
  simp only [e1]
  obtain ⟨hb, hA, hq⟩ := hp
  have hA' : -170141183460469231731687303715884105728 ≤ an_v ∧ an_v < 170141183460469231731687303715884105728 := hA
  have s := mul_abs (w := v) (s := (t - b + 9223372036854775808) % 18446744073709551616 - 9223372036854775808) (A := 4294967295) (by omega) (by omega) (by omega) (by omega)
  have p1 := mul_le2 (a := an_v) (b := v) (X := 170141183460469231731687303715884105728) (Y := 4294967296) (by omega) (by omega) (by omega) (by omega)
  have p2 := mul_le2 (a := v * ((t - b + 9223372036854775808) % 18446744073709551616 - 9223372036854775808) + r) (b := w) (X := 170141183460469231731687303715884105728) (Y := 18446744073709551616) (by omega) (by omega) (by omega) (by omega)
  repeat' (first | assumption | (intro (h : _ ∧ _); obtain ⟨_, rfl⟩ := h) | (intro (h : _ ∧ _); obtain ⟨_, _⟩ := h) | intro _ | refine And.intro ?_ ?_)
  all_goals try (show False; refine absurd ?_ ‹¬ _›)
  all_goals repeat' (first | assumption | refine And.intro ?_ ?_)
  all_goals first | omega | (simp_all; done) | (simp_all; omega)
end Go.Proofs.YtafhkgicekddlaaGreatDoor.Fn
namespace Go.Proofs.YtafhkgicekddlaaGreatDoor.Fn
open Go Go.RowKit Go.Proofs.YtafhkgicekddlaaGreatDoor.Sy
set_option linter.unusedVariables false
set_option linter.unusedSimpArgs false
set_option maxRecDepth 100000
def t63 : Tr :=
  .br (.f (.rel 59 [.num (.n 4294967296)] 65537 [.bool, .list [.int .i64]]) <|
   .br (.f (.rel 59 [.num (.n 4294967296)] 65538 [.bool, .list [.int .i64]]) <|
    .br (.f (.rel 58 [.tru (.v 65537 0), .lst 65537 1, .tru (.v 65538 0), .lst 65538 1] 65539 [.bool, .list [.int .i64]]) <|
     .br (.f (.rel 23 [.num (.v 0 0)] 65543 [.bool, .list [.int .i64]]) <|
      .br (.f (.rel 58 [.tru (.v 65543 0), .lst 65543 1, .tru (.v 65539 0), .lst 65539 1] 65545 [.bool, .list [.int .i64]]) <|
       .br (.f (.rel 59 [.num (.v 0 1)] 65547 [.bool, .list [.int .i64]]) <|
        .br (.f (.rel 42 [.tru (.v 65545 0), .lst 65545 1, .tru (.v 65547 0), .lst 65547 1] 65548 [.bool, .list [.int .i64]]) <|
         .ok [.tru (.v 65548 0), .lst 65548 1])
        (.f (.npre 42 [.tru (.v 65545 0), .lst 65545 1, .tru (.v 65547 0), .lst 65547 1]) <|
         .bad))
       (.f (.npre 59 [.num (.v 0 1)]) <|
        .bad))
      (.f (.npre 58 [.tru (.v 65543 0), .lst 65543 1, .tru (.v 65539 0), .lst 65539 1]) <|
       .bad))
     (.f (.npre 23 [.num (.v 0 0)]) <|
      .bad))
    (.f (.npre 58 [.tru (.v 65537 0), .lst 65537 1, .tru (.v 65538 0), .lst 65538 1]) <|
     .bad))
   (.f (.npre 59 [.num (.n 4294967296)]) <|
    .bad))
  (.f (.npre 59 [.num (.n 4294967296)]) <|
   .bad)
theorem c63 : ConS Tryz.prog T C63 := con_tr (cs := [C23, C42, C58, C59]) (lcs := []) (known := []) (cons_cons c23 (cons_cons c42 (cons_cons c58 (cons_cons c59 (cons_nil _ _))))) (Known.nil _) (N := 400) (d := 40) (t := t63) (by kernel_rfl) <| by
  intro E hl hp
  clear hl
  have hp := hp rfl
  simp only [C63, show T.pre 63 = Q63 from rfl, flatS, SP.flat, dvs, List.append_nil, List.cons_append, List.nil_append, Q63, U64, U32, I64, Big, W, wv, s64, WT, PR, MR] at hp
  simp only [t63, C63, Tr.good, Fact.den, LX.den, DX.ls, DV.ls, DX.den, Bx.den, Ex.den, eo_add, eo_sub, eo_mul, eo_quo, eo_rem, eo_fdv, eo_mn, eo_mx, eo_land, eo_lor, eo_lxor, eo_landn, eo_shl, eo_shr, dvs, flatS, SP.flat, ST.flat, List.map_cons, List.map_nil, List.append_nil, List.cons_append, List.nil_append, ltb_t, ltb_f, leb_t, leb_f, eqb_t, eqb_f, decide_eq_true_eq, decide_eq_false_iff_not, Bool.not_eq_true', Bool.not_eq_false', Bool.and_eq_true, Bool.and_eq_false_imp, beq_iff_eq, beq_eq_false_iff_ne, bne_iff_ne, U64, U32, I64, Big, W, wv, Told, s64, WT, PR, MR, Int.zero_mul, Int.zero_add, Int.add_zero, Int.mul_zero, IntKind.wrap_u64, IntKind.wrap_i64, IntKind.wrap_u32, ne_eq, forall_const, true_implies, show T.rel 23 = R23 from rfl, R23, show T.rel 42 = R42 from rfl, R42, show T.rel 58 = R58 from rfl, R58, show T.rel 59 = R59 from rfl, R59, show T.rel 63 = R63 from rfl, R63, show T.pre 23 = Q23 from rfl, Q23, show T.pre 42 = Q42 from rfl, Q42, show T.pre 58 = Q58 from rfl, Q58, show T.pre 59 = Q59 from rfl, Q59, show T.pre 63 = Q63 from rfl, Q63]
  revert hp
  generalize (E.r 0).i 0 = h
  generalize (E.r 0).i 1 = l
  generalize (E.r 65537).c 0 = x1_0
  generalize (E.r 65537).l 1 = x1_1
  generalize (E.r 65537).i 2 = x1_2
  generalize (E.r 65538).c 0 = x2_0
  generalize (E.r 65538).l 1 = x2_1
  generalize (E.r 65538).i 2 = x2_2
  generalize (E.r 65539).c 0 = x3_0
  generalize (E.r 65539).l 1 = x3_1
  generalize (E.r 65539).i 2 = x3_2
  generalize (E.r 65543).c 0 = x7_0
  generalize (E.r 65543).l 1 = x7_1
  generalize (E.r 65543).i 2 = x7_2
  generalize (E.r 65545).c 0 = x9_0
  generalize (E.r 65545).l 1 = x9_1
  generalize (E.r 65545).i 2 = x9_2
  generalize (E.r 65547).c 0 = x11_0
  generalize (E.r 65547).l 1 = x11_1
  generalize (E.r 65547).i 2 = x11_2
  generalize (E.r 65548).c 0 = x12_0
  generalize (E.r 65548).l 1 = x12_1
  generalize (E.r 65548).i 2 = x12_2
  try simp only [mxI, mnI]
  try simp only [ltb, leb, eqb, Int.lt_irrefl, decide_false, Int.le_refl, decide_true]
  intro hp
  refine ⟨fun e1 => ⟨fun e2 => ⟨fun e3 => ⟨fun e4 => ⟨fun e5 => ⟨fun e6 => ⟨fun e7 => ⟨e7.1, by rw [e7.2, e5.2, e6.2, e4.2, e3.2, e1.2, e2.2]; omega⟩, fun n => n ⟨⟨e5.1, by rw [e5.2, e4.2, e3.2, e1.2, e2.2]; omega, by rw [e5.2, e4.2, e3.2, e1.2, e2.2]; omega⟩, e6.1, by omega, by omega⟩⟩, by omega⟩, fun n => n ⟨⟨e4.1, by omega, by omega⟩, e3.1, by rw [e3.2, e1.2, e2.2]; omega, by rw [e3.2, e1.2, e2.2]; omega⟩⟩, by omega⟩, fun n => n ⟨⟨e1.1, by omega, by omega⟩, e2.1, by omega, by omega⟩⟩, by omega⟩, by omega⟩
end Go.Proofs.YtafhkgicekddlaaGreatDoor.Fn
namespace Go.Proofs.YtafhkgicekddlaaGreatDoor.Fn
open Go Go.RowKit Go.Proofs.YtafhkgicekddlaaGreatDoor.Sy
set_option linter.unusedVariables false
set_option linter.unusedSimpArgs false
set_option maxRecDepth 100000
def t26 : Tr :=
  .br (.f (.rel 63 [.num (.v 0 0), .num (.v 0 1)] 65542 [.bool, .list [.int .i64]]) <|
   .ok [.tru (.v 65542 0), .lst 65542 1])
  (.f (.npre 63 [.num (.v 0 0), .num (.v 0 1)]) <|
   .bad)
theorem c26 : ConS Tryz.prog T C26 := con_tr (cs := [C63]) (lcs := []) (known := []) (cons_cons c63 (cons_nil _ _)) (Known.nil _) (N := 400) (d := 40) (t := t26) (by kernel_rfl) <| by
  intro E hl hp
  clear hl
  have hp := hp rfl
  simp only [C26, show T.pre 26 = Q26 from rfl, flatS, SP.flat, dvs, List.append_nil, List.cons_append, List.nil_append, Q26, U64, U32, I64, Big, W, wv, s64, WT, PR, MR, MB] at hp
  simp only [t26, C26, Tr.good, Fact.den, LX.den, DX.ls, DV.ls, DX.den, Bx.den, Ex.den, eo_add, eo_sub, eo_mul, eo_quo, eo_rem, eo_fdv, eo_mn, eo_mx, eo_land, eo_lor, eo_lxor, eo_landn, eo_shl, eo_shr, dvs, flatS, SP.flat, ST.flat, List.map_cons, List.map_nil, List.append_nil, List.cons_append, List.nil_append, ltb_t, ltb_f, leb_t, leb_f, eqb_t, eqb_f, decide_eq_true_eq, decide_eq_false_iff_not, Bool.not_eq_true', Bool.not_eq_false', Bool.and_eq_true, Bool.and_eq_false_imp, beq_iff_eq, beq_eq_false_iff_ne, bne_iff_ne, U64, U32, I64, Big, W, wv, Told, s64, WT, PR, MR, MB, Int.zero_mul, Int.zero_add, Int.add_zero, Int.mul_zero, IntKind.wrap_u64, IntKind.wrap_i64, IntKind.wrap_u32, ne_eq, forall_const, true_implies, show T.rel 26 = R26 from rfl, R26, show T.rel 63 = R63 from rfl, R63, show T.pre 26 = Q26 from rfl, Q26, show T.pre 63 = Q63 from rfl, Q63]
  revert hp
  generalize (E.r 0).i 0 = h
  generalize (E.r 0).i 1 = l
  generalize (E.r 65542).c 0 = x6_0
  generalize (E.r 65542).l 1 = x6_1
  try simp only [mxI, mnI]
  try simp only [ltb, leb, eqb, Int.lt_irrefl, decide_false, Int.le_refl, decide_true]
  intro hp
  exact ⟨fun h => h, fun n => n hp⟩
end Go.Proofs.YtafhkgicekddlaaGreatDoor.Fn
namespace Go.Proofs.YtafhkgicekddlaaGreatDoor.Fn
open Go Go.RowKit Go.Proofs.YtafhkgicekddlaaGreatDoor.Sy
set_option linter.unusedVariables false
set_option linter.unusedSimpArgs false
set_option maxRecDepth 100000
def t38 : Tr :=
  .br (.f (.rel 26 [.num (.v 0 1), .num (.v 0 2)] 65542 [.bool, .list [.int .i64]]) <|
   .ok [.num (.v 0 0), .tru (.v 65542 0), .lst 65542 1, .num (.v 0 3), .num (.v 0 4)])
  (.f (.npre 26 [.num (.v 0 1), .num (.v 0 2)]) <|
   .bad)
theorem c38 : ConS Tryz.prog T C38 := con_tr (cs := [C26]) (lcs := []) (known := []) (cons_cons c26 (cons_nil _ _)) (Known.nil _) (N := 400) (d := 40) (t := t38) (by kernel_rfl) <| by
  intro E hl hp
  clear hl
  have hp := hp rfl
  simp only [C38, show T.pre 38 = Q38 from rfl, flatS, SP.flat, dvs, List.append_nil, List.cons_append, List.nil_append, Q38, U64, U32, I64, Big, W, wv, s64, WT, PR, MR, MB] at hp
  simp only [t38, C38, Tr.good, Fact.den, LX.den, DX.ls, DV.ls, DX.den, Bx.den, Ex.den, eo_add, eo_sub, eo_mul, eo_quo, eo_rem, eo_fdv, eo_mn, eo_mx, eo_land, eo_lor, eo_lxor, eo_landn, eo_shl, eo_shr, dvs, flatS, SP.flat, ST.flat, List.map_cons, List.map_nil, List.append_nil, List.cons_append, List.nil_append, ltb_t, ltb_f, leb_t, leb_f, eqb_t, eqb_f, decide_eq_true_eq, decide_eq_false_iff_not, Bool.not_eq_true', Bool.not_eq_false', Bool.and_eq_true, Bool.and_eq_false_imp, beq_iff_eq, beq_eq_false_iff_ne, bne_iff_ne, U64, U32, I64, Big, W, wv, Told, s64, WT, PR, MR, MB, Int.zero_mul, Int.zero_add, Int.add_zero, Int.mul_zero, IntKind.wrap_u64, IntKind.wrap_i64, IntKind.wrap_u32, ne_eq, forall_const, true_implies, show T.rel 26 = R26 from rfl, R26, show T.rel 38 = R38 from rfl, R38, show T.pre 26 = Q26 from rfl, Q26, show T.pre 38 = Q38 from rfl, Q38]
  revert hp
  generalize (E.r 0).i 0 = b
  generalize (E.r 0).i 1 = h
  generalize (E.r 0).i 2 = l
  generalize (E.r 0).i 3 = w
  generalize (E.r 0).i 4 = n
  generalize (E.r 65542).c 0 = x6_0
  generalize (E.r 65542).l 1 = x6_1
  try simp only [mxI, mnI]
  try simp only [ltb, leb, eqb, Int.lt_irrefl, decide_false, Int.le_refl, decide_true]
  intro hp
  exact ⟨fun e => ⟨trivial, e.1, e.2, trivial, trivial⟩, fun n => n hp.1⟩
end Go.Proofs.YtafhkgicekddlaaGreatDoor.Fn
namespace Go.Proofs.YtafhkgicekddlaaGreatDoor.Fn
open Go Go.RowKit Go.Proofs.YtafhkgicekddlaaGreatDoor.Sy
set_option linter.unusedVariables false
set_option linter.unusedSimpArgs false
set_option maxRecDepth 100000
def t73 : Tr :=
  .br (.f (.is (.lt (.len 0 1) (.n 0)) false) <|
   .br (.f (.is (.le (.len 0 1) (.n 1000000000)) true) <|
    .f (.lseq 65542 (.rep (.len 0 1) [0])) <|
     .br (.f (.rel 107304 [.lst 0 1, .num (.v 0 2), .lst 65542 0, .num (.n 0), .num (.wrap .i64 (.bin .sub (.len 0 1) (.n 1)))] 65550 [.list [.int .i64], .int .i64, .int .i64]) <|
      .br (.f (.is (.le (.n 0) (.v 65550 2)) false) <|
       .br (.f (.rel 74 [.tru (.lt (.n 0) (.n 0)), .lst 65550 0] 65555 [.bool, .list [.int .i64]]) <|
        .br (.f (.is (.v 0 0) false) <|
         .ok [.tru (.v 65555 0), .lst 65555 1, .num (.v 65550 1)])
        (.f (.is (.v 0 0) true) <|
         .br (.f (.is (.lt (.n 0) (.v 65550 1)) true) <|
          .br (.f (.rel 23 [.num (.n 1)] 65564 [.bool, .list [.int .i64]]) <|
           .br (.f (.rel 42 [.tru (.v 65555 0), .lst 65555 1, .tru (.v 65564 0), .lst 65564 1] 65565 [.bool, .list [.int .i64]]) <|
            .br (.f (.rel 62 [.tru (.v 65565 0), .lst 65565 1] 65572 [.bool, .list [.int .i64]]) <|
             .ok [.tru (.v 65572 0), .lst 65572 1, .num (.wrap .i64 (.bin .sub (.v 0 2) (.v 65550 1)))])
            (.f (.npre 62 [.tru (.v 65565 0), .lst 65565 1]) <|
             .bad))
           (.f (.npre 42 [.tru (.v 65555 0), .lst 65555 1, .tru (.v 65564 0), .lst 65564 1]) <|
            .bad))
          (.f (.npre 23 [.num (.n 1)]) <|
           .bad))
         (.f (.is (.lt (.n 0) (.v 65550 1)) false) <|
          .br (.f (.rel 62 [.tru (.v 65555 0), .lst 65555 1] 65564 [.bool, .list [.int .i64]]) <|
           .ok [.tru (.v 65564 0), .lst 65564 1, .num (.v 65550 1)])
          (.f (.npre 62 [.tru (.v 65555 0), .lst 65555 1]) <|
           .bad))))
       (.f (.npre 74 [.tru (.lt (.n 0) (.n 0)), .lst 65550 0]) <|
        .bad))
      (.f (.is (.le (.n 0) (.v 65550 2)) true) <|
       .br (.f (.is (.lt (.v 65550 2) (.n 0)) true) <|
        .bad)
       (.f (.is (.lt (.v 65550 2) (.n 0)) false) <|
        .br (.f (.is (.lt (.v 65550 2) (.len 0 1)) false) <|
         .bad)
        (.f (.is (.lt (.v 65550 2) (.len 0 1)) true) <|
         .f (.is (.eq (.v 65562 0) (.wrap .i64 (.bin .add (.wrap .i64 (.bin .mul (.v 65550 1) (.n 10000))) (.at 0 1 (.v 65550 2) 0)))) true) <|
          .br (.f (.is (.eq (.v 0 2) (.n 0)) true) <|
           .bad)
          (.f (.is (.eq (.v 0 2) (.n 0)) false) <|
           .br (.f (.is (.lt (.v 65550 2) (.len 65550 0)) false) <|
            .bad)
           (.f (.is (.lt (.v 65550 2) (.len 65550 0)) true) <|
            .f (.lseq 65569 (.set (.lst 65550 0) (.v 65550 2) 0 [.wrap .i64 (.bin .quo (.v 65562 0) (.v 0 2))])) <|
             .br (.f (.nrel 107304 [.lst 0 1, .num (.v 0 2), .lst 65542 0, .num (.n 0), .num (.wrap .i64 (.bin .sub (.len 0 1) (.n 1)))] [.lst 65569 0, .num (.bin .rem (.v 65562 0) (.v 0 2)), .num (.wrap .i64 (.bin .sub (.v 65550 2) (.n 1)))]) <|
              .bad)
             (.f (.ndec 107304 [.lst 0 1, .num (.v 0 2), .lst 65542 0, .num (.n 0), .num (.wrap .i64 (.bin .sub (.len 0 1) (.n 1)))] [.lst 65550 0, .num (.v 65550 1), .num (.v 65550 2)] [.lst 65569 0, .num (.bin .rem (.v 65562 0) (.v 0 2)), .num (.wrap .i64 (.bin .sub (.v 65550 2) (.n 1)))]) <|
              .bad)))))))
     (.f (.nrel 107304 [.lst 0 1, .num (.v 0 2), .lst 65542 0, .num (.n 0), .num (.wrap .i64 (.bin .sub (.len 0 1) (.n 1)))] [.lst 65542 0, .num (.n 0), .num (.wrap .i64 (.bin .sub (.len 0 1) (.n 1)))]) <|
      .bad))
   (.f (.is (.le (.len 0 1) (.n 1000000000)) false) <|
    .bad))
  (.f (.is (.lt (.len 0 1) (.n 0)) true) <|
   .bad)
theorem c73 : ConS Tryz.prog T C73 := con_tr (cs := [C23, C42, C62, C74]) (lcs := [L107304]) (known := []) (cons_cons c23 (cons_cons c42 (cons_cons c62 (cons_cons c74 (cons_nil _ _))))) (Known.nil _) (N := 400) (d := 40) (t := t73) (by kernel_rfl) <| by
  intro E hl hp
  have hl1 := hl 1 _ rfl
  clear hl
  have hp := hp rfl
  simp only [C73, show T.pre 73 = Q73 from rfl, flatS, SP.flat, dvs, List.append_nil, List.cons_append, List.nil_append, Q73, U64, U32, I64, Big, W, wv, s64, WT, PR, MR] at hp
  simp only [t73, C73, Tr.good, Fact.den, LX.den, DX.ls, DV.ls, DX.den, Bx.den, Ex.den, eo_add, eo_sub, eo_mul, eo_quo, eo_rem, eo_fdv, eo_mn, eo_mx, eo_land, eo_lor, eo_lxor, eo_landn, eo_shl, eo_shr, dvs, flatS, SP.flat, ST.flat, List.map_cons, List.map_nil, List.append_nil, List.cons_append, List.nil_append, ltb_t, ltb_f, leb_t, leb_f, eqb_t, eqb_f, decide_eq_true_eq, decide_eq_false_iff_not, Bool.not_eq_true', Bool.not_eq_false', Bool.and_eq_true, Bool.and_eq_false_imp, beq_iff_eq, beq_eq_false_iff_ne, bne_iff_ne, U64, U32, I64, Big, W, wv, Told, s64, WT, PR, MR, Int.zero_mul, Int.zero_add, Int.add_zero, Int.mul_zero, IntKind.wrap_u64, IntKind.wrap_i64, IntKind.wrap_u32, ne_eq, forall_const, true_implies, show T.rel 23 = R23 from rfl, R23, show T.rel 42 = R42 from rfl, R42, show T.rel 62 = R62 from rfl, R62, show T.rel 73 = R73 from rfl, R73, show T.rel 74 = R74 from rfl, R74, show T.rel 107304 = R107304 from rfl, R107304, show T.mu 107304 = M107304 from rfl, M107304, show T.pre 23 = Q23 from rfl, Q23, show T.pre 42 = Q42 from rfl, Q42, show T.pre 62 = Q62 from rfl, Q62, show T.pre 73 = Q73 from rfl, Q73, show T.pre 74 = Q74 from rfl, Q74]
  revert hp hl1
  generalize (E.r 0).c 0 = an
  generalize (E.r 0).l 1 = al
  generalize (E.r 0).i 2 = b
  generalize (E.r 65542).l 0 = x6_0
  generalize (E.r 65550).l 0 = x14_0
  generalize (E.r 65550).i 1 = x14_1
  generalize (E.r 65550).i 2 = x14_2
  generalize (E.r 65550).i 3 = x14_3
  generalize (E.r 65555).c 0 = x19_0
  generalize (E.r 65555).l 1 = x19_1
  generalize (E.r 65555).i 2 = x19_2
  generalize (E.r 65562).i 0 = x26_0
  generalize (E.r 65564).c 0 = x28_0
  generalize (E.r 65564).l 1 = x28_1
  generalize (E.r 65564).i 2 = x28_2
  generalize (E.r 65565).c 0 = x29_0
  generalize (E.r 65565).l 1 = x29_1
  generalize (E.r 65565).i 2 = x29_2
  generalize (E.r 65569).l 0 = x33_0
  generalize (E.r 65572).c 0 = x36_0
  generalize (E.r 65572).l 1 = x36_1
  generalize (E.r 65572).i 2 = x36_2
  try simp only [mxI, mnI]
  try simp only [ltb, leb, eqb, Int.lt_irrefl, decide_false, Int.le_refl, decide_true]
  intro hl hp
  have la := Bg.len hp.1
  have da := hp.1.1.1
  obtain ⟨ha, b0, b1⟩ := hp
  have v1 := bval_abs (n := an) da
  have an0 := dval_nonneg da
  refine ⟨fun _ => ⟨fun _ y0 => ⟨fun ⟨i0, i1, i2, i3, i4, i5, i6, i7⟩ => ⟨fun c => ?_, fun c => ?_⟩, ?_⟩, by omega⟩, by omega⟩
  · -- all digits are told
    have e0 : (x14_2 + 1).toNat = 0 := by omega
    rw [e0, List.drop_zero] at i7
    simp only [P4, Int.one_mul] at i7
    have hq := div_at b0 i7.symm i4 i5
    have qn := dval_nonneg i3
    have qb := Int.mul_le_mul_of_nonneg_left (show 1 ≤ b by omega) qn
    have sm : dval al < 1000000000000000000000000000000000000000000000000000000000000000000000000000000000000000000000000 := by
      have h1 := ha.2.1
      have h2 := ha.2.2
      cases an
      · have := v1.2 rfl; omega
      · have := v1.1 rfl; omega
    refine ⟨fun e1 => ?_, fun n => n ⟨i3, by omega⟩⟩
    have ev : bval x19_0 x19_1 = dval x14_0 := e1.2
    refine ⟨fun h => ?_, fun h => ⟨fun h2 => ⟨fun e2 => ⟨fun e3 => ⟨fun e4 => ?_, fun n => n ⟨e3.1, by rw [e3.2, ev, e2.2]; omega, by rw [e3.2, ev, e2.2]; omega⟩⟩, fun n => n ⟨⟨e1.1, by rw [ev]; omega, by rw [ev]; omega⟩, e2.1, by rw [e2.2]; omega, by rw [e2.2]; omega⟩⟩, by omega⟩, fun h2 => ⟨fun e2 => ?_, fun n => n ⟨e1.1, by rw [ev]; omega, by rw [ev]; omega⟩⟩⟩⟩
    · rw [ev, v1.2 h, hq.1, hq.2]
      exact ⟨e1.1, rfl, rfl⟩
    · have dn := div_neg (v := bval an al) (m := dval al) b0 (v1.1 h)
      rw [hq.1, hq.2] at dn
      have := dn.2 (by omega)
      rw [this.1, this.2, e4.2, e3.2, ev, e2.2]
      exact ⟨e4.1, by omega, by omega⟩
    · have dn := div_neg (v := bval an al) (m := dval al) b0 (v1.1 h)
      rw [hq.1, hq.2] at dn
      have := dn.1 (by omega)
      rw [this.1, this.2, e2.2, ev]
      exact ⟨e2.1, rfl, by omega⟩
  · obtain ⟨k, rfl⟩ := Int.eq_ofNat_of_zero_le c
    have ew : ((k : Int) - 1 + 9223372036854775808) % 18446744073709551616 - 9223372036854775808 = (k : Int) - 1 := by omega
    have ek : ((k : Int) + 1).toNat = k + 1 := by omega
    have ek2 : ((k : Int) - 1 + 1).toNat = k := by omega
    simp only [ew, ek, ek2] at *
    have dk := da k
    have e1 : ((x14_1 * 10000 + 9223372036854775808) % 18446744073709551616 - 9223372036854775808 + Sy.rowAt al k 0 + 9223372036854775808) % 18446744073709551616 - 9223372036854775808 = x14_1 * 10000 + Sy.rowAt al k 0 := by omega
    rw [e1]
    refine ⟨by omega, fun _ => ⟨by omega, fun _ s => ⟨by omega, fun _ => ⟨by omega, fun _ y => ?_⟩⟩⟩⟩
    have s0 : 0 ≤ x26_0 := by omega
    rw [Int.tdiv_eq_ediv_of_nonneg s0] at y
    rw [Int.tmod_eq_emod_of_nonneg s0]
    have q0 := Int.ediv_nonneg s0 (show 0 ≤ b by omega)
    have q1 : x26_0 / b < 10000 := by apply Int.ediv_lt_of_lt_mul b0; omega
    have r0 := Int.emod_nonneg x26_0 (show b ≠ 0 by omega)
    have r1 := Int.emod_lt_of_pos x26_0 b0
    have em := Int.emod_add_ediv_mul x26_0 b
    have eq : (x26_0 / b + 9223372036854775808) % 18446744073709551616 - 9223372036854775808 = x26_0 / b := by omega
    rw [eq] at y
    subst y
    refine ⟨fun n => n ⟨by omega, by omega, by rw [rowSet_len]; exact i2, dig_set i3 (by omega) (by omega) q0 q1, r0, r1, fun j hj => ?_, ?_⟩, by omega⟩
    · rw [rowAt_set (by omega) (by omega), if_neg (by omega)]
      exact i6 j (by omega)
    · rw [dval_set (by omega), i6 k (Int.le_refl _), dval_drop al k]
      simp only [P4] at i7
      generalize x26_0 / b = q at *
      generalize x26_0 % b = r at *
      subst s
      grind
  · intro n
    subst y0
    rw [Int.toNat_natCast] at n
    apply n
    have ew : ((al.length : Int) - 1 + 9223372036854775808) % 18446744073709551616 - 9223372036854775808 = (al.length : Int) - 1 := by omega
    rw [ew, show ((al.length : Int) - 1 + 1).toNat = al.length by omega, List.drop_length, dval_rep]
    exact ⟨by omega, by omega, List.length_replicate, dig_rep _, trivial, b0, fun j _ => rowAt_rep _ j, by simp [dval]⟩
end Go.Proofs.YtafhkgicekddlaaGreatDoor.Fn
