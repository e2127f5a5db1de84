/- What is told of the functions, shown: (turnstone/vtime.Time).Since, turnstone/pos.Floors, turnstone/item.Spread, turnstone/span.Within, turnstone/span.Room, turnstone/pos.weight, (turnstone/pos.Pos).Right, (turnstone/item.Item).Right, (turnstone/mean.Mean).Right, math/bits.Add64, (turnstone/wide.Int).Add, turnstone/wide.Of, math/bits.Sub64, (turnstone/wide.Int).flip, (turnstone/wide.Int).size, math/bits.Mul64, turnstone/wide.signed, (turnstone/wide.Int).Mul, turnstone/wide.OfU. -/
import Derived.Test.YthlcpdjpnbbaeaaGreatDoorTab
namespace Go.Proofs.YthlcpdjpnbbaeaaGreatDoor.Fn
open Go Go.RowKit Go.Proofs.YthlcpdjpnbbaeaaGreatDoor.Sy
set_option linter.unusedVariables false
set_option linter.unusedSimpArgs false
set_option maxRecDepth 100000
def t14 : Tr :=
  .ok [.num (.wrap .i64 (.wrap .u64 (.bin .sub (.v 0 0) (.v 0 1))))]
theorem c14 : ConS Tryz.prog T C14 := con_tr (cs := []) (lcs := []) (known := []) (cons_nil _ _) (Known.nil _) (N := 400) (d := 40) (t := t14) (by kernel_rfl) <| by
  intro E hl hp
  clear hl
  clear hp
  simp only [t14, C14, Tr.good, Fact.den, LX.den, DX.ls, DV.ls, DX.den, Bx.den, Ex.den, eo_add, eo_sub, eo_mul, eo_quo, eo_rem, eo_fdv, eo_mn, eo_mx, eo_land, eo_lor, eo_lxor, eo_landn, eo_shl, eo_shr, dvs, flatS, SP.flat, ST.flat, List.map_cons, List.map_nil, List.append_nil, List.cons_append, List.nil_append, ltb_t, ltb_f, leb_t, leb_f, eqb_t, eqb_f, decide_eq_true_eq, decide_eq_false_iff_not, Bool.not_eq_true', Bool.not_eq_false', Bool.and_eq_true, Bool.and_eq_false_imp, beq_iff_eq, beq_eq_false_iff_ne, bne_iff_ne, U64, U32, I64, Big, W, wv, Told, s64, WT, PR, MR, MB, Int.zero_mul, Int.zero_add, Int.add_zero, Int.mul_zero, IntKind.wrap_u64, IntKind.wrap_i64, IntKind.wrap_u32, ne_eq, forall_const, true_implies, show T.rel 14 = R14 from rfl, R14]
  generalize (E.r 0).i 0 = t
  generalize (E.r 0).i 1 = u
  try simp only [mxI, mnI]
  try simp only [ltb, leb, eqb, Int.lt_irrefl, decide_false, Int.le_refl, decide_true]
  repeat' (first | intro _ | refine And.intro ?_ ?_ | refine Iff.intro ?_ ?_)
  all_goals first | omega | (simp_all; done) | (simp_all; omega)
end Go.Proofs.YthlcpdjpnbbaeaaGreatDoor.Fn
namespace Go.Proofs.YthlcpdjpnbbaeaaGreatDoor.Fn
open Go Go.RowKit Go.Proofs.YthlcpdjpnbbaeaaGreatDoor.Sy
set_option linter.unusedVariables false
set_option linter.unusedSimpArgs false
set_option maxRecDepth 100000
def t83 : Tr :=
  .br (.f (.rel 108302 [.num (.v 0 0), .lst 0 1, .num (.n 0), .num (.n 0), .num (.n 0)] 65541 [.int .i64, .int .i64, .int .i64]) <|
   .br (.f (.is (.lt (.v 65541 2) (.len 0 1)) false) <|
    .ok [.num (.v 65541 0), .num (.v 65541 1)])
   (.f (.is (.lt (.v 65541 2) (.len 0 1)) true) <|
    .br (.f (.is (.lt (.v 65541 2) (.n 0)) true) <|
     .bad)
    (.f (.is (.lt (.v 65541 2) (.n 0)) false) <|
     .f (.rel 14 [.num (.at 0 1 (.v 65541 2) 0), .num (.v 0 0)] 65552 [.int .i64]) <|
      .br (.f (.is (.eq (.v 65541 2) (.n 0)) true) <|
       .br (.f (.nrel 108302 [.num (.v 0 0), .lst 0 1, .num (.n 0), .num (.n 0), .num (.n 0)] [.num (.bin .mn (.v 65552 0) (.v 65552 0)), .num (.bin .mx (.v 65552 0) (.v 65552 0)), .num (.wrap .i64 (.bin .add (.v 65541 2) (.n 1)))]) <|
        .bad)
       (.f (.ndec 108302 [.num (.v 0 0), .lst 0 1, .num (.n 0), .num (.n 0), .num (.n 0)] [.num (.v 65541 0), .num (.v 65541 1), .num (.v 65541 2)] [.num (.bin .mn (.v 65552 0) (.v 65552 0)), .num (.bin .mx (.v 65552 0) (.v 65552 0)), .num (.wrap .i64 (.bin .add (.v 65541 2) (.n 1)))]) <|
        .bad))
      (.f (.is (.eq (.v 65541 2) (.n 0)) false) <|
       .br (.f (.nrel 108302 [.num (.v 0 0), .lst 0 1, .num (.n 0), .num (.n 0), .num (.n 0)] [.num (.bin .mn (.v 65541 0) (.v 65552 0)), .num (.bin .mx (.v 65541 1) (.v 65552 0)), .num (.wrap .i64 (.bin .add (.v 65541 2) (.n 1)))]) <|
        .bad)
       (.f (.ndec 108302 [.num (.v 0 0), .lst 0 1, .num (.n 0), .num (.n 0), .num (.n 0)] [.num (.v 65541 0), .num (.v 65541 1), .num (.v 65541 2)] [.num (.bin .mn (.v 65541 0) (.v 65552 0)), .num (.bin .mx (.v 65541 1) (.v 65552 0)), .num (.wrap .i64 (.bin .add (.v 65541 2) (.n 1)))]) <|
        .bad)))))
  (.f (.nrel 108302 [.num (.v 0 0), .lst 0 1, .num (.n 0), .num (.n 0), .num (.n 0)] [.num (.n 0), .num (.n 0), .num (.n 0)]) <|
   .bad)
theorem c83 : ConS Tryz.prog T C83 := con_tr (cs := [C14]) (lcs := [L108302]) (known := []) (cons_cons c14 (cons_nil _ _)) (Known.nil _) (N := 400) (d := 40) (t := t83) (by kernel_rfl) <| by
  intro E hl hp
  have hl1 := hl 1 _ rfl
  clear hl
  clear hp
  simp only [t83, C83, Tr.good, Fact.den, LX.den, DX.ls, DV.ls, DX.den, Bx.den, Ex.den, eo_add, eo_sub, eo_mul, eo_quo, eo_rem, eo_fdv, eo_mn, eo_mx, eo_land, eo_lor, eo_lxor, eo_landn, eo_shl, eo_shr, dvs, flatS, SP.flat, ST.flat, List.map_cons, List.map_nil, List.append_nil, List.cons_append, List.nil_append, ltb_t, ltb_f, leb_t, leb_f, eqb_t, eqb_f, decide_eq_true_eq, decide_eq_false_iff_not, Bool.not_eq_true', Bool.not_eq_false', Bool.and_eq_true, Bool.and_eq_false_imp, beq_iff_eq, beq_eq_false_iff_ne, bne_iff_ne, U64, U32, I64, Big, W, wv, Told, s64, WT, PR, MR, MB, Int.zero_mul, Int.zero_add, Int.add_zero, Int.mul_zero, IntKind.wrap_u64, IntKind.wrap_i64, IntKind.wrap_u32, ne_eq, forall_const, true_implies, show T.rel 14 = R14 from rfl, R14, show T.rel 83 = R83 from rfl, R83, show T.rel 108302 = R108302 from rfl, R108302, show T.mu 108302 = M108302 from rfl, M108302]
  revert hl1
  generalize (E.r 0).i 0 = base
  generalize (E.r 0).l 1 = xs
  generalize (E.r 65541).i 0 = x5_0
  generalize (E.r 65541).i 1 = x5_1
  generalize (E.r 65541).i 2 = x5_2
  generalize (E.r 65552).i 0 = x16_0
  try simp only [mxI, mnI]
  try simp only [ltb, leb, eqb, Int.lt_irrefl, decide_false, Int.le_refl, decide_true]
  intro hl
  have m1 := hl.2
  simp only [maxLen] at m1
  refine ⟨fun ⟨i0, i1, i2, i3⟩ => ⟨fun c => ?_, fun c => ⟨by omega, fun _ e => ?_⟩⟩, fun n => n ⟨trivial, by omega, rfl, rfl⟩⟩
  · have : x5_2.toNat = xs.length := by omega
    rw [i2, i3, this]
    exact ⟨rfl, rfl⟩
  · obtain ⟨k, rfl⟩ := Int.eq_ofNat_of_zero_le i0
    have ew : ((k : Int) + 1 + 9223372036854775808) % 18446744073709551616 - 9223372036854775808 = ((k + 1 : Nat) : Int) := by omega
    simp only [ew, Int.toNat_natCast] at *
    have a := mnF_step (tf 0 base xs) k
    have b := mxF_step (tf 0 base xs) k
    have et : tf 0 base xs k = x16_0 := by rw [e]; rfl
    rw [et] at a b
    refine ⟨fun z => ⟨fun n => n ⟨by omega, by omega, ?_, ?_⟩, by omega⟩, fun z => ⟨fun n => n ⟨by omega, by omega, ?_, ?_⟩, by omega⟩⟩
    · rw [a.1 (by omega)]; simp
    · rw [b.1 (by omega)]; simp
    · have := a.2 (by omega)
      split <;> omega
    · have := b.2 (by omega)
      split <;> omega
end Go.Proofs.YthlcpdjpnbbaeaaGreatDoor.Fn
namespace Go.Proofs.YthlcpdjpnbbaeaaGreatDoor.Fn
open Go Go.RowKit Go.Proofs.YthlcpdjpnbbaeaaGreatDoor.Sy
set_option linter.unusedVariables false
set_option linter.unusedSimpArgs false
set_option maxRecDepth 100000
def t41 : Tr :=
  .br (.f (.rel 104103 [.num (.v 0 0), .lst 0 1, .rows [], .rows [], .num (.n 0)] 65542 [.list [.int .u64, .int .u32, .int .u32], .list [.int .u64, .int .u32, .int .u32], .int .i64]) <|
   .br (.f (.is (.lt (.v 65542 2) (.len 0 1)) false) <|
    .f (.rel 83 [.num (.v 0 0), .lst 65542 0] 65546 [.int .i64, .int .i64]) <|
     .f (.rel 83 [.num (.v 0 0), .lst 65542 1] 65554 [.int .i64, .int .i64]) <|
      .ok [.num (.wrap .u64 (.bin .sub (.wrap .u64 (.v 65554 1)) (.wrap .u64 (.v 65546 0))))])
   (.f (.is (.lt (.v 65542 2) (.len 0 1)) true) <|
    .br (.f (.is (.lt (.v 65542 2) (.n 0)) true) <|
     .bad)
    (.f (.is (.lt (.v 65542 2) (.n 0)) false) <|
     .br (.f (.is (.le (.len 65542 0) (.n 1000000000)) false) <|
      .bad)
     (.f (.is (.le (.len 65542 0) (.n 1000000000)) true) <|
      .f (.lseq 65552 (.app (.lst 65542 0) (.rows [[.at 0 1 (.v 65542 2) 0, .at 0 1 (.v 65542 2) 1, .at 0 1 (.v 65542 2) 2]]))) <|
       .br (.f (.is (.le (.len 65542 1) (.n 1000000000)) false) <|
        .bad)
       (.f (.is (.le (.len 65542 1) (.n 1000000000)) true) <|
        .f (.lseq 65559 (.app (.lst 65542 1) (.rows [[.at 0 1 (.v 65542 2) 0, .at 0 1 (.v 65542 2) 1, .at 0 1 (.v 65542 2) 2], [.at 0 1 (.v 65542 2) 4, .at 0 1 (.v 65542 2) 5, .at 0 1 (.v 65542 2) 6]]))) <|
         .br (.f (.nrel 104103 [.num (.v 0 0), .lst 0 1, .rows [], .rows [], .num (.n 0)] [.lst 65552 0, .lst 65559 0, .num (.wrap .i64 (.bin .add (.v 65542 2) (.n 1)))]) <|
          .bad)
         (.f (.ndec 104103 [.num (.v 0 0), .lst 0 1, .rows [], .rows [], .num (.n 0)] [.lst 65542 0, .lst 65542 1, .num (.v 65542 2)] [.lst 65552 0, .lst 65559 0, .num (.wrap .i64 (.bin .add (.v 65542 2) (.n 1)))]) <|
          .bad))))))
  (.f (.nrel 104103 [.num (.v 0 0), .lst 0 1, .rows [], .rows [], .num (.n 0)] [.rows [], .rows [], .num (.n 0)]) <|
   .bad)
theorem c41 : ConS Tryz.prog T C41 := con_tr (cs := [C83]) (lcs := [L104103]) (known := []) (cons_cons c83 (cons_nil _ _)) (Known.nil _) (N := 400) (d := 40) (t := t41) (by kernel_rfl) <| by
  intro E hl hp
  have hl1 := hl 1 _ rfl
  clear hl
  have hp := hp rfl
  simp only [C41, show T.pre 41 = Q41 from rfl, flatS, SP.flat, dvs, List.append_nil, List.cons_append, List.nil_append, Q41, U64, U32, I64, Big, W, wv, s64, WT, PR, MR, MB] at hp
  simp only [t41, C41, Tr.good, Fact.den, LX.den, DX.ls, DV.ls, DX.den, Bx.den, Ex.den, eo_add, eo_sub, eo_mul, eo_quo, eo_rem, eo_fdv, eo_mn, eo_mx, eo_land, eo_lor, eo_lxor, eo_landn, eo_shl, eo_shr, dvs, flatS, SP.flat, ST.flat, List.map_cons, List.map_nil, List.append_nil, List.cons_append, List.nil_append, ltb_t, ltb_f, leb_t, leb_f, eqb_t, eqb_f, decide_eq_true_eq, decide_eq_false_iff_not, Bool.not_eq_true', Bool.not_eq_false', Bool.and_eq_true, Bool.and_eq_false_imp, beq_iff_eq, beq_eq_false_iff_ne, bne_iff_ne, U64, U32, I64, Big, W, wv, Told, s64, WT, PR, MR, MB, Int.zero_mul, Int.zero_add, Int.add_zero, Int.mul_zero, IntKind.wrap_u64, IntKind.wrap_i64, IntKind.wrap_u32, ne_eq, forall_const, true_implies, show T.rel 41 = R41 from rfl, R41, show T.rel 83 = R83 from rfl, R83, show T.rel 104103 = R104103 from rfl, R104103, show T.mu 104103 = M104103 from rfl, M104103, show T.pre 41 = Q41 from rfl, Q41]
  revert hp hl1
  generalize (E.r 0).i 0 = base
  generalize (E.r 0).l 1 = xs
  generalize (E.r 65542).l 0 = x6_0
  generalize (E.r 65542).l 1 = x6_1
  generalize (E.r 65542).i 2 = x6_2
  generalize (E.r 65546).i 0 = x10_0
  generalize (E.r 65546).i 1 = x10_1
  generalize (E.r 65552).l 0 = x16_0
  generalize (E.r 65554).i 0 = x18_0
  generalize (E.r 65554).i 1 = x18_1
  generalize (E.r 65559).l 0 = x23_0
  try simp only [mxI, mnI]
  try simp only [ltb, leb, eqb, Int.lt_irrefl, decide_false, Int.le_refl, decide_true]
  intro hl hp
  have hS := SPR_le base xs
  refine ⟨fun ⟨i0, i1, i2, i3, i4, i5⟩ => ⟨fun c a b => ?_, fun c => ⟨by omega, fun _ => ⟨by omega, fun _ e => ⟨by omega, fun _ f => ?_⟩⟩⟩⟩, fun n => n ⟨trivial, by omega, rfl, rfl, PL.nil _, AL.nil _⟩⟩
  · have e1 : x6_0.length = xs.length := by omega
    have e2 : x6_1.length = 2 * xs.length := by omega
    rw [b.2, a.1, PL.least i4 e1, AL.greatest i5 e2]
    simp only [SPR] at *
    omega
  · obtain ⟨k, rfl⟩ := Int.eq_ofNat_of_zero_le i0
    have ew : ((k : Int) + 1 + 9223372036854775808) % 18446744073709551616 - 9223372036854775808 = ((k + 1 : Nat) : Int) := by omega
    simp only [ew]
    have l0 : x6_0.length = k := by omega
    have l1 : x6_1.length = 2 * k := by omega
    subst e f
    refine ⟨fun n => n ⟨by omega, by omega, by simp [l0], by simp [l1]; omega, PL.snoc i4 (by rw [l0]; rfl), AL.snoc i5 l1 rfl rfl⟩, by omega⟩
end Go.Proofs.YthlcpdjpnbbaeaaGreatDoor.Fn
namespace Go.Proofs.YthlcpdjpnbbaeaaGreatDoor.Fn
open Go Go.RowKit Go.Proofs.YthlcpdjpnbbaeaaGreatDoor.Sy
set_option linter.unusedVariables false
set_option linter.unusedSimpArgs false
set_option maxRecDepth 100000
def t31 : Tr :=
  .br (.f (.rel 41 [.num (.v 0 0), .lst 0 1] 65539 [.int .u64]) <|
   .ok [.tru (.le (.v 65539 0) (.n 4611686018427387904))])
  (.f (.npre 41 [.num (.v 0 0), .lst 0 1]) <|
   .bad)
theorem c31 : ConS Tryz.prog T C31 := con_tr (cs := [C41]) (lcs := []) (known := []) (cons_cons c41 (cons_nil _ _)) (Known.nil _) (N := 400) (d := 40) (t := t31) (by kernel_rfl) <| by
  intro E hl hp
  have hl1 := hl 1 _ rfl
  clear hl
  have hp := hp rfl
  simp only [C31, show T.pre 31 = Q31 from rfl, flatS, SP.flat, dvs, List.append_nil, List.cons_append, List.nil_append, Q31, U64, U32, I64, Big, W, wv, s64, WT, PR, MR, MB] at hp
  simp only [t31, C31, Tr.good, Fact.den, LX.den, DX.ls, DV.ls, DX.den, Bx.den, Ex.den, eo_add, eo_sub, eo_mul, eo_quo, eo_rem, eo_fdv, eo_mn, eo_mx, eo_land, eo_lor, eo_lxor, eo_landn, eo_shl, eo_shr, dvs, flatS, SP.flat, ST.flat, List.map_cons, List.map_nil, List.append_nil, List.cons_append, List.nil_append, ltb_t, ltb_f, leb_t, leb_f, eqb_t, eqb_f, decide_eq_true_eq, decide_eq_false_iff_not, Bool.not_eq_true', Bool.not_eq_false', Bool.and_eq_true, Bool.and_eq_false_imp, beq_iff_eq, beq_eq_false_iff_ne, bne_iff_ne, U64, U32, I64, Big, W, wv, Told, s64, WT, PR, MR, MB, Int.zero_mul, Int.zero_add, Int.add_zero, Int.mul_zero, IntKind.wrap_u64, IntKind.wrap_i64, IntKind.wrap_u32, ne_eq, forall_const, true_implies, show T.rel 31 = R31 from rfl, R31, show T.rel 41 = R41 from rfl, R41, show T.pre 31 = Q31 from rfl, Q31, show T.pre 41 = Q41 from rfl, Q41]
  revert hp hl1
  generalize (E.r 0).i 0 = base
  generalize (E.r 0).l 1 = xs
  generalize (E.r 65539).i 0 = x3_0
  try simp only [mxI, mnI]
  try simp only [ltb, leb, eqb, Int.lt_irrefl, decide_false, Int.le_refl, decide_true]
  intro hl hp
  have h := SPR_le base xs
  repeat' (first | intro _ | refine And.intro ?_ ?_ | refine Iff.intro ?_ ?_)
  all_goals first | omega | (simp_all; done) | (simp_all; omega)
end Go.Proofs.YthlcpdjpnbbaeaaGreatDoor.Fn
namespace Go.Proofs.YthlcpdjpnbbaeaaGreatDoor.Fn
open Go Go.RowKit Go.Proofs.YthlcpdjpnbbaeaaGreatDoor.Sy
set_option linter.unusedVariables false
set_option linter.unusedSimpArgs false
set_option maxRecDepth 100000
def t30 : Tr :=
  .br (.f (.rel 31 [.num (.v 0 0), .lst 0 1] 65539 [.bool]) <|
   .br (.f (.is (.v 65539 0) false) <|
    .ok [.num (.n 0)])
   (.f (.is (.v 65539 0) true) <|
    .br (.f (.rel 41 [.num (.v 0 0), .lst 0 1] 65543 [.int .u64]) <|
     .ok [.num (.wrap .u64 (.bin .sub (.n 4611686018427387904) (.v 65543 0)))])
    (.f (.npre 41 [.num (.v 0 0), .lst 0 1]) <|
     .bad)))
  (.f (.npre 31 [.num (.v 0 0), .lst 0 1]) <|
   .bad)
theorem c30 : ConS Tryz.prog T C30 := con_tr (cs := [C31, C41]) (lcs := []) (known := []) (cons_cons c31 (cons_cons c41 (cons_nil _ _))) (Known.nil _) (N := 400) (d := 40) (t := t30) (by kernel_rfl) <| by
  intro E hl hp
  have hl1 := hl 1 _ rfl
  clear hl
  have hp := hp rfl
  simp only [C30, show T.pre 30 = Q30 from rfl, flatS, SP.flat, dvs, List.append_nil, List.cons_append, List.nil_append, Q30, U64, U32, I64, Big, W, wv, s64, WT, PR, MR, MB] at hp
  simp only [t30, C30, Tr.good, Fact.den, LX.den, DX.ls, DV.ls, DX.den, Bx.den, Ex.den, eo_add, eo_sub, eo_mul, eo_quo, eo_rem, eo_fdv, eo_mn, eo_mx, eo_land, eo_lor, eo_lxor, eo_landn, eo_shl, eo_shr, dvs, flatS, SP.flat, ST.flat, List.map_cons, List.map_nil, List.append_nil, List.cons_append, List.nil_append, ltb_t, ltb_f, leb_t, leb_f, eqb_t, eqb_f, decide_eq_true_eq, decide_eq_false_iff_not, Bool.not_eq_true', Bool.not_eq_false', Bool.and_eq_true, Bool.and_eq_false_imp, beq_iff_eq, beq_eq_false_iff_ne, bne_iff_ne, U64, U32, I64, Big, W, wv, Told, s64, WT, PR, MR, MB, Int.zero_mul, Int.zero_add, Int.add_zero, Int.mul_zero, IntKind.wrap_u64, IntKind.wrap_i64, IntKind.wrap_u32, ne_eq, forall_const, true_implies, show T.rel 30 = R30 from rfl, R30, show T.rel 31 = R31 from rfl, R31, show T.rel 41 = R41 from rfl, R41, show T.pre 30 = Q30 from rfl, Q30, show T.pre 31 = Q31 from rfl, Q31, show T.pre 41 = Q41 from rfl, Q41]
  revert hp hl1
  generalize (E.r 0).i 0 = base
  generalize (E.r 0).l 1 = xs
  generalize (E.r 65539).c 0 = x3_0
  generalize (E.r 65543).i 0 = x7_0
  try simp only [mxI, mnI]
  try simp only [ltb, leb, eqb, Int.lt_irrefl, decide_false, Int.le_refl, decide_true]
  intro hl hp
  have h := SPR_le base xs
  repeat' (first | intro _ | refine And.intro ?_ ?_ | refine Iff.intro ?_ ?_)
  all_goals first | omega | (simp_all; done) | (simp_all; omega)
end Go.Proofs.YthlcpdjpnbbaeaaGreatDoor.Fn
namespace Go.Proofs.YthlcpdjpnbbaeaaGreatDoor.Fn
open Go Go.RowKit Go.Proofs.YthlcpdjpnbbaeaaGreatDoor.Sy
set_option linter.unusedVariables false
set_option linter.unusedSimpArgs false
set_option maxRecDepth 100000
def t53 : Tr :=
  .br (.f (.is (.le (.n 1) (.v 0 0)) true) <|
   .ok [.tru (.le (.v 0 0) (.n 1048576))])
  (.f (.is (.le (.n 1) (.v 0 0)) false) <|
   .ok [.tru (.lt (.n 0) (.n 0))])
theorem c53 : ConS Tryz.prog T C53 := con_tr (cs := []) (lcs := []) (known := []) (cons_nil _ _) (Known.nil _) (N := 400) (d := 40) (t := t53) (by kernel_rfl) <| by
  intro E hl hp
  clear hl
  clear hp
  simp only [t53, C53, Tr.good, Fact.den, LX.den, DX.ls, DV.ls, DX.den, Bx.den, Ex.den, eo_add, eo_sub, eo_mul, eo_quo, eo_rem, eo_fdv, eo_mn, eo_mx, eo_land, eo_lor, eo_lxor, eo_landn, eo_shl, eo_shr, dvs, flatS, SP.flat, ST.flat, List.map_cons, List.map_nil, List.append_nil, List.cons_append, List.nil_append, ltb_t, ltb_f, leb_t, leb_f, eqb_t, eqb_f, decide_eq_true_eq, decide_eq_false_iff_not, Bool.not_eq_true', Bool.not_eq_false', Bool.and_eq_true, Bool.and_eq_false_imp, beq_iff_eq, beq_eq_false_iff_ne, bne_iff_ne, U64, U32, I64, Big, W, wv, Told, s64, WT, PR, MR, MB, Int.zero_mul, Int.zero_add, Int.add_zero, Int.mul_zero, IntKind.wrap_u64, IntKind.wrap_i64, IntKind.wrap_u32, ne_eq, forall_const, true_implies, show T.rel 53 = R53 from rfl, R53]
  generalize (E.r 0).i 0 = w
  try simp only [mxI, mnI]
  try simp only [ltb, leb, eqb, Int.lt_irrefl, decide_false, Int.le_refl, decide_true]
  repeat' (first | intro _ | refine And.intro ?_ ?_ | refine Iff.intro ?_ ?_)
  all_goals first | omega | (simp_all; done) | (simp_all; omega)
end Go.Proofs.YthlcpdjpnbbaeaaGreatDoor.Fn
namespace Go.Proofs.YthlcpdjpnbbaeaaGreatDoor.Fn
open Go Go.RowKit Go.Proofs.YthlcpdjpnbbaeaaGreatDoor.Sy
set_option linter.unusedVariables false
set_option linter.unusedSimpArgs false
set_option maxRecDepth 100000
def t15 : Tr :=
  .f (.rel 53 [.num (.v 0 2)] 65540 [.bool]) <|
   .br (.f (.is (.v 65540 0) true) <|
    .ok [.tru (.lt (.v 0 1) (.v 0 2))])
   (.f (.is (.v 65540 0) false) <|
    .ok [.tru (.lt (.n 0) (.n 0))])
theorem c15 : ConS Tryz.prog T C15 := con_tr (cs := [C53]) (lcs := []) (known := []) (cons_cons c53 (cons_nil _ _)) (Known.nil _) (N := 400) (d := 40) (t := t15) (by kernel_rfl) <| by
  intro E hl hp
  clear hl
  clear hp
  simp only [t15, C15, Tr.good, Fact.den, LX.den, DX.ls, DV.ls, DX.den, Bx.den, Ex.den, eo_add, eo_sub, eo_mul, eo_quo, eo_rem, eo_fdv, eo_mn, eo_mx, eo_land, eo_lor, eo_lxor, eo_landn, eo_shl, eo_shr, dvs, flatS, SP.flat, ST.flat, List.map_cons, List.map_nil, List.append_nil, List.cons_append, List.nil_append, ltb_t, ltb_f, leb_t, leb_f, eqb_t, eqb_f, decide_eq_true_eq, decide_eq_false_iff_not, Bool.not_eq_true', Bool.not_eq_false', Bool.and_eq_true, Bool.and_eq_false_imp, beq_iff_eq, beq_eq_false_iff_ne, bne_iff_ne, U64, U32, I64, Big, W, wv, Told, s64, WT, PR, MR, MB, Int.zero_mul, Int.zero_add, Int.add_zero, Int.mul_zero, IntKind.wrap_u64, IntKind.wrap_i64, IntKind.wrap_u32, ne_eq, forall_const, true_implies, show T.rel 15 = R15 from rfl, R15, show T.rel 53 = R53 from rfl, R53]
  generalize (E.r 0).i 0 = t
  generalize (E.r 0).i 1 = r
  generalize (E.r 0).i 2 = w
  generalize (E.r 65540).c 0 = x4_0
  try simp only [mxI, mnI]
  try simp only [ltb, leb, eqb, Int.lt_irrefl, decide_false, Int.le_refl, decide_true]
  repeat' (first | intro _ | refine And.intro ?_ ?_ | refine Iff.intro ?_ ?_)
  all_goals first | omega | (simp_all; done) | (simp_all; omega)
end Go.Proofs.YthlcpdjpnbbaeaaGreatDoor.Fn
namespace Go.Proofs.YthlcpdjpnbbaeaaGreatDoor.Fn
open Go Go.RowKit Go.Proofs.YthlcpdjpnbbaeaaGreatDoor.Sy
set_option linter.unusedVariables false
set_option linter.unusedSimpArgs false
set_option maxRecDepth 100000
def t32 : Tr :=
  .f (.rel 14 [.num (.v 0 4), .num (.v 0 0)] 65544 [.int .i64]) <|
   .f (.rel 15 [.num (.v 0 0), .num (.v 0 1), .num (.v 0 2)] 65548 [.bool]) <|
    .br (.f (.is (.v 65548 0) true) <|
     .f (.rel 15 [.num (.v 0 4), .num (.v 0 5), .num (.v 0 6)] 65552 [.bool]) <|
      .br (.f (.is (.v 65552 0) true) <|
       .br (.f (.is (.eq (.v 0 2) (.v 0 6)) true) <|
        .br (.f (.is (.lt (.n 0) (.v 0 3)) true) <|
         .br (.f (.is (.le (.n 0) (.v 65544 0)) true) <|
          .ok [.tru (.le (.v 65544 0) (.n 1152921504606846976))])
         (.f (.is (.le (.n 0) (.v 65544 0)) false) <|
          .ok [.tru (.lt (.n 0) (.n 0))]))
        (.f (.is (.lt (.n 0) (.v 0 3)) false) <|
         .ok [.tru (.lt (.n 0) (.n 0))]))
       (.f (.is (.eq (.v 0 2) (.v 0 6)) false) <|
        .ok [.tru (.lt (.n 0) (.n 0))]))
      (.f (.is (.v 65552 0) false) <|
       .ok [.tru (.lt (.n 0) (.n 0))]))
    (.f (.is (.v 65548 0) false) <|
     .ok [.tru (.lt (.n 0) (.n 0))])
theorem c32 : ConS Tryz.prog T C32 := con_tr (cs := [C14, C15]) (lcs := []) (known := []) (cons_cons c14 (cons_cons c15 (cons_nil _ _))) (Known.nil _) (N := 400) (d := 40) (t := t32) (by kernel_rfl) <| by
  intro E hl hp
  clear hl
  have hp := hp rfl
  simp only [C32, show T.pre 32 = Q32 from rfl, flatS, SP.flat, dvs, List.append_nil, List.cons_append, List.nil_append, Q32, U64, U32, I64, Big, W, wv, s64, WT, PR, MR, MB] at hp
  simp only [t32, C32, Tr.good, Fact.den, LX.den, DX.ls, DV.ls, DX.den, Bx.den, Ex.den, eo_add, eo_sub, eo_mul, eo_quo, eo_rem, eo_fdv, eo_mn, eo_mx, eo_land, eo_lor, eo_lxor, eo_landn, eo_shl, eo_shr, dvs, flatS, SP.flat, ST.flat, List.map_cons, List.map_nil, List.append_nil, List.cons_append, List.nil_append, ltb_t, ltb_f, leb_t, leb_f, eqb_t, eqb_f, decide_eq_true_eq, decide_eq_false_iff_not, Bool.not_eq_true', Bool.not_eq_false', Bool.and_eq_true, Bool.and_eq_false_imp, beq_iff_eq, beq_eq_false_iff_ne, bne_iff_ne, U64, U32, I64, Big, W, wv, Told, s64, WT, PR, MR, MB, Int.zero_mul, Int.zero_add, Int.add_zero, Int.mul_zero, IntKind.wrap_u64, IntKind.wrap_i64, IntKind.wrap_u32, ne_eq, forall_const, true_implies, show T.rel 14 = R14 from rfl, R14, show T.rel 15 = R15 from rfl, R15, show T.rel 32 = R32 from rfl, R32, show T.pre 32 = Q32 from rfl, Q32]
  revert hp
  generalize (E.r 0).i 0 = t
  generalize (E.r 0).i 1 = r
  generalize (E.r 0).i 2 = w
  generalize (E.r 0).i 3 = id
  generalize (E.r 0).i 4 = dt
  generalize (E.r 0).i 5 = dr
  generalize (E.r 0).i 6 = dw
  generalize (E.r 65544).i 0 = x8_0
  generalize (E.r 65548).c 0 = x12_0
  generalize (E.r 65552).c 0 = x16_0
  try simp only [mxI, mnI]
  try simp only [ltb, leb, eqb, Int.lt_irrefl, decide_false, Int.le_refl, decide_true]
  repeat' (first | intro _ | refine And.intro ?_ ?_ | refine Iff.intro ?_ ?_)
  all_goals first | omega | (simp_all; done) | (simp_all; omega)
end Go.Proofs.YthlcpdjpnbbaeaaGreatDoor.Fn
namespace Go.Proofs.YthlcpdjpnbbaeaaGreatDoor.Fn
open Go Go.RowKit Go.Proofs.YthlcpdjpnbbaeaaGreatDoor.Sy
set_option linter.unusedVariables false
set_option linter.unusedSimpArgs false
set_option maxRecDepth 100000
def t56 : Tr :=
  .br (.f (.is (.eq (.v 0 4) (.n 0)) true) <|
   .br (.f (.is (.eq (.v 0 3) (.n 0)) true) <|
    .ok [.tru (.and (.eq (.v 0 1) (.n 0)) (.and (.eq (.v 0 2) (.n 0)) (.le (.n 0) (.n 0))))])
   (.f (.is (.eq (.v 0 3) (.n 0)) false) <|
    .ok [.tru (.lt (.n 0) (.n 0))]))
  (.f (.is (.eq (.v 0 4) (.n 0)) false) <|
   .br (.f (.is (.lt (.n 0) (.v 0 4)) true) <|
    .br (.f (.is (.le (.v 0 4) (.n 32)) true) <|
     .br (.f (.is (.le (.wrap .u64 (.v 0 4)) (.v 0 3)) true) <|
      .ok [.tru (.le (.v 0 3) (.wrap .u64 (.bin .mul (.wrap .u64 (.v 0 4)) (.n 1048576))))])
     (.f (.is (.le (.wrap .u64 (.v 0 4)) (.v 0 3)) false) <|
      .ok [.tru (.lt (.n 0) (.n 0))]))
    (.f (.is (.le (.v 0 4) (.n 32)) false) <|
     .ok [.tru (.lt (.n 0) (.n 0))]))
   (.f (.is (.lt (.n 0) (.v 0 4)) false) <|
    .ok [.tru (.lt (.n 0) (.n 0))]))
theorem c56 : ConS Tryz.prog T C56 := con_tr (cs := []) (lcs := []) (known := []) (cons_nil _ _) (Known.nil _) (N := 400) (d := 40) (t := t56) (by kernel_rfl) <| by
  intro E hl hp
  clear hl
  have hp := hp rfl
  simp only [C56, show T.pre 56 = Q56 from rfl, flatS, SP.flat, dvs, List.append_nil, List.cons_append, List.nil_append, Q56, U64, U32, I64, Big, W, wv, s64, WT, PR, MR, MB] at hp
  simp only [t56, C56, Tr.good, Fact.den, LX.den, DX.ls, DV.ls, DX.den, Bx.den, Ex.den, eo_add, eo_sub, eo_mul, eo_quo, eo_rem, eo_fdv, eo_mn, eo_mx, eo_land, eo_lor, eo_lxor, eo_landn, eo_shl, eo_shr, dvs, flatS, SP.flat, ST.flat, List.map_cons, List.map_nil, List.append_nil, List.cons_append, List.nil_append, ltb_t, ltb_f, leb_t, leb_f, eqb_t, eqb_f, decide_eq_true_eq, decide_eq_false_iff_not, Bool.not_eq_true', Bool.not_eq_false', Bool.and_eq_true, Bool.and_eq_false_imp, beq_iff_eq, beq_eq_false_iff_ne, bne_iff_ne, U64, U32, I64, Big, W, wv, Told, s64, WT, PR, MR, MB, Int.zero_mul, Int.zero_add, Int.add_zero, Int.mul_zero, IntKind.wrap_u64, IntKind.wrap_i64, IntKind.wrap_u32, ne_eq, forall_const, true_implies, show T.rel 56 = R56 from rfl, R56, show T.pre 56 = Q56 from rfl, Q56]
  revert hp
  generalize (E.r 0).i 0 = b
  generalize (E.r 0).i 1 = h
  generalize (E.r 0).i 2 = l
  generalize (E.r 0).i 3 = w
  generalize (E.r 0).i 4 = n
  try simp only [mxI, mnI]
  try simp only [ltb, leb, eqb, Int.lt_irrefl, decide_false, Int.le_refl, decide_true]
  repeat' (first | intro _ | refine And.intro ?_ ?_ | refine Iff.intro ?_ ?_)
  all_goals first | omega | (simp_all; done) | (simp_all; omega)
end Go.Proofs.YthlcpdjpnbbaeaaGreatDoor.Fn
namespace Go.Proofs.YthlcpdjpnbbaeaaGreatDoor.Fn
open Go Go.RowKit Go.Proofs.YthlcpdjpnbbaeaaGreatDoor.Sy
set_option linter.unusedVariables false
set_option linter.unusedSimpArgs false
set_option maxRecDepth 100000

theorem small_cases94 (c : Int) (hc : c ≤ 1) : c = Int.ofNat 0 ∨ c = Int.ofNat 1 ∨ ∃ n, c = Int.negSucc n := by
  cases c with
  | ofNat n => match n, hc with
    | 0, _ => exact .inl rfl
    | 1, _ => exact .inr (.inl rfl)
    | n + 2, h => exact absurd h (by simp only [Int.ofNat_eq_natCast]; omega)
  | negSucc n => exact .inr (.inr ⟨n, rfl⟩)
theorem run94 (a b c : Int) (hc : c ≤ 1) (w : World) :
    (callFunc 94 #[.int .u64 a, .int .u64 b, .int .u64 c]).run Tryz.prog w = .ok (.value (.tuple #[.int .u64 (((a.toNat + b.toNat + c.toNat) % 18446744073709551616 : Nat) : Int), .int .u64 (((a.toNat + b.toNat + c.toNat) / 18446744073709551616 : Nat) : Int)])) w := by
  rw [run_callFunc_extern Tryz.func94 (by kernel_rfl) (by kernel_rfl) (by kernel_rfl) (e := add64Entry) (by kernel_rfl)]
  rcases small_cases94 c hc with rfl | rfl | ⟨n, rfl⟩ <;> rfl
theorem c94 : ConS Tryz.prog T C94 := con_ext (by kernel_rfl) rfl fun r w hp => by
  have hp : U64 (r.i 0) ∧ U64 (r.i 1) ∧ 0 ≤ r.i 2 ∧ r.i 2 ≤ 1 := hp rfl
  have hc : r.i 2 ≤ 1 := hp.2.2.2
  refine ⟨⟨fun j => if j = 0 then (((((r.i 0).toNat + (r.i 1).toNat + (r.i 2).toNat) % 18446744073709551616 : Nat)) : Int) else ((((r.i 0).toNat + (r.i 1).toNat + (r.i 2).toNat) / 18446744073709551616 : Nat) : Int), fun _ => false, fun _ => [], fun _ => none, fun _ => 0, fun _ => undef⟩, run94 (r.i 0) (r.i 1) (r.i 2) hc w, ?_⟩
  show R94 [.num (r.i 0), .num (r.i 1), .num (r.i 2)] [.num _, .num _]
  simp only [R94]
  constructor <;> simp <;> omega
end Go.Proofs.YthlcpdjpnbbaeaaGreatDoor.Fn
namespace Go.Proofs.YthlcpdjpnbbaeaaGreatDoor.Fn
open Go Go.RowKit Go.Proofs.YthlcpdjpnbbaeaaGreatDoor.Sy
set_option linter.unusedVariables false
set_option linter.unusedSimpArgs false
set_option maxRecDepth 100000
def t90 : Tr :=
  .br (.f (.rel 94 [.num (.v 0 1), .num (.v 0 3), .num (.n 0)] 65544 [.int .u64, .int .u64]) <|
   .br (.f (.rel 94 [.num (.wrap .u64 (.v 0 0)), .num (.wrap .u64 (.v 0 2)), .num (.v 65544 1)] 65557 [.int .u64, .int .u64]) <|
    .br (.f (.is (.beq (.lt (.v 0 0) (.n 0)) (.lt (.v 0 2) (.n 0))) true) <|
     .br (.f (.is (.beq (.lt (.v 0 0) (.n 0)) (.lt (.wrap .i64 (.v 65557 0)) (.n 0))) false) <|
      .ok [.num (.n 0), .num (.n 0), .tru (.lt (.n 0) (.n 0))])
     (.f (.is (.beq (.lt (.v 0 0) (.n 0)) (.lt (.wrap .i64 (.v 65557 0)) (.n 0))) true) <|
      .ok [.num (.wrap .i64 (.v 65557 0)), .num (.v 65544 0), .tru (.le (.n 0) (.n 0))]))
    (.f (.is (.beq (.lt (.v 0 0) (.n 0)) (.lt (.v 0 2) (.n 0))) false) <|
     .ok [.num (.wrap .i64 (.v 65557 0)), .num (.v 65544 0), .tru (.le (.n 0) (.n 0))]))
   (.f (.npre 94 [.num (.wrap .u64 (.v 0 0)), .num (.wrap .u64 (.v 0 2)), .num (.v 65544 1)]) <|
    .bad))
  (.f (.npre 94 [.num (.v 0 1), .num (.v 0 3), .num (.n 0)]) <|
   .bad)
theorem c90 : ConS Tryz.prog T C90 := con_tr (cs := [C94]) (lcs := []) (known := []) (cons_cons c94 (cons_nil _ _)) (Known.nil _) (N := 400) (d := 40) (t := t90) (by kernel_rfl) <| by
  intro E hl hp
  clear hl
  have hp := hp rfl
  simp only [C90, show T.pre 90 = Q90 from rfl, flatS, SP.flat, dvs, List.append_nil, List.cons_append, List.nil_append, Q90, U64, U32, I64, Big, W, wv, s64, WT, PR, MR, MB] at hp
  simp only [t90, C90, Tr.good, Fact.den, LX.den, DX.ls, DV.ls, DX.den, Bx.den, Ex.den, eo_add, eo_sub, eo_mul, eo_quo, eo_rem, eo_fdv, eo_mn, eo_mx, eo_land, eo_lor, eo_lxor, eo_landn, eo_shl, eo_shr, dvs, flatS, SP.flat, ST.flat, List.map_cons, List.map_nil, List.append_nil, List.cons_append, List.nil_append, ltb_t, ltb_f, leb_t, leb_f, eqb_t, eqb_f, decide_eq_true_eq, decide_eq_false_iff_not, Bool.not_eq_true', Bool.not_eq_false', Bool.and_eq_true, Bool.and_eq_false_imp, beq_iff_eq, beq_eq_false_iff_ne, bne_iff_ne, U64, U32, I64, Big, W, wv, Told, s64, WT, PR, MR, MB, Int.zero_mul, Int.zero_add, Int.add_zero, Int.mul_zero, IntKind.wrap_u64, IntKind.wrap_i64, IntKind.wrap_u32, ne_eq, forall_const, true_implies, show T.rel 90 = R90 from rfl, R90, show T.rel 94 = R94 from rfl, R94, show T.pre 90 = Q90 from rfl, Q90, show T.pre 94 = Q94 from rfl, Q94]
  revert hp
  generalize (E.r 0).i 0 = ah
  generalize (E.r 0).i 1 = al
  generalize (E.r 0).i 2 = bh
  generalize (E.r 0).i 3 = bl
  generalize (E.r 65544).i 0 = x8_0
  generalize (E.r 65544).i 1 = x8_1
  generalize (E.r 65557).i 0 = x21_0
  generalize (E.r 65557).i 1 = x21_1
  try simp only [mxI, mnI]
  try simp only [ltb, leb, eqb, Int.lt_irrefl, decide_false, Int.le_refl, decide_true]
  repeat' (first | intro _ | refine And.intro ?_ ?_ | refine Iff.intro ?_ ?_)
  all_goals first | omega | (simp_all; done) | (simp_all; omega)
end Go.Proofs.YthlcpdjpnbbaeaaGreatDoor.Fn
namespace Go.Proofs.YthlcpdjpnbbaeaaGreatDoor.Fn
open Go Go.RowKit Go.Proofs.YthlcpdjpnbbaeaaGreatDoor.Sy
set_option linter.unusedVariables false
set_option linter.unusedSimpArgs false
set_option maxRecDepth 100000
def t45 : Tr :=
  .br (.f (.is (.lt (.v 0 0) (.n 0)) true) <|
   .ok [.num (.n (-1)), .num (.wrap .u64 (.v 0 0))])
  (.f (.is (.lt (.v 0 0) (.n 0)) false) <|
   .ok [.num (.n 0), .num (.wrap .u64 (.v 0 0))])
theorem c45 : ConS Tryz.prog T C45 := con_tr (cs := []) (lcs := []) (known := []) (cons_nil _ _) (Known.nil _) (N := 400) (d := 40) (t := t45) (by kernel_rfl) <| by
  intro E hl hp
  clear hl
  have hp := hp rfl
  simp only [C45, show T.pre 45 = Q45 from rfl, flatS, SP.flat, dvs, List.append_nil, List.cons_append, List.nil_append, Q45, U64, U32, I64, Big, W, wv, s64, WT, PR, MR, MB] at hp
  simp only [t45, C45, Tr.good, Fact.den, LX.den, DX.ls, DV.ls, DX.den, Bx.den, Ex.den, eo_add, eo_sub, eo_mul, eo_quo, eo_rem, eo_fdv, eo_mn, eo_mx, eo_land, eo_lor, eo_lxor, eo_landn, eo_shl, eo_shr, dvs, flatS, SP.flat, ST.flat, List.map_cons, List.map_nil, List.append_nil, List.cons_append, List.nil_append, ltb_t, ltb_f, leb_t, leb_f, eqb_t, eqb_f, decide_eq_true_eq, decide_eq_false_iff_not, Bool.not_eq_true', Bool.not_eq_false', Bool.and_eq_true, Bool.and_eq_false_imp, beq_iff_eq, beq_eq_false_iff_ne, bne_iff_ne, U64, U32, I64, Big, W, wv, Told, s64, WT, PR, MR, MB, Int.zero_mul, Int.zero_add, Int.add_zero, Int.mul_zero, IntKind.wrap_u64, IntKind.wrap_i64, IntKind.wrap_u32, ne_eq, forall_const, true_implies, show T.rel 45 = R45 from rfl, R45, show T.pre 45 = Q45 from rfl, Q45]
  revert hp
  generalize (E.r 0).i 0 = x
  try simp only [mxI, mnI]
  try simp only [ltb, leb, eqb, Int.lt_irrefl, decide_false, Int.le_refl, decide_true]
  repeat' (first | intro _ | refine And.intro ?_ ?_ | refine Iff.intro ?_ ?_)
  all_goals first | omega | (simp_all; done) | (simp_all; omega)
end Go.Proofs.YthlcpdjpnbbaeaaGreatDoor.Fn
namespace Go.Proofs.YthlcpdjpnbbaeaaGreatDoor.Fn
open Go Go.RowKit Go.Proofs.YthlcpdjpnbbaeaaGreatDoor.Sy
set_option linter.unusedVariables false
set_option linter.unusedSimpArgs false
set_option maxRecDepth 100000

def row96 : Array Value → Sem Value := fun args => do
  let (x, y, b) ← Extern.MathBitsCarry.three "Sub64" args
  pure (Extern.MathBitsCarry.pair ((x + Extern.MathBitsCarry.m64 - y - b) % Extern.MathBitsCarry.m64) (if x < y + b then 1 else 0))
theorem small_cases96 (c : Int) (hc : c ≤ 1) : c = Int.ofNat 0 ∨ c = Int.ofNat 1 ∨ ∃ n, c = Int.negSucc n := by
  cases c with
  | ofNat n => match n, hc with
    | 0, _ => exact .inl rfl
    | 1, _ => exact .inr (.inl rfl)
    | n + 2, h => exact absurd h (by simp only [Int.ofNat_eq_natCast]; omega)
  | negSucc n => exact .inr (.inr ⟨n, rfl⟩)
theorem run96 (a b c : Int) (hc : c ≤ 1) (w : World) :
    (callFunc 96 #[.int .u64 a, .int .u64 b, .int .u64 c]).run Tryz.prog w = .ok (.value (.tuple #[.int .u64 (((a.toNat + 18446744073709551616 - b.toNat - c.toNat) % 18446744073709551616 : Nat) : Int), .int .u64 ((if a.toNat < b.toNat + c.toNat then 1 else 0 : Nat) : Int)])) w := by
  rw [run_callFunc_extern Tryz.func96 (by kernel_rfl) (by kernel_rfl) (by kernel_rfl) (e := row96) (by kernel_rfl)]
  rcases small_cases96 c hc with rfl | rfl | ⟨n, rfl⟩ <;> rfl
theorem c96 : ConS Tryz.prog T C96 := con_ext (by kernel_rfl) rfl fun r w hp => by
  have hp : U64 (r.i 0) ∧ U64 (r.i 1) ∧ 0 ≤ r.i 2 ∧ r.i 2 ≤ 1 := hp rfl
  have hc : r.i 2 ≤ 1 := hp.2.2.2
  refine ⟨⟨fun j => if j = 0 then (((((r.i 0).toNat + 18446744073709551616 - (r.i 1).toNat - (r.i 2).toNat) % 18446744073709551616 : Nat)) : Int) else ((if (r.i 0).toNat < (r.i 1).toNat + (r.i 2).toNat then 1 else 0 : Nat) : Int), fun _ => false, fun _ => [], fun _ => none, fun _ => 0, fun _ => undef⟩, run96 (r.i 0) (r.i 1) (r.i 2) hc w, ?_⟩
  show R96 [.num (r.i 0), .num (r.i 1), .num (r.i 2)] [.num _, .num _]
  simp only [R96]
  refine ⟨by simp; omega, fun h2 => ?_, fun h2 => ?_⟩
  · show ((if (r.i 0).toNat < (r.i 1).toNat + (r.i 2).toNat then 1 else 0 : Nat) : Int) = _
    rw [if_pos (by omega)]; rfl
  · show ((if (r.i 0).toNat < (r.i 1).toNat + (r.i 2).toNat then 1 else 0 : Nat) : Int) = _
    rw [if_neg (by omega)]; rfl
end Go.Proofs.YthlcpdjpnbbaeaaGreatDoor.Fn
namespace Go.Proofs.YthlcpdjpnbbaeaaGreatDoor.Fn
open Go Go.RowKit Go.Proofs.YthlcpdjpnbbaeaaGreatDoor.Sy
set_option linter.unusedVariables false
set_option linter.unusedSimpArgs false
set_option maxRecDepth 100000
def t98 : Tr :=
  .br (.f (.rel 96 [.num (.n 0), .num (.v 0 1), .num (.n 0)] 65540 [.int .u64, .int .u64]) <|
   .br (.f (.rel 96 [.num (.n 0), .num (.wrap .u64 (.v 0 0)), .num (.v 65540 1)] 65550 [.int .u64, .int .u64]) <|
    .ok [.num (.wrap .i64 (.v 65550 0)), .num (.v 65540 0)])
   (.f (.npre 96 [.num (.n 0), .num (.wrap .u64 (.v 0 0)), .num (.v 65540 1)]) <|
    .bad))
  (.f (.npre 96 [.num (.n 0), .num (.v 0 1), .num (.n 0)]) <|
   .bad)
theorem c98 : ConS Tryz.prog T C98 := con_tr (cs := [C96]) (lcs := []) (known := []) (cons_cons c96 (cons_nil _ _)) (Known.nil _) (N := 400) (d := 40) (t := t98) (by kernel_rfl) <| by
  intro E hl hp
  clear hl
  have hp := hp rfl
  simp only [C98, show T.pre 98 = Q98 from rfl, flatS, SP.flat, dvs, List.append_nil, List.cons_append, List.nil_append, Q98, U64, U32, I64, Big, W, wv, s64, WT, PR, MR, MB] at hp
  simp only [t98, C98, Tr.good, Fact.den, LX.den, DX.ls, DV.ls, DX.den, Bx.den, Ex.den, eo_add, eo_sub, eo_mul, eo_quo, eo_rem, eo_fdv, eo_mn, eo_mx, eo_land, eo_lor, eo_lxor, eo_landn, eo_shl, eo_shr, dvs, flatS, SP.flat, ST.flat, List.map_cons, List.map_nil, List.append_nil, List.cons_append, List.nil_append, ltb_t, ltb_f, leb_t, leb_f, eqb_t, eqb_f, decide_eq_true_eq, decide_eq_false_iff_not, Bool.not_eq_true', Bool.not_eq_false', Bool.and_eq_true, Bool.and_eq_false_imp, beq_iff_eq, beq_eq_false_iff_ne, bne_iff_ne, U64, U32, I64, Big, W, wv, Told, s64, WT, PR, MR, MB, Int.zero_mul, Int.zero_add, Int.add_zero, Int.mul_zero, IntKind.wrap_u64, IntKind.wrap_i64, IntKind.wrap_u32, ne_eq, forall_const, true_implies, show T.rel 96 = R96 from rfl, R96, show T.rel 98 = R98 from rfl, R98, show T.pre 96 = Q96 from rfl, Q96, show T.pre 98 = Q98 from rfl, Q98]
  revert hp
  generalize (E.r 0).i 0 = h
  generalize (E.r 0).i 1 = l
  generalize (E.r 65540).i 0 = x4_0
  generalize (E.r 65540).i 1 = x4_1
  generalize (E.r 65550).i 0 = x14_0
  generalize (E.r 65550).i 1 = x14_1
  try simp only [mxI, mnI]
  try simp only [ltb, leb, eqb, Int.lt_irrefl, decide_false, Int.le_refl, decide_true]
  repeat' (first | intro _ | refine And.intro ?_ ?_ | refine Iff.intro ?_ ?_)
  all_goals first | omega | (simp_all; done) | (simp_all; omega)
end Go.Proofs.YthlcpdjpnbbaeaaGreatDoor.Fn
namespace Go.Proofs.YthlcpdjpnbbaeaaGreatDoor.Fn
open Go Go.RowKit Go.Proofs.YthlcpdjpnbbaeaaGreatDoor.Sy
set_option linter.unusedVariables false
set_option linter.unusedSimpArgs false
set_option maxRecDepth 100000
def t92 : Tr :=
  .br (.f (.is (.lt (.v 0 0) (.n 0)) true) <|
   .br (.f (.rel 98 [.num (.v 0 0), .num (.v 0 1)] 65543 [.int .i64, .int .u64]) <|
    .ok [.num (.wrap .u64 (.v 65543 0)), .num (.v 65543 1)])
   (.f (.npre 98 [.num (.v 0 0), .num (.v 0 1)]) <|
    .bad))
  (.f (.is (.lt (.v 0 0) (.n 0)) false) <|
   .ok [.num (.wrap .u64 (.v 0 0)), .num (.v 0 1)])
theorem c92 : ConS Tryz.prog T C92 := con_tr (cs := [C98]) (lcs := []) (known := []) (cons_cons c98 (cons_nil _ _)) (Known.nil _) (N := 400) (d := 40) (t := t92) (by kernel_rfl) <| by
  intro E hl hp
  clear hl
  have hp := hp rfl
  simp only [C92, show T.pre 92 = Q92 from rfl, flatS, SP.flat, dvs, List.append_nil, List.cons_append, List.nil_append, Q92, U64, U32, I64, Big, W, wv, s64, WT, PR, MR, MB] at hp
  simp only [t92, C92, Tr.good, Fact.den, LX.den, DX.ls, DV.ls, DX.den, Bx.den, Ex.den, eo_add, eo_sub, eo_mul, eo_quo, eo_rem, eo_fdv, eo_mn, eo_mx, eo_land, eo_lor, eo_lxor, eo_landn, eo_shl, eo_shr, dvs, flatS, SP.flat, ST.flat, List.map_cons, List.map_nil, List.append_nil, List.cons_append, List.nil_append, ltb_t, ltb_f, leb_t, leb_f, eqb_t, eqb_f, decide_eq_true_eq, decide_eq_false_iff_not, Bool.not_eq_true', Bool.not_eq_false', Bool.and_eq_true, Bool.and_eq_false_imp, beq_iff_eq, beq_eq_false_iff_ne, bne_iff_ne, U64, U32, I64, Big, W, wv, Told, s64, WT, PR, MR, MB, Int.zero_mul, Int.zero_add, Int.add_zero, Int.mul_zero, IntKind.wrap_u64, IntKind.wrap_i64, IntKind.wrap_u32, ne_eq, forall_const, true_implies, show T.rel 92 = R92 from rfl, R92, show T.rel 98 = R98 from rfl, R98, show T.pre 92 = Q92 from rfl, Q92, show T.pre 98 = Q98 from rfl, Q98]
  revert hp
  generalize (E.r 0).i 0 = h
  generalize (E.r 0).i 1 = l
  generalize (E.r 65543).i 0 = x7_0
  generalize (E.r 65543).i 1 = x7_1
  try simp only [mxI, mnI]
  try simp only [ltb, leb, eqb, Int.lt_irrefl, decide_false, Int.le_refl, decide_true]
  repeat' (first | intro _ | refine And.intro ?_ ?_ | refine Iff.intro ?_ ?_)
  all_goals first | omega | (simp_all; done) | (simp_all; omega)
end Go.Proofs.YthlcpdjpnbbaeaaGreatDoor.Fn
namespace Go.Proofs.YthlcpdjpnbbaeaaGreatDoor.Fn
open Go Go.RowKit Go.Proofs.YthlcpdjpnbbaeaaGreatDoor.Sy
set_option linter.unusedVariables false
set_option linter.unusedSimpArgs false
set_option maxRecDepth 100000
def t93 : Tr :=
  .f (.is (.eq (.v 65554 0) (.wrap .u64 (.bin .mul (.bin (.land .u64) (.v 0 0) (.n 4294967295)) (.bin (.land .u64) (.v 0 1) (.n 4294967295))))) true) <|
   .f (.is (.eq (.v 65562 0) (.wrap .u64 (.bin .mul (.bin .fdv (.v 0 0) (.n 4294967296)) (.bin (.land .u64) (.v 0 1) (.n 4294967295))))) true) <|
    .f (.is (.eq (.v 65566 0) (.bin (.land .u64) (.wrap .u64 (.bin .add (.v 65562 0) (.bin .fdv (.v 65554 0) (.n 4294967296)))) (.n 4294967295))) true) <|
     .f (.is (.eq (.v 65570 0) (.bin .fdv (.wrap .u64 (.bin .add (.v 65562 0) (.bin .fdv (.v 65554 0) (.n 4294967296)))) (.n 4294967296))) true) <|
      .f (.is (.eq (.v 65577 0) (.wrap .u64 (.bin .mul (.bin (.land .u64) (.v 0 0) (.n 4294967295)) (.bin .fdv (.v 0 1) (.n 4294967296))))) true) <|
       .f (.is (.eq (.v 65587 0) (.wrap .u64 (.bin .mul (.bin .fdv (.v 0 0) (.n 4294967296)) (.bin .fdv (.v 0 1) (.n 4294967296))))) true) <|
        .f (.is (.eq (.v 65588 0) (.wrap .u64 (.bin .add (.wrap .u64 (.bin .add (.v 65587 0) (.v 65570 0))) (.bin .fdv (.wrap .u64 (.bin .add (.v 65566 0) (.v 65577 0))) (.n 4294967296))))) true) <|
         .ok [.num (.v 65588 0), .num (.wrap .u64 (.bin .mul (.v 0 0) (.v 0 1)))]
theorem c93 : ConS Tryz.prog T C93 := con_tr (cs := []) (lcs := []) (known := []) (cons_nil _ _) (Known.nil _) (N := 400) (d := 40) (t := t93) (by kernel_rfl) <| by
  intro E hl hp
  clear hl
  have hp := hp rfl
  simp only [C93, show T.pre 93 = Q93 from rfl, flatS, SP.flat, dvs, List.append_nil, List.cons_append, List.nil_append, Q93, U64, U32, I64, Big, W, wv, s64, WT, PR, MR, MB] at hp
  simp only [t93, C93, Tr.good, Fact.den, LX.den, DX.ls, DV.ls, DX.den, Bx.den, Ex.den, eo_add, eo_sub, eo_mul, eo_quo, eo_rem, eo_fdv, eo_mn, eo_mx, eo_land, eo_lor, eo_lxor, eo_landn, eo_shl, eo_shr, dvs, flatS, SP.flat, ST.flat, List.map_cons, List.map_nil, List.append_nil, List.cons_append, List.nil_append, ltb_t, ltb_f, leb_t, leb_f, eqb_t, eqb_f, decide_eq_true_eq, decide_eq_false_iff_not, Bool.not_eq_true', Bool.not_eq_false', Bool.and_eq_true, Bool.and_eq_false_imp, beq_iff_eq, beq_eq_false_iff_ne, bne_iff_ne, U64, U32, I64, Big, W, wv, Told, s64, WT, PR, MR, MB, Int.zero_mul, Int.zero_add, Int.add_zero, Int.mul_zero, IntKind.wrap_u64, IntKind.wrap_i64, IntKind.wrap_u32, ne_eq, forall_const, true_implies, show T.rel 93 = R93 from rfl, R93, show T.pre 93 = Q93 from rfl, Q93]
  revert hp
  generalize (E.r 0).i 0 = x
  generalize (E.r 0).i 1 = y
  generalize (E.r 65554).i 0 = x18_0
  generalize (E.r 65562).i 0 = x26_0
  generalize (E.r 65566).i 0 = x30_0
  generalize (E.r 65570).i 0 = x34_0
  generalize (E.r 65577).i 0 = x41_0
  generalize (E.r 65587).i 0 = x51_0
  generalize (E.r 65588).i 0 = x52_0
  try simp only [mxI, mnI]
  try simp only [ltb, leb, eqb, Int.lt_irrefl, decide_false, Int.le_refl, decide_true]
  intro hp e18 e26 e30 e34 e41 e51 e52
  obtain ⟨⟨x0, x1⟩, ⟨y0, y1⟩⟩ := hp
  rw [land_mask x0 x1, land_mask y0 y1] at e18
  rw [land_mask y0 y1, fdv (by omega)] at e26
  rw [land_mask x0 x1, fdv (by omega)] at e41
  rw [fdv (by omega), fdv (by omega)] at e51
  simp only [fdv (show (0 : Int) ≤ 4294967296 by omega)] at e30 e34 e52
  have p00 := mul_below (a := x % 4294967296) (b := y % 4294967296) (c := 4294967295) (d := 4294967295) (by omega) (by omega) (by omega) (by omega)
  have p10 := mul_below (a := x / 4294967296) (b := y % 4294967296) (c := 4294967295) (d := 4294967295) (by omega) (by omega) (by omega) (by omega)
  have p01 := mul_below (a := x % 4294967296) (b := y / 4294967296) (c := 4294967295) (d := 4294967295) (by omega) (by omega) (by omega) (by omega)
  have p11 := mul_below (a := x / 4294967296) (b := y / 4294967296) (c := 4294967295) (d := 4294967295) (by omega) (by omega) (by omega) (by omega)
  have e : x * y = (x / 4294967296) * (y / 4294967296) * 18446744073709551616 + ((x / 4294967296) * (y % 4294967296) + (x % 4294967296) * (y / 4294967296)) * 4294967296 + (x % 4294967296) * (y % 4294967296) := by
    have hx : x = x / 4294967296 * 4294967296 + x % 4294967296 := by omega
    have hy : y = y / 4294967296 * 4294967296 + y % 4294967296 := by omega
    generalize x / 4294967296 = a at *
    generalize x % 4294967296 = b at *
    generalize y / 4294967296 = c at *
    generalize y % 4294967296 = d at *
    subst hx hy
    grind
  generalize (x / 4294967296) * (y / 4294967296) = q11 at *
  generalize (x / 4294967296) * (y % 4294967296) = q10 at *
  generalize (x % 4294967296) * (y / 4294967296) = q01 at *
  generalize (x % 4294967296) * (y % 4294967296) = q00 at *
  generalize x * y = z at *
  rw [land_mask (by omega) (by omega)] at e30
  omega
end Go.Proofs.YthlcpdjpnbbaeaaGreatDoor.Fn
namespace Go.Proofs.YthlcpdjpnbbaeaaGreatDoor.Fn
open Go Go.RowKit Go.Proofs.YthlcpdjpnbbaeaaGreatDoor.Sy
set_option linter.unusedVariables false
set_option linter.unusedSimpArgs false
set_option maxRecDepth 100000
def t95 : Tr :=
  .br (.f (.is (.v 0 2) true) <|
   .br (.f (.is (.lt (.v 0 0) (.n 9223372036854775808)) true) <|
    .br (.f (.rel 98 [.num (.wrap .i64 (.v 0 0)), .num (.v 0 1)] 65559 [.int .i64, .int .u64]) <|
     .ok [.num (.v 65559 0), .num (.v 65559 1), .tru (.le (.n 0) (.n 0))])
    (.f (.npre 98 [.num (.wrap .i64 (.v 0 0)), .num (.v 0 1)]) <|
     .bad))
   (.f (.is (.lt (.v 0 0) (.n 9223372036854775808)) false) <|
    .br (.f (.is (.eq (.v 0 0) (.n 9223372036854775808)) true) <|
     .br (.f (.is (.eq (.v 0 1) (.n 0)) true) <|
      .br (.f (.rel 98 [.num (.wrap .i64 (.v 0 0)), .num (.v 0 1)] 65559 [.int .i64, .int .u64]) <|
       .ok [.num (.v 65559 0), .num (.v 65559 1), .tru (.le (.n 0) (.n 0))])
      (.f (.npre 98 [.num (.wrap .i64 (.v 0 0)), .num (.v 0 1)]) <|
       .bad))
     (.f (.is (.eq (.v 0 1) (.n 0)) false) <|
      .ok [.num (.n 0), .num (.n 0), .tru (.lt (.n 0) (.n 0))]))
    (.f (.is (.eq (.v 0 0) (.n 9223372036854775808)) false) <|
     .ok [.num (.n 0), .num (.n 0), .tru (.lt (.n 0) (.n 0))])))
  (.f (.is (.v 0 2) false) <|
   .br (.f (.is (.lt (.v 0 0) (.n 9223372036854775808)) true) <|
    .ok [.num (.wrap .i64 (.v 0 0)), .num (.v 0 1), .tru (.le (.n 0) (.n 0))])
   (.f (.is (.lt (.v 0 0) (.n 9223372036854775808)) false) <|
    .ok [.num (.n 0), .num (.n 0), .tru (.lt (.n 0) (.n 0))]))
theorem c95 : ConS Tryz.prog T C95 := con_tr (cs := [C98]) (lcs := []) (known := []) (cons_cons c98 (cons_nil _ _)) (Known.nil _) (N := 400) (d := 40) (t := t95) (by kernel_rfl) <| by
  intro E hl hp
  clear hl
  have hp := hp rfl
  simp only [C95, show T.pre 95 = Q95 from rfl, flatS, SP.flat, dvs, List.append_nil, List.cons_append, List.nil_append, Q95, U64, U32, I64, Big, W, wv, s64, WT, PR, MR, MB] at hp
  simp only [t95, C95, Tr.good, Fact.den, LX.den, DX.ls, DV.ls, DX.den, Bx.den, Ex.den, eo_add, eo_sub, eo_mul, eo_quo, eo_rem, eo_fdv, eo_mn, eo_mx, eo_land, eo_lor, eo_lxor, eo_landn, eo_shl, eo_shr, dvs, flatS, SP.flat, ST.flat, List.map_cons, List.map_nil, List.append_nil, List.cons_append, List.nil_append, ltb_t, ltb_f, leb_t, leb_f, eqb_t, eqb_f, decide_eq_true_eq, decide_eq_false_iff_not, Bool.not_eq_true', Bool.not_eq_false', Bool.and_eq_true, Bool.and_eq_false_imp, beq_iff_eq, beq_eq_false_iff_ne, bne_iff_ne, U64, U32, I64, Big, W, wv, Told, s64, WT, PR, MR, MB, Int.zero_mul, Int.zero_add, Int.add_zero, Int.mul_zero, IntKind.wrap_u64, IntKind.wrap_i64, IntKind.wrap_u32, ne_eq, forall_const, true_implies, show T.rel 95 = R95 from rfl, R95, show T.rel 98 = R98 from rfl, R98, show T.pre 95 = Q95 from rfl, Q95, show T.pre 98 = Q98 from rfl, Q98]
  revert hp
  generalize (E.r 0).i 0 = hi
  generalize (E.r 0).i 1 = lo
  generalize (E.r 0).c 2 = below
  generalize (E.r 65559).i 0 = x23_0
  generalize (E.r 65559).i 1 = x23_1
  try simp only [mxI, mnI]
  try simp only [ltb, leb, eqb, Int.lt_irrefl, decide_false, Int.le_refl, decide_true]
  repeat' (first | intro _ | refine And.intro ?_ ?_ | refine Iff.intro ?_ ?_)
  all_goals first | omega | (simp_all; done) | (simp_all; omega)
end Go.Proofs.YthlcpdjpnbbaeaaGreatDoor.Fn
namespace Go.Proofs.YthlcpdjpnbbaeaaGreatDoor.Fn
open Go Go.RowKit Go.Proofs.YthlcpdjpnbbaeaaGreatDoor.Sy
set_option linter.unusedVariables false
set_option linter.unusedSimpArgs false
set_option maxRecDepth 100000
def t57 : Tr :=
  .br (.f (.rel 92 [.num (.v 0 0), .num (.v 0 1)] 65540 [.int .u64, .int .u64]) <|
   .br (.f (.rel 45 [.num (.v 0 2)] 65547 [.int .i64, .int .u64]) <|
    .br (.f (.rel 92 [.num (.v 65547 0), .num (.v 65547 1)] 65548 [.int .u64, .int .u64]) <|
     .br (.f (.rel 93 [.num (.v 65540 0), .num (.v 65548 1)] 65556 [.int .u64, .int .u64]) <|
      .br (.f (.rel 93 [.num (.v 65540 1), .num (.v 65548 1)] 65564 [.int .u64, .int .u64]) <|
       .br (.f (.rel 94 [.num (.v 65556 1), .num (.v 65564 0), .num (.n 0)] 65572 [.int .u64, .int .u64]) <|
        .br (.f (.is (.eq (.v 65556 0) (.n 0)) false) <|
         .ok [.num (.n 0), .num (.n 0), .tru (.lt (.n 0) (.n 0))])
        (.f (.is (.eq (.v 65556 0) (.n 0)) true) <|
         .br (.f (.is (.eq (.v 65572 1) (.n 0)) false) <|
          .ok [.num (.n 0), .num (.n 0), .tru (.lt (.n 0) (.n 0))])
         (.f (.is (.eq (.v 65572 1) (.n 0)) true) <|
          .br (.f (.rel 95 [.num (.v 65572 0), .num (.v 65564 1), .tru (.not (.beq (.lt (.v 0 0) (.n 0)) (.lt (.v 0 2) (.n 0))))] 65592 [.int .i64, .int .u64, .bool]) <|
           .ok [.num (.v 65592 0), .num (.v 65592 1), .tru (.v 65592 2)])
          (.f (.npre 95 [.num (.v 65572 0), .num (.v 65564 1), .tru (.not (.beq (.lt (.v 0 0) (.n 0)) (.lt (.v 0 2) (.n 0))))]) <|
           .bad))))
       (.f (.npre 94 [.num (.v 65556 1), .num (.v 65564 0), .num (.n 0)]) <|
        .bad))
      (.f (.npre 93 [.num (.v 65540 1), .num (.v 65548 1)]) <|
       .bad))
     (.f (.npre 93 [.num (.v 65540 0), .num (.v 65548 1)]) <|
      .bad))
    (.f (.npre 92 [.num (.v 65547 0), .num (.v 65547 1)]) <|
     .bad))
   (.f (.npre 45 [.num (.v 0 2)]) <|
    .bad))
  (.f (.npre 92 [.num (.v 0 0), .num (.v 0 1)]) <|
   .bad)
theorem c57 : ConS Tryz.prog T C57 := con_tr (cs := [C45, C92, C93, C94, C95]) (lcs := []) (known := []) (cons_cons c45 (cons_cons c92 (cons_cons c93 (cons_cons c94 (cons_cons c95 (cons_nil _ _)))))) (Known.nil _) (N := 400) (d := 40) (t := t57) (by kernel_rfl) <| by
  intro E hl hp
  clear hl
  have hp := hp rfl
  simp only [C57, show T.pre 57 = Q57 from rfl, flatS, SP.flat, dvs, List.append_nil, List.cons_append, List.nil_append, Q57, U64, U32, I64, Big, W, wv, s64, WT, PR, MR, MB] at hp
  simp only [t57, C57, Tr.good, Fact.den, LX.den, DX.ls, DV.ls, DX.den, Bx.den, Ex.den, eo_add, eo_sub, eo_mul, eo_quo, eo_rem, eo_fdv, eo_mn, eo_mx, eo_land, eo_lor, eo_lxor, eo_landn, eo_shl, eo_shr, dvs, flatS, SP.flat, ST.flat, List.map_cons, List.map_nil, List.append_nil, List.cons_append, List.nil_append, ltb_t, ltb_f, leb_t, leb_f, eqb_t, eqb_f, decide_eq_true_eq, decide_eq_false_iff_not, Bool.not_eq_true', Bool.not_eq_false', Bool.and_eq_true, Bool.and_eq_false_imp, beq_iff_eq, beq_eq_false_iff_ne, bne_iff_ne, U64, U32, I64, Big, W, wv, Told, s64, WT, PR, MR, MB, Int.zero_mul, Int.zero_add, Int.add_zero, Int.mul_zero, IntKind.wrap_u64, IntKind.wrap_i64, IntKind.wrap_u32, ne_eq, forall_const, true_implies, show T.rel 45 = R45 from rfl, R45, show T.rel 57 = R57 from rfl, R57, show T.rel 92 = R92 from rfl, R92, show T.rel 93 = R93 from rfl, R93, show T.rel 94 = R94 from rfl, R94, show T.rel 95 = R95 from rfl, R95, show T.pre 45 = Q45 from rfl, Q45, show T.pre 57 = Q57 from rfl, Q57, show T.pre 92 = Q92 from rfl, Q92, show T.pre 93 = Q93 from rfl, Q93, show T.pre 94 = Q94 from rfl, Q94, show T.pre 95 = Q95 from rfl, Q95]
  revert hp
  generalize (E.r 0).i 0 = h
  generalize (E.r 0).i 1 = l
  generalize (E.r 0).i 2 = b
  generalize (E.r 65540).i 0 = x4_0
  generalize (E.r 65540).i 1 = x4_1
  generalize (E.r 65547).i 0 = x11_0
  generalize (E.r 65547).i 1 = x11_1
  generalize (E.r 65548).i 0 = x12_0
  generalize (E.r 65548).i 1 = x12_1
  generalize (E.r 65556).i 0 = x20_0
  generalize (E.r 65556).i 1 = x20_1
  generalize (E.r 65564).i 0 = x28_0
  generalize (E.r 65564).i 1 = x28_1
  generalize (E.r 65572).i 0 = x36_0
  generalize (E.r 65572).i 1 = x36_1
  generalize (E.r 65592).i 0 = x56_0
  generalize (E.r 65592).i 1 = x56_1
  generalize (E.r 65592).c 2 = x56_2
  try simp only [mxI, mnI]
  try simp only [ltb, leb, eqb, Int.lt_irrefl, decide_false, Int.le_refl, decide_true]
  intro hp
  refine ⟨fun f1 => ⟨fun f2 => ⟨fun f3 => ⟨fun f4 => ⟨fun f5 => ⟨fun f6 => ?_, ?_⟩, ?_⟩, ?_⟩, ?_⟩, ?_⟩, ?_⟩
  · have n0 : x12_0 = 0 := by omega
    have hs := mul_sign (v := h * 18446744073709551616 + l) (b := b) (m0 := x4_0) (m1 := x4_1) (n := x12_1) (by omega) (by omega) (by omega) (by omega)
    generalize (h * 18446744073709551616 + l) * b = z at *
    generalize x4_0 * x12_1 = H at *
    generalize x4_1 * x12_1 = L at *
    by_cases s1 : h < 0 <;> by_cases s2 : b < 0 <;> simp only [s1, s2, decide_true, decide_false, not_true_eq_false, false_imp_iff, true_imp_iff, true_and, and_true, not_false_eq_true, reduceCtorEq]
    all_goals cases x56_2 <;> simp only [false_imp_iff, true_imp_iff, true_and, and_true, reduceCtorEq] <;> omega
  all_goals try simp only [true_and]
  all_goals omega
end Go.Proofs.YthlcpdjpnbbaeaaGreatDoor.Fn
namespace Go.Proofs.YthlcpdjpnbbaeaaGreatDoor.Fn
open Go Go.RowKit Go.Proofs.YthlcpdjpnbbaeaaGreatDoor.Sy
set_option linter.unusedVariables false
set_option linter.unusedSimpArgs false
set_option maxRecDepth 100000
def t112 : Tr :=
  .ok [.num (.n 0), .num (.v 0 0)]
theorem c112 : ConS Tryz.prog T C112 := con_tr (cs := []) (lcs := []) (known := []) (cons_nil _ _) (Known.nil _) (N := 400) (d := 40) (t := t112) (by kernel_rfl) <| by
  intro E hl hp
  clear hl
  clear hp
  simp only [t112, C112, Tr.good, Fact.den, LX.den, DX.ls, DV.ls, DX.den, Bx.den, Ex.den, eo_add, eo_sub, eo_mul, eo_quo, eo_rem, eo_fdv, eo_mn, eo_mx, eo_land, eo_lor, eo_lxor, eo_landn, eo_shl, eo_shr, dvs, flatS, SP.flat, ST.flat, List.map_cons, List.map_nil, List.append_nil, List.cons_append, List.nil_append, ltb_t, ltb_f, leb_t, leb_f, eqb_t, eqb_f, decide_eq_true_eq, decide_eq_false_iff_not, Bool.not_eq_true', Bool.not_eq_false', Bool.and_eq_true, Bool.and_eq_false_imp, beq_iff_eq, beq_eq_false_iff_ne, bne_iff_ne, U64, U32, I64, Big, W, wv, Told, s64, WT, PR, MR, MB, Int.zero_mul, Int.zero_add, Int.add_zero, Int.mul_zero, IntKind.wrap_u64, IntKind.wrap_i64, IntKind.wrap_u32, ne_eq, forall_const, true_implies, show T.rel 112 = R112 from rfl, R112]
  generalize (E.r 0).i 0 = x
  try simp only [mxI, mnI]
  try simp only [ltb, leb, eqb, Int.lt_irrefl, decide_false, Int.le_refl, decide_true]
  repeat' (first | intro _ | refine And.intro ?_ ?_ | refine Iff.intro ?_ ?_)
  all_goals first | omega | (simp_all; done) | (simp_all; omega)
end Go.Proofs.YthlcpdjpnbbaeaaGreatDoor.Fn
