/- What is told of the functions, shown: (turnstone/vtime.Time).Since, turnstone/pos.Floors, turnstone/item.Spread, turnstone/span.Within, turnstone/span.Room, turnstone/pos.weight, (turnstone/pos.Pos).Right, (turnstone/item.Item).Right. -/
import Derived.Test.YthlcpdjpnbbaeaaGreatDoorTab
namespace Go.Proofs.YthlcpdjpnbbaeaaGreatDoor.Fn
open Go Go.RowKit Go.Proofs.YthlcpdjpnbbaeaaGreatDoor.Sy
set_option linter.unusedVariables false
set_option linter.unusedSimpArgs false
set_option maxRecDepth 100000
def t14 : Tr :=
  .ok [.num (.wrap .i64 (.wrap .u64 (.bin .sub (.v 0 0) (.v 0 1))))]
theorem c14 : ConS Tryz.prog T C14 := con_tr (cs := []) (lcs := []) (known := []) (cons_nil _ _) (Known.nil _) (N := 400) (d := 40) (t := t14) (by kernel_rfl) <| by
  intro E hl hp
  clear hl
  clear hp
  simp only [t14, C14, Tr.good, Fact.den, LX.den, DX.ls, DV.ls, DX.den, Bx.den, Ex.den, eo_add, eo_sub, eo_mul, eo_quo, eo_rem, eo_fdv, eo_mn, eo_mx, eo_land, eo_lor, eo_lxor, eo_landn, eo_shl, eo_shr, dvs, flatS, SP.flat, ST.flat, List.map_cons, List.map_nil, List.append_nil, List.cons_append, List.nil_append, ltb_t, ltb_f, leb_t, leb_f, eqb_t, eqb_f, decide_eq_true_eq, decide_eq_false_iff_not, Bool.not_eq_true', Bool.not_eq_false', Bool.and_eq_true, Bool.and_eq_false_imp, beq_iff_eq, beq_eq_false_iff_ne, bne_iff_ne, U64, U32, I64, Big, W, wv, Told, s64, WT, PR, MR, MB, Int.zero_mul, Int.zero_add, Int.add_zero, Int.mul_zero, IntKind.wrap_u64, IntKind.wrap_i64, IntKind.wrap_u32, ne_eq, forall_const, true_implies, show T.rel 14 = R14 from rfl, R14]
  generalize (E.r 0).i 0 = t
  generalize (E.r 0).i 1 = u
  try simp only [mxI, mnI]
  try simp only [ltb, leb, eqb, Int.lt_irrefl, decide_false, Int.le_refl, decide_true]
  repeat' (first | intro _ | refine And.intro ?_ ?_ | refine Iff.intro ?_ ?_)
  all_goals first | omega | (simp_all; done) | (simp_all; omega)
end Go.Proofs.YthlcpdjpnbbaeaaGreatDoor.Fn
namespace Go.Proofs.YthlcpdjpnbbaeaaGreatDoor.Fn
open Go Go.RowKit Go.Proofs.YthlcpdjpnbbaeaaGreatDoor.Sy
set_option linter.unusedVariables false
set_option linter.unusedSimpArgs false
set_option maxRecDepth 100000
def t83 : Tr :=
  .br (.f (.rel 108302 [.num (.v 0 0), .lst 0 1, .num (.n 0), .num (.n 0), .num (.n 0)] 65541 [.int .i64, .int .i64, .int .i64]) <|
   .br (.f (.is (.lt (.v 65541 2) (.len 0 1)) false) <|
    .ok [.num (.v 65541 0), .num (.v 65541 1)])
   (.f (.is (.lt (.v 65541 2) (.len 0 1)) true) <|
    .br (.f (.is (.lt (.v 65541 2) (.n 0)) true) <|
     .bad)
    (.f (.is (.lt (.v 65541 2) (.n 0)) false) <|
     .f (.rel 14 [.num (.at 0 1 (.v 65541 2) 0), .num (.v 0 0)] 65552 [.int .i64]) <|
      .br (.f (.is (.eq (.v 65541 2) (.n 0)) true) <|
       .br (.f (.nrel 108302 [.num (.v 0 0), .lst 0 1, .num (.n 0), .num (.n 0), .num (.n 0)] [.num (.bin .mn (.v 65552 0) (.v 65552 0)), .num (.bin .mx (.v 65552 0) (.v 65552 0)), .num (.wrap .i64 (.bin .add (.v 65541 2) (.n 1)))]) <|
        .bad)
       (.f (.ndec 108302 [.num (.v 0 0), .lst 0 1, .num (.n 0), .num (.n 0), .num (.n 0)] [.num (.v 65541 0), .num (.v 65541 1), .num (.v 65541 2)] [.num (.bin .mn (.v 65552 0) (.v 65552 0)), .num (.bin .mx (.v 65552 0) (.v 65552 0)), .num (.wrap .i64 (.bin .add (.v 65541 2) (.n 1)))]) <|
        .bad))
      (.f (.is (.eq (.v 65541 2) (.n 0)) false) <|
       .br (.f (.nrel 108302 [.num (.v 0 0), .lst 0 1, .num (.n 0), .num (.n 0), .num (.n 0)] [.num (.bin .mn (.v 65541 0) (.v 65552 0)), .num (.bin .mx (.v 65541 1) (.v 65552 0)), .num (.wrap .i64 (.bin .add (.v 65541 2) (.n 1)))]) <|
        .bad)
       (.f (.ndec 108302 [.num (.v 0 0), .lst 0 1, .num (.n 0), .num (.n 0), .num (.n 0)] [.num (.v 65541 0), .num (.v 65541 1), .num (.v 65541 2)] [.num (.bin .mn (.v 65541 0) (.v 65552 0)), .num (.bin .mx (.v 65541 1) (.v 65552 0)), .num (.wrap .i64 (.bin .add (.v 65541 2) (.n 1)))]) <|
        .bad)))))
  (.f (.nrel 108302 [.num (.v 0 0), .lst 0 1, .num (.n 0), .num (.n 0), .num (.n 0)] [.num (.n 0), .num (.n 0), .num (.n 0)]) <|
   .bad)
theorem c83 : ConS Tryz.prog T C83 := con_tr (cs := [C14]) (lcs := [L108302]) (known := []) (cons_cons c14 (cons_nil _ _)) (Known.nil _) (N := 400) (d := 40) (t := t83) (by kernel_rfl) <| by
  intro E hl hp
  have hl1 := hl 1 _ rfl
  clear hl
  clear hp
  simp only [t83, C83, Tr.good, Fact.den, LX.den, DX.ls, DV.ls, DX.den, Bx.den, Ex.den, eo_add, eo_sub, eo_mul, eo_quo, eo_rem, eo_fdv, eo_mn, eo_mx, eo_land, eo_lor, eo_lxor, eo_landn, eo_shl, eo_shr, dvs, flatS, SP.flat, ST.flat, List.map_cons, List.map_nil, List.append_nil, List.cons_append, List.nil_append, ltb_t, ltb_f, leb_t, leb_f, eqb_t, eqb_f, decide_eq_true_eq, decide_eq_false_iff_not, Bool.not_eq_true', Bool.not_eq_false', Bool.and_eq_true, Bool.and_eq_false_imp, beq_iff_eq, beq_eq_false_iff_ne, bne_iff_ne, U64, U32, I64, Big, W, wv, Told, s64, WT, PR, MR, MB, Int.zero_mul, Int.zero_add, Int.add_zero, Int.mul_zero, IntKind.wrap_u64, IntKind.wrap_i64, IntKind.wrap_u32, ne_eq, forall_const, true_implies, show T.rel 14 = R14 from rfl, R14, show T.rel 83 = R83 from rfl, R83, show T.rel 108302 = R108302 from rfl, R108302, show T.mu 108302 = M108302 from rfl, M108302]
  revert hl1
  generalize (E.r 0).i 0 = base
  generalize (E.r 0).l 1 = xs
  generalize (E.r 65541).i 0 = x5_0
  generalize (E.r 65541).i 1 = x5_1
  generalize (E.r 65541).i 2 = x5_2
  generalize (E.r 65552).i 0 = x16_0
  try simp only [mxI, mnI]
  try simp only [ltb, leb, eqb, Int.lt_irrefl, decide_false, Int.le_refl, decide_true]
  intro hl
  have m1 := hl.2
  simp only [maxLen] at m1
  refine ⟨fun ⟨i0, i1, i2, i3⟩ => ⟨fun c => ?_, fun c => ⟨by omega, fun _ e => ?_⟩⟩, fun n => n ⟨trivial, by omega, rfl, rfl⟩⟩
  · have : x5_2.toNat = xs.length := by omega
    rw [i2, i3, this]
    exact ⟨rfl, rfl⟩
  · obtain ⟨k, rfl⟩ := Int.eq_ofNat_of_zero_le i0
    have ew : ((k : Int) + 1 + 9223372036854775808) % 18446744073709551616 - 9223372036854775808 = ((k + 1 : Nat) : Int) := by omega
    simp only [ew, Int.toNat_natCast] at *
    have a := mnF_step (tf 0 base xs) k
    have b := mxF_step (tf 0 base xs) k
    have et : tf 0 base xs k = x16_0 := by rw [e]; rfl
    rw [et] at a b
    refine ⟨fun z => ⟨fun n => n ⟨by omega, by omega, ?_, ?_⟩, by omega⟩, fun z => ⟨fun n => n ⟨by omega, by omega, ?_, ?_⟩, by omega⟩⟩
    · rw [a.1 (by omega)]; simp
    · rw [b.1 (by omega)]; simp
    · have := a.2 (by omega)
      split <;> omega
    · have := b.2 (by omega)
      split <;> omega
end Go.Proofs.YthlcpdjpnbbaeaaGreatDoor.Fn
namespace Go.Proofs.YthlcpdjpnbbaeaaGreatDoor.Fn
open Go Go.RowKit Go.Proofs.YthlcpdjpnbbaeaaGreatDoor.Sy
set_option linter.unusedVariables false
set_option linter.unusedSimpArgs false
set_option maxRecDepth 100000
def t41 : Tr :=
  .br (.f (.rel 104103 [.num (.v 0 0), .lst 0 1, .rows [], .rows [], .num (.n 0)] 65542 [.list [.int .u64, .int .u32, .int .u32], .list [.int .u64, .int .u32, .int .u32], .int .i64]) <|
   .br (.f (.is (.lt (.v 65542 2) (.len 0 1)) false) <|
    .f (.rel 83 [.num (.v 0 0), .lst 65542 0] 65546 [.int .i64, .int .i64]) <|
     .f (.rel 83 [.num (.v 0 0), .lst 65542 1] 65554 [.int .i64, .int .i64]) <|
      .ok [.num (.wrap .u64 (.bin .sub (.wrap .u64 (.v 65554 1)) (.wrap .u64 (.v 65546 0))))])
   (.f (.is (.lt (.v 65542 2) (.len 0 1)) true) <|
    .br (.f (.is (.lt (.v 65542 2) (.n 0)) true) <|
     .bad)
    (.f (.is (.lt (.v 65542 2) (.n 0)) false) <|
     .br (.f (.is (.le (.len 65542 0) (.n 1000000000)) false) <|
      .bad)
     (.f (.is (.le (.len 65542 0) (.n 1000000000)) true) <|
      .f (.lseq 65552 (.app (.lst 65542 0) (.rows [[.at 0 1 (.v 65542 2) 0, .at 0 1 (.v 65542 2) 1, .at 0 1 (.v 65542 2) 2]]))) <|
       .br (.f (.is (.le (.len 65542 1) (.n 1000000000)) false) <|
        .bad)
       (.f (.is (.le (.len 65542 1) (.n 1000000000)) true) <|
        .f (.lseq 65559 (.app (.lst 65542 1) (.rows [[.at 0 1 (.v 65542 2) 0, .at 0 1 (.v 65542 2) 1, .at 0 1 (.v 65542 2) 2], [.at 0 1 (.v 65542 2) 4, .at 0 1 (.v 65542 2) 5, .at 0 1 (.v 65542 2) 6]]))) <|
         .br (.f (.nrel 104103 [.num (.v 0 0), .lst 0 1, .rows [], .rows [], .num (.n 0)] [.lst 65552 0, .lst 65559 0, .num (.wrap .i64 (.bin .add (.v 65542 2) (.n 1)))]) <|
          .bad)
         (.f (.ndec 104103 [.num (.v 0 0), .lst 0 1, .rows [], .rows [], .num (.n 0)] [.lst 65542 0, .lst 65542 1, .num (.v 65542 2)] [.lst 65552 0, .lst 65559 0, .num (.wrap .i64 (.bin .add (.v 65542 2) (.n 1)))]) <|
          .bad))))))
  (.f (.nrel 104103 [.num (.v 0 0), .lst 0 1, .rows [], .rows [], .num (.n 0)] [.rows [], .rows [], .num (.n 0)]) <|
   .bad)
theorem c41 : ConS Tryz.prog T C41 := con_tr (cs := [C83]) (lcs := [L104103]) (known := []) (cons_cons c83 (cons_nil _ _)) (Known.nil _) (N := 400) (d := 40) (t := t41) (by kernel_rfl) <| by
  intro E hl hp
  have hl1 := hl 1 _ rfl
  clear hl
  have hp := hp rfl
  simp only [C41, show T.pre 41 = Q41 from rfl, flatS, SP.flat, dvs, List.append_nil, List.cons_append, List.nil_append, Q41, U64, U32, I64, Big, W, wv, s64, WT, PR, MR, MB] at hp
  simp only [t41, C41, Tr.good, Fact.den, LX.den, DX.ls, DV.ls, DX.den, Bx.den, Ex.den, eo_add, eo_sub, eo_mul, eo_quo, eo_rem, eo_fdv, eo_mn, eo_mx, eo_land, eo_lor, eo_lxor, eo_landn, eo_shl, eo_shr, dvs, flatS, SP.flat, ST.flat, List.map_cons, List.map_nil, List.append_nil, List.cons_append, List.nil_append, ltb_t, ltb_f, leb_t, leb_f, eqb_t, eqb_f, decide_eq_true_eq, decide_eq_false_iff_not, Bool.not_eq_true', Bool.not_eq_false', Bool.and_eq_true, Bool.and_eq_false_imp, beq_iff_eq, beq_eq_false_iff_ne, bne_iff_ne, U64, U32, I64, Big, W, wv, Told, s64, WT, PR, MR, MB, Int.zero_mul, Int.zero_add, Int.add_zero, Int.mul_zero, IntKind.wrap_u64, IntKind.wrap_i64, IntKind.wrap_u32, ne_eq, forall_const, true_implies, show T.rel 41 = R41 from rfl, R41, show T.rel 83 = R83 from rfl, R83, show T.rel 104103 = R104103 from rfl, R104103, show T.mu 104103 = M104103 from rfl, M104103, show T.pre 41 = Q41 from rfl, Q41]
  revert hp hl1
  generalize (E.r 0).i 0 = base
  generalize (E.r 0).l 1 = xs
  generalize (E.r 65542).l 0 = x6_0
  generalize (E.r 65542).l 1 = x6_1
  generalize (E.r 65542).i 2 = x6_2
  generalize (E.r 65546).i 0 = x10_0
  generalize (E.r 65546).i 1 = x10_1
  generalize (E.r 65552).l 0 = x16_0
  generalize (E.r 65554).i 0 = x18_0
  generalize (E.r 65554).i 1 = x18_1
  generalize (E.r 65559).l 0 = x23_0
  try simp only [mxI, mnI]
  try simp only [ltb, leb, eqb, Int.lt_irrefl, decide_false, Int.le_refl, decide_true]
  intro hl hp
  have hS := SPR_le base xs
  refine ⟨fun ⟨i0, i1, i2, i3, i4, i5⟩ => ⟨fun c a b => ?_, fun c => ⟨by omega, fun _ => ⟨by omega, fun _ e => ⟨by omega, fun _ f => ?_⟩⟩⟩⟩, fun n => n ⟨trivial, by omega, rfl, rfl, PL.nil _, AL.nil _⟩⟩
  · have e1 : x6_0.length = xs.length := by omega
    have e2 : x6_1.length = 2 * xs.length := by omega
    rw [b.2, a.1, PL.least i4 e1, AL.greatest i5 e2]
    simp only [SPR] at *
    omega
  · obtain ⟨k, rfl⟩ := Int.eq_ofNat_of_zero_le i0
    have ew : ((k : Int) + 1 + 9223372036854775808) % 18446744073709551616 - 9223372036854775808 = ((k + 1 : Nat) : Int) := by omega
    simp only [ew]
    have l0 : x6_0.length = k := by omega
    have l1 : x6_1.length = 2 * k := by omega
    subst e f
    refine ⟨fun n => n ⟨by omega, by omega, by simp [l0], by simp [l1]; omega, PL.snoc i4 (by rw [l0]; rfl), AL.snoc i5 l1 rfl rfl⟩, by omega⟩
end Go.Proofs.YthlcpdjpnbbaeaaGreatDoor.Fn
namespace Go.Proofs.YthlcpdjpnbbaeaaGreatDoor.Fn
open Go Go.RowKit Go.Proofs.YthlcpdjpnbbaeaaGreatDoor.Sy
set_option linter.unusedVariables false
set_option linter.unusedSimpArgs false
set_option maxRecDepth 100000
def t31 : Tr :=
  .br (.f (.rel 41 [.num (.v 0 0), .lst 0 1] 65539 [.int .u64]) <|
   .ok [.tru (.le (.v 65539 0) (.n 4611686018427387904))])
  (.f (.npre 41 [.num (.v 0 0), .lst 0 1]) <|
   .bad)
theorem c31 : ConS Tryz.prog T C31 := con_tr (cs := [C41]) (lcs := []) (known := []) (cons_cons c41 (cons_nil _ _)) (Known.nil _) (N := 400) (d := 40) (t := t31) (by kernel_rfl) <| by
  intro E hl hp
  have hl1 := hl 1 _ rfl
  clear hl
  have hp := hp rfl
  simp only [C31, show T.pre 31 = Q31 from rfl, flatS, SP.flat, dvs, List.append_nil, List.cons_append, List.nil_append, Q31, U64, U32, I64, Big, W, wv, s64, WT, PR, MR, MB] at hp
  simp only [t31, C31, Tr.good, Fact.den, LX.den, DX.ls, DV.ls, DX.den, Bx.den, Ex.den, eo_add, eo_sub, eo_mul, eo_quo, eo_rem, eo_fdv, eo_mn, eo_mx, eo_land, eo_lor, eo_lxor, eo_landn, eo_shl, eo_shr, dvs, flatS, SP.flat, ST.flat, List.map_cons, List.map_nil, List.append_nil, List.cons_append, List.nil_append, ltb_t, ltb_f, leb_t, leb_f, eqb_t, eqb_f, decide_eq_true_eq, decide_eq_false_iff_not, Bool.not_eq_true', Bool.not_eq_false', Bool.and_eq_true, Bool.and_eq_false_imp, beq_iff_eq, beq_eq_false_iff_ne, bne_iff_ne, U64, U32, I64, Big, W, wv, Told, s64, WT, PR, MR, MB, Int.zero_mul, Int.zero_add, Int.add_zero, Int.mul_zero, IntKind.wrap_u64, IntKind.wrap_i64, IntKind.wrap_u32, ne_eq, forall_const, true_implies, show T.rel 31 = R31 from rfl, R31, show T.rel 41 = R41 from rfl, R41, show T.pre 31 = Q31 from rfl, Q31, show T.pre 41 = Q41 from rfl, Q41]
  revert hp hl1
  generalize (E.r 0).i 0 = base
  generalize (E.r 0).l 1 = xs
  generalize (E.r 65539).i 0 = x3_0
  try simp only [mxI, mnI]
  try simp only [ltb, leb, eqb, Int.lt_irrefl, decide_false, Int.le_refl, decide_true]
  intro hl hp
  have h := SPR_le base xs
  repeat' (first | intro _ | refine And.intro ?_ ?_ | refine Iff.intro ?_ ?_)
  all_goals first | omega | (simp_all; done) | (simp_all; omega)
end Go.Proofs.YthlcpdjpnbbaeaaGreatDoor.Fn
namespace Go.Proofs.YthlcpdjpnbbaeaaGreatDoor.Fn
open Go Go.RowKit Go.Proofs.YthlcpdjpnbbaeaaGreatDoor.Sy
set_option linter.unusedVariables false
set_option linter.unusedSimpArgs false
set_option maxRecDepth 100000
def t30 : Tr :=
  .br (.f (.rel 31 [.num (.v 0 0), .lst 0 1] 65539 [.bool]) <|
   .br (.f (.is (.v 65539 0) false) <|
    .ok [.num (.n 0)])
   (.f (.is (.v 65539 0) true) <|
    .br (.f (.rel 41 [.num (.v 0 0), .lst 0 1] 65543 [.int .u64]) <|
     .ok [.num (.wrap .u64 (.bin .sub (.n 4611686018427387904) (.v 65543 0)))])
    (.f (.npre 41 [.num (.v 0 0), .lst 0 1]) <|
     .bad)))
  (.f (.npre 31 [.num (.v 0 0), .lst 0 1]) <|
   .bad)
theorem c30 : ConS Tryz.prog T C30 := con_tr (cs := [C31, C41]) (lcs := []) (known := []) (cons_cons c31 (cons_cons c41 (cons_nil _ _))) (Known.nil _) (N := 400) (d := 40) (t := t30) (by kernel_rfl) <| by
  intro E hl hp
  have hl1 := hl 1 _ rfl
  clear hl
  have hp := hp rfl
  simp only [C30, show T.pre 30 = Q30 from rfl, flatS, SP.flat, dvs, List.append_nil, List.cons_append, List.nil_append, Q30, U64, U32, I64, Big, W, wv, s64, WT, PR, MR, MB] at hp
  simp only [t30, C30, Tr.good, Fact.den, LX.den, DX.ls, DV.ls, DX.den, Bx.den, Ex.den, eo_add, eo_sub, eo_mul, eo_quo, eo_rem, eo_fdv, eo_mn, eo_mx, eo_land, eo_lor, eo_lxor, eo_landn, eo_shl, eo_shr, dvs, flatS, SP.flat, ST.flat, List.map_cons, List.map_nil, List.append_nil, List.cons_append, List.nil_append, ltb_t, ltb_f, leb_t, leb_f, eqb_t, eqb_f, decide_eq_true_eq, decide_eq_false_iff_not, Bool.not_eq_true', Bool.not_eq_false', Bool.and_eq_true, Bool.and_eq_false_imp, beq_iff_eq, beq_eq_false_iff_ne, bne_iff_ne, U64, U32, I64, Big, W, wv, Told, s64, WT, PR, MR, MB, Int.zero_mul, Int.zero_add, Int.add_zero, Int.mul_zero, IntKind.wrap_u64, IntKind.wrap_i64, IntKind.wrap_u32, ne_eq, forall_const, true_implies, show T.rel 30 = R30 from rfl, R30, show T.rel 31 = R31 from rfl, R31, show T.rel 41 = R41 from rfl, R41, show T.pre 30 = Q30 from rfl, Q30, show T.pre 31 = Q31 from rfl, Q31, show T.pre 41 = Q41 from rfl, Q41]
  revert hp hl1
  generalize (E.r 0).i 0 = base
  generalize (E.r 0).l 1 = xs
  generalize (E.r 65539).c 0 = x3_0
  generalize (E.r 65543).i 0 = x7_0
  try simp only [mxI, mnI]
  try simp only [ltb, leb, eqb, Int.lt_irrefl, decide_false, Int.le_refl, decide_true]
  intro hl hp
  have h := SPR_le base xs
  repeat' (first | intro _ | refine And.intro ?_ ?_ | refine Iff.intro ?_ ?_)
  all_goals first | omega | (simp_all; done) | (simp_all; omega)
end Go.Proofs.YthlcpdjpnbbaeaaGreatDoor.Fn
namespace Go.Proofs.YthlcpdjpnbbaeaaGreatDoor.Fn
open Go Go.RowKit Go.Proofs.YthlcpdjpnbbaeaaGreatDoor.Sy
set_option linter.unusedVariables false
set_option linter.unusedSimpArgs false
set_option maxRecDepth 100000
def t53 : Tr :=
  .br (.f (.is (.le (.n 1) (.v 0 0)) true) <|
   .ok [.tru (.le (.v 0 0) (.n 1048576))])
  (.f (.is (.le (.n 1) (.v 0 0)) false) <|
   .ok [.tru (.lt (.n 0) (.n 0))])
theorem c53 : ConS Tryz.prog T C53 := con_tr (cs := []) (lcs := []) (known := []) (cons_nil _ _) (Known.nil _) (N := 400) (d := 40) (t := t53) (by kernel_rfl) <| by
  intro E hl hp
  clear hl
  clear hp
  simp only [t53, C53, Tr.good, Fact.den, LX.den, DX.ls, DV.ls, DX.den, Bx.den, Ex.den, eo_add, eo_sub, eo_mul, eo_quo, eo_rem, eo_fdv, eo_mn, eo_mx, eo_land, eo_lor, eo_lxor, eo_landn, eo_shl, eo_shr, dvs, flatS, SP.flat, ST.flat, List.map_cons, List.map_nil, List.append_nil, List.cons_append, List.nil_append, ltb_t, ltb_f, leb_t, leb_f, eqb_t, eqb_f, decide_eq_true_eq, decide_eq_false_iff_not, Bool.not_eq_true', Bool.not_eq_false', Bool.and_eq_true, Bool.and_eq_false_imp, beq_iff_eq, beq_eq_false_iff_ne, bne_iff_ne, U64, U32, I64, Big, W, wv, Told, s64, WT, PR, MR, MB, Int.zero_mul, Int.zero_add, Int.add_zero, Int.mul_zero, IntKind.wrap_u64, IntKind.wrap_i64, IntKind.wrap_u32, ne_eq, forall_const, true_implies, show T.rel 53 = R53 from rfl, R53]
  generalize (E.r 0).i 0 = w
  try simp only [mxI, mnI]
  try simp only [ltb, leb, eqb, Int.lt_irrefl, decide_false, Int.le_refl, decide_true]
  repeat' (first | intro _ | refine And.intro ?_ ?_ | refine Iff.intro ?_ ?_)
  all_goals first | omega | (simp_all; done) | (simp_all; omega)
end Go.Proofs.YthlcpdjpnbbaeaaGreatDoor.Fn
namespace Go.Proofs.YthlcpdjpnbbaeaaGreatDoor.Fn
open Go Go.RowKit Go.Proofs.YthlcpdjpnbbaeaaGreatDoor.Sy
set_option linter.unusedVariables false
set_option linter.unusedSimpArgs false
set_option maxRecDepth 100000
def t15 : Tr :=
  .f (.rel 53 [.num (.v 0 2)] 65540 [.bool]) <|
   .br (.f (.is (.v 65540 0) true) <|
    .ok [.tru (.lt (.v 0 1) (.v 0 2))])
   (.f (.is (.v 65540 0) false) <|
    .ok [.tru (.lt (.n 0) (.n 0))])
theorem c15 : ConS Tryz.prog T C15 := con_tr (cs := [C53]) (lcs := []) (known := []) (cons_cons c53 (cons_nil _ _)) (Known.nil _) (N := 400) (d := 40) (t := t15) (by kernel_rfl) <| by
  intro E hl hp
  clear hl
  clear hp
  simp only [t15, C15, Tr.good, Fact.den, LX.den, DX.ls, DV.ls, DX.den, Bx.den, Ex.den, eo_add, eo_sub, eo_mul, eo_quo, eo_rem, eo_fdv, eo_mn, eo_mx, eo_land, eo_lor, eo_lxor, eo_landn, eo_shl, eo_shr, dvs, flatS, SP.flat, ST.flat, List.map_cons, List.map_nil, List.append_nil, List.cons_append, List.nil_append, ltb_t, ltb_f, leb_t, leb_f, eqb_t, eqb_f, decide_eq_true_eq, decide_eq_false_iff_not, Bool.not_eq_true', Bool.not_eq_false', Bool.and_eq_true, Bool.and_eq_false_imp, beq_iff_eq, beq_eq_false_iff_ne, bne_iff_ne, U64, U32, I64, Big, W, wv, Told, s64, WT, PR, MR, MB, Int.zero_mul, Int.zero_add, Int.add_zero, Int.mul_zero, IntKind.wrap_u64, IntKind.wrap_i64, IntKind.wrap_u32, ne_eq, forall_const, true_implies, show T.rel 15 = R15 from rfl, R15, show T.rel 53 = R53 from rfl, R53]
  generalize (E.r 0).i 0 = t
  generalize (E.r 0).i 1 = r
  generalize (E.r 0).i 2 = w
  generalize (E.r 65540).c 0 = x4_0
  try simp only [mxI, mnI]
  try simp only [ltb, leb, eqb, Int.lt_irrefl, decide_false, Int.le_refl, decide_true]
  repeat' (first | intro _ | refine And.intro ?_ ?_ | refine Iff.intro ?_ ?_)
  all_goals first | omega | (simp_all; done) | (simp_all; omega)
end Go.Proofs.YthlcpdjpnbbaeaaGreatDoor.Fn
namespace Go.Proofs.YthlcpdjpnbbaeaaGreatDoor.Fn
open Go Go.RowKit Go.Proofs.YthlcpdjpnbbaeaaGreatDoor.Sy
set_option linter.unusedVariables false
set_option linter.unusedSimpArgs false
set_option maxRecDepth 100000
def t32 : Tr :=
  .f (.rel 14 [.num (.v 0 4), .num (.v 0 0)] 65544 [.int .i64]) <|
   .f (.rel 15 [.num (.v 0 0), .num (.v 0 1), .num (.v 0 2)] 65548 [.bool]) <|
    .br (.f (.is (.v 65548 0) true) <|
     .f (.rel 15 [.num (.v 0 4), .num (.v 0 5), .num (.v 0 6)] 65552 [.bool]) <|
      .br (.f (.is (.v 65552 0) true) <|
       .br (.f (.is (.eq (.v 0 2) (.v 0 6)) true) <|
        .br (.f (.is (.lt (.n 0) (.v 0 3)) true) <|
         .br (.f (.is (.le (.n 0) (.v 65544 0)) true) <|
          .ok [.tru (.le (.v 65544 0) (.n 1152921504606846976))])
         (.f (.is (.le (.n 0) (.v 65544 0)) false) <|
          .ok [.tru (.lt (.n 0) (.n 0))]))
        (.f (.is (.lt (.n 0) (.v 0 3)) false) <|
         .ok [.tru (.lt (.n 0) (.n 0))]))
       (.f (.is (.eq (.v 0 2) (.v 0 6)) false) <|
        .ok [.tru (.lt (.n 0) (.n 0))]))
      (.f (.is (.v 65552 0) false) <|
       .ok [.tru (.lt (.n 0) (.n 0))]))
    (.f (.is (.v 65548 0) false) <|
     .ok [.tru (.lt (.n 0) (.n 0))])
theorem c32 : ConS Tryz.prog T C32 := con_tr (cs := [C14, C15]) (lcs := []) (known := []) (cons_cons c14 (cons_cons c15 (cons_nil _ _))) (Known.nil _) (N := 400) (d := 40) (t := t32) (by kernel_rfl) <| by
  intro E hl hp
  clear hl
  have hp := hp rfl
  simp only [C32, show T.pre 32 = Q32 from rfl, flatS, SP.flat, dvs, List.append_nil, List.cons_append, List.nil_append, Q32, U64, U32, I64, Big, W, wv, s64, WT, PR, MR, MB] at hp
  simp only [t32, C32, Tr.good, Fact.den, LX.den, DX.ls, DV.ls, DX.den, Bx.den, Ex.den, eo_add, eo_sub, eo_mul, eo_quo, eo_rem, eo_fdv, eo_mn, eo_mx, eo_land, eo_lor, eo_lxor, eo_landn, eo_shl, eo_shr, dvs, flatS, SP.flat, ST.flat, List.map_cons, List.map_nil, List.append_nil, List.cons_append, List.nil_append, ltb_t, ltb_f, leb_t, leb_f, eqb_t, eqb_f, decide_eq_true_eq, decide_eq_false_iff_not, Bool.not_eq_true', Bool.not_eq_false', Bool.and_eq_true, Bool.and_eq_false_imp, beq_iff_eq, beq_eq_false_iff_ne, bne_iff_ne, U64, U32, I64, Big, W, wv, Told, s64, WT, PR, MR, MB, Int.zero_mul, Int.zero_add, Int.add_zero, Int.mul_zero, IntKind.wrap_u64, IntKind.wrap_i64, IntKind.wrap_u32, ne_eq, forall_const, true_implies, show T.rel 14 = R14 from rfl, R14, show T.rel 15 = R15 from rfl, R15, show T.rel 32 = R32 from rfl, R32, show T.pre 32 = Q32 from rfl, Q32]
  revert hp
  generalize (E.r 0).i 0 = t
  generalize (E.r 0).i 1 = r
  generalize (E.r 0).i 2 = w
  generalize (E.r 0).i 3 = id
  generalize (E.r 0).i 4 = dt
  generalize (E.r 0).i 5 = dr
  generalize (E.r 0).i 6 = dw
  generalize (E.r 65544).i 0 = x8_0
  generalize (E.r 65548).c 0 = x12_0
  generalize (E.r 65552).c 0 = x16_0
  try simp only [mxI, mnI]
  try simp only [ltb, leb, eqb, Int.lt_irrefl, decide_false, Int.le_refl, decide_true]
  repeat' (first | intro _ | refine And.intro ?_ ?_ | refine Iff.intro ?_ ?_)
  all_goals first | omega | (simp_all; done) | (simp_all; omega)
end Go.Proofs.YthlcpdjpnbbaeaaGreatDoor.Fn
