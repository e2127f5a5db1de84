/- What is told of the functions, shown: (turnstone/vtime.Time).Since, turnstone/pos.Floors, turnstone/item.Spread, turnstone/turnstonelaw04.Of, turnstone/turnstonelaw05.Of, turnstone/turnstoneref01.Sign, turnstone/turnstoneref01.trim, turnstone/turnstoneref01.Neg, turnstone/turnstoneref01.digit, turnstone/turnstoneref01.plus, turnstone/turnstoneref01.larger, turnstone/turnstoneref01.minus, turnstone/turnstoneref01.Add, turnstone/turnstoneref01.Sub. -/
import Derived.Test.YtpccjjfcklplaaaTab
namespace Go.Proofs.Ytpccjjfcklplaaa.Fn
open Go Go.RowKit Go.Proofs.Ytpccjjfcklplaaa.Sy
set_option linter.unusedVariables false
set_option linter.unusedSimpArgs false
set_option maxRecDepth 100000
def t42 : Tr :=
  .ok [.num (.wrap .i64 (.wrap .u64 (.bin .sub (.v 0 0) (.v 0 1))))]
theorem c42 : ConS Try.prog T C42 := con_tr (cs := []) (lcs := []) (known := []) (cons_nil _ _) (Known.nil _) (N := 400) (d := 40) (t := t42) (by kernel_rfl) <| by
  intro E hl hp
  clear hl
  clear hp
  simp only [t42, C42, Tr.good, Fact.den, LX.den, DX.ls, DV.ls, DX.den, Bx.den, Ex.den, eo_add, eo_sub, eo_mul, eo_quo, eo_rem, eo_fdv, eo_mn, eo_mx, eo_land, eo_lor, eo_lxor, eo_landn, eo_shl, eo_shr, dvs, flatS, SP.flat, ST.flat, List.map_cons, List.map_nil, List.append_nil, List.cons_append, List.nil_append, ltb_t, ltb_f, leb_t, leb_f, eqb_t, eqb_f, decide_eq_true_eq, decide_eq_false_iff_not, Bool.not_eq_true', Bool.not_eq_false', Bool.and_eq_true, Bool.and_eq_false_imp, beq_iff_eq, beq_eq_false_iff_ne, bne_iff_ne, U64, U32, I64, Big, W, wv, Told, s64, WT, PR, MR, MB, Int.zero_mul, Int.zero_add, Int.add_zero, Int.mul_zero, IntKind.wrap_u64, IntKind.wrap_i64, IntKind.wrap_u32, ne_eq, forall_const, true_implies, show T.rel 42 = R42 from rfl, R42]
  generalize (E.r 0).i 0 = t
  generalize (E.r 0).i 1 = u
  try simp only [mxI, mnI]
  try simp only [ltb, leb, eqb, Int.lt_irrefl, decide_false, Int.le_refl, decide_true]
  repeat' (first | intro _ | refine And.intro ?_ ?_ | refine Iff.intro ?_ ?_)
  all_goals first | omega | (simp_all; done) | (simp_all; omega)
end Go.Proofs.Ytpccjjfcklplaaa.Fn
namespace Go.Proofs.Ytpccjjfcklplaaa.Fn
open Go Go.RowKit Go.Proofs.Ytpccjjfcklplaaa.Sy
set_option linter.unusedVariables false
set_option linter.unusedSimpArgs false
set_option maxRecDepth 100000
def t30 : Tr :=
  .br (.f (.rel 103002 [.num (.v 0 0), .lst 0 1, .num (.n 0), .num (.n 0), .num (.n 0)] 65541 [.int .i64, .int .i64, .int .i64]) <|
   .br (.f (.is (.lt (.v 65541 2) (.len 0 1)) false) <|
    .ok [.num (.v 65541 0), .num (.v 65541 1)])
   (.f (.is (.lt (.v 65541 2) (.len 0 1)) true) <|
    .br (.f (.is (.lt (.v 65541 2) (.n 0)) true) <|
     .bad)
    (.f (.is (.lt (.v 65541 2) (.n 0)) false) <|
     .f (.rel 42 [.num (.at 0 1 (.v 65541 2) 0), .num (.v 0 0)] 65552 [.int .i64]) <|
      .br (.f (.is (.eq (.v 65541 2) (.n 0)) true) <|
       .br (.f (.nrel 103002 [.num (.v 0 0), .lst 0 1, .num (.n 0), .num (.n 0), .num (.n 0)] [.num (.bin .mn (.v 65552 0) (.v 65552 0)), .num (.bin .mx (.v 65552 0) (.v 65552 0)), .num (.wrap .i64 (.bin .add (.v 65541 2) (.n 1)))]) <|
        .bad)
       (.f (.ndec 103002 [.num (.v 0 0), .lst 0 1, .num (.n 0), .num (.n 0), .num (.n 0)] [.num (.v 65541 0), .num (.v 65541 1), .num (.v 65541 2)] [.num (.bin .mn (.v 65552 0) (.v 65552 0)), .num (.bin .mx (.v 65552 0) (.v 65552 0)), .num (.wrap .i64 (.bin .add (.v 65541 2) (.n 1)))]) <|
        .bad))
      (.f (.is (.eq (.v 65541 2) (.n 0)) false) <|
       .br (.f (.nrel 103002 [.num (.v 0 0), .lst 0 1, .num (.n 0), .num (.n 0), .num (.n 0)] [.num (.bin .mn (.v 65541 0) (.v 65552 0)), .num (.bin .mx (.v 65541 1) (.v 65552 0)), .num (.wrap .i64 (.bin .add (.v 65541 2) (.n 1)))]) <|
        .bad)
       (.f (.ndec 103002 [.num (.v 0 0), .lst 0 1, .num (.n 0), .num (.n 0), .num (.n 0)] [.num (.v 65541 0), .num (.v 65541 1), .num (.v 65541 2)] [.num (.bin .mn (.v 65541 0) (.v 65552 0)), .num (.bin .mx (.v 65541 1) (.v 65552 0)), .num (.wrap .i64 (.bin .add (.v 65541 2) (.n 1)))]) <|
        .bad)))))
  (.f (.nrel 103002 [.num (.v 0 0), .lst 0 1, .num (.n 0), .num (.n 0), .num (.n 0)] [.num (.n 0), .num (.n 0), .num (.n 0)]) <|
   .bad)
theorem c30 : ConS Try.prog T C30 := con_tr (cs := [C42]) (lcs := [L103002]) (known := []) (cons_cons c42 (cons_nil _ _)) (Known.nil _) (N := 400) (d := 40) (t := t30) (by kernel_rfl) <| by
  intro E hl hp
  have hl1 := hl 1 _ rfl
  clear hl
  clear hp
  simp only [t30, C30, Tr.good, Fact.den, LX.den, DX.ls, DV.ls, DX.den, Bx.den, Ex.den, eo_add, eo_sub, eo_mul, eo_quo, eo_rem, eo_fdv, eo_mn, eo_mx, eo_land, eo_lor, eo_lxor, eo_landn, eo_shl, eo_shr, dvs, flatS, SP.flat, ST.flat, List.map_cons, List.map_nil, List.append_nil, List.cons_append, List.nil_append, ltb_t, ltb_f, leb_t, leb_f, eqb_t, eqb_f, decide_eq_true_eq, decide_eq_false_iff_not, Bool.not_eq_true', Bool.not_eq_false', Bool.and_eq_true, Bool.and_eq_false_imp, beq_iff_eq, beq_eq_false_iff_ne, bne_iff_ne, U64, U32, I64, Big, W, wv, Told, s64, WT, PR, MR, MB, Int.zero_mul, Int.zero_add, Int.add_zero, Int.mul_zero, IntKind.wrap_u64, IntKind.wrap_i64, IntKind.wrap_u32, ne_eq, forall_const, true_implies, show T.rel 30 = R30 from rfl, R30, show T.rel 42 = R42 from rfl, R42, show T.rel 103002 = R103002 from rfl, R103002, show T.mu 103002 = M103002 from rfl, M103002]
  revert hl1
  generalize (E.r 0).i 0 = base
  generalize (E.r 0).l 1 = xs
  generalize (E.r 65541).i 0 = x5_0
  generalize (E.r 65541).i 1 = x5_1
  generalize (E.r 65541).i 2 = x5_2
  generalize (E.r 65552).i 0 = x16_0
  try simp only [mxI, mnI]
  try simp only [ltb, leb, eqb, Int.lt_irrefl, decide_false, Int.le_refl, decide_true]
  intro hl
  have m1 := hl.2
  simp only [maxLen] at m1
  refine ⟨fun ⟨i0, i1, i2, i3⟩ => ⟨fun c => ?_, fun c => ⟨by omega, fun _ e => ?_⟩⟩, fun n => n ⟨trivial, by omega, rfl, rfl⟩⟩
  · have : x5_2.toNat = xs.length := by omega
    rw [i2, i3, this]
    exact ⟨rfl, rfl⟩
  · obtain ⟨k, rfl⟩ := Int.eq_ofNat_of_zero_le i0
    have ew : ((k : Int) + 1 + 9223372036854775808) % 18446744073709551616 - 9223372036854775808 = ((k + 1 : Nat) : Int) := by omega
    simp only [ew, Int.toNat_natCast] at *
    have a := mnF_step (tf 0 base xs) k
    have b := mxF_step (tf 0 base xs) k
    have et : tf 0 base xs k = x16_0 := by rw [e]; rfl
    rw [et] at a b
    refine ⟨fun z => ⟨fun n => n ⟨by omega, by omega, ?_, ?_⟩, by omega⟩, fun z => ⟨fun n => n ⟨by omega, by omega, ?_, ?_⟩, by omega⟩⟩
    · rw [a.1 (by omega)]; simp
    · rw [b.1 (by omega)]; simp
    · have := a.2 (by omega)
      split <;> omega
    · have := b.2 (by omega)
      split <;> omega
end Go.Proofs.Ytpccjjfcklplaaa.Fn
namespace Go.Proofs.Ytpccjjfcklplaaa.Fn
open Go Go.RowKit Go.Proofs.Ytpccjjfcklplaaa.Sy
set_option linter.unusedVariables false
set_option linter.unusedSimpArgs false
set_option maxRecDepth 100000
def t7 : Tr :=
  .br (.f (.rel 100703 [.num (.v 0 0), .lst 0 1, .rows [], .rows [], .num (.n 0)] 65542 [.list [.int .u64, .int .u32, .int .u32], .list [.int .u64, .int .u32, .int .u32], .int .i64]) <|
   .br (.f (.is (.lt (.v 65542 2) (.len 0 1)) false) <|
    .f (.rel 30 [.num (.v 0 0), .lst 65542 0] 65546 [.int .i64, .int .i64]) <|
     .f (.rel 30 [.num (.v 0 0), .lst 65542 1] 65554 [.int .i64, .int .i64]) <|
      .ok [.num (.wrap .u64 (.bin .sub (.wrap .u64 (.v 65554 1)) (.wrap .u64 (.v 65546 0))))])
   (.f (.is (.lt (.v 65542 2) (.len 0 1)) true) <|
    .br (.f (.is (.lt (.v 65542 2) (.n 0)) true) <|
     .bad)
    (.f (.is (.lt (.v 65542 2) (.n 0)) false) <|
     .br (.f (.is (.le (.len 65542 0) (.n 1000000000)) false) <|
      .bad)
     (.f (.is (.le (.len 65542 0) (.n 1000000000)) true) <|
      .f (.lseq 65552 (.app (.lst 65542 0) (.rows [[.at 0 1 (.v 65542 2) 0, .at 0 1 (.v 65542 2) 1, .at 0 1 (.v 65542 2) 2]]))) <|
       .br (.f (.is (.le (.len 65542 1) (.n 1000000000)) false) <|
        .bad)
       (.f (.is (.le (.len 65542 1) (.n 1000000000)) true) <|
        .f (.lseq 65559 (.app (.lst 65542 1) (.rows [[.at 0 1 (.v 65542 2) 0, .at 0 1 (.v 65542 2) 1, .at 0 1 (.v 65542 2) 2], [.at 0 1 (.v 65542 2) 4, .at 0 1 (.v 65542 2) 5, .at 0 1 (.v 65542 2) 6]]))) <|
         .br (.f (.nrel 100703 [.num (.v 0 0), .lst 0 1, .rows [], .rows [], .num (.n 0)] [.lst 65552 0, .lst 65559 0, .num (.wrap .i64 (.bin .add (.v 65542 2) (.n 1)))]) <|
          .bad)
         (.f (.ndec 100703 [.num (.v 0 0), .lst 0 1, .rows [], .rows [], .num (.n 0)] [.lst 65542 0, .lst 65542 1, .num (.v 65542 2)] [.lst 65552 0, .lst 65559 0, .num (.wrap .i64 (.bin .add (.v 65542 2) (.n 1)))]) <|
          .bad))))))
  (.f (.nrel 100703 [.num (.v 0 0), .lst 0 1, .rows [], .rows [], .num (.n 0)] [.rows [], .rows [], .num (.n 0)]) <|
   .bad)
theorem c7 : ConS Try.prog T C7 := con_tr (cs := [C30]) (lcs := [L100703]) (known := []) (cons_cons c30 (cons_nil _ _)) (Known.nil _) (N := 400) (d := 40) (t := t7) (by kernel_rfl) <| by
  intro E hl hp
  have hl1 := hl 1 _ rfl
  clear hl
  have hp := hp rfl
  simp only [C7, show T.pre 7 = Q7 from rfl, flatS, SP.flat, dvs, List.append_nil, List.cons_append, List.nil_append, Q7, U64, U32, I64, Big, W, wv, s64, WT, PR, MR, MB] at hp
  simp only [t7, C7, Tr.good, Fact.den, LX.den, DX.ls, DV.ls, DX.den, Bx.den, Ex.den, eo_add, eo_sub, eo_mul, eo_quo, eo_rem, eo_fdv, eo_mn, eo_mx, eo_land, eo_lor, eo_lxor, eo_landn, eo_shl, eo_shr, dvs, flatS, SP.flat, ST.flat, List.map_cons, List.map_nil, List.append_nil, List.cons_append, List.nil_append, ltb_t, ltb_f, leb_t, leb_f, eqb_t, eqb_f, decide_eq_true_eq, decide_eq_false_iff_not, Bool.not_eq_true', Bool.not_eq_false', Bool.and_eq_true, Bool.and_eq_false_imp, beq_iff_eq, beq_eq_false_iff_ne, bne_iff_ne, U64, U32, I64, Big, W, wv, Told, s64, WT, PR, MR, MB, Int.zero_mul, Int.zero_add, Int.add_zero, Int.mul_zero, IntKind.wrap_u64, IntKind.wrap_i64, IntKind.wrap_u32, ne_eq, forall_const, true_implies, show T.rel 7 = R7 from rfl, R7, show T.rel 30 = R30 from rfl, R30, show T.rel 100703 = R100703 from rfl, R100703, show T.mu 100703 = M100703 from rfl, M100703, show T.pre 7 = Q7 from rfl, Q7]
  revert hp hl1
  generalize (E.r 0).i 0 = base
  generalize (E.r 0).l 1 = xs
  generalize (E.r 65542).l 0 = x6_0
  generalize (E.r 65542).l 1 = x6_1
  generalize (E.r 65542).i 2 = x6_2
  generalize (E.r 65546).i 0 = x10_0
  generalize (E.r 65546).i 1 = x10_1
  generalize (E.r 65552).l 0 = x16_0
  generalize (E.r 65554).i 0 = x18_0
  generalize (E.r 65554).i 1 = x18_1
  generalize (E.r 65559).l 0 = x23_0
  try simp only [mxI, mnI]
  try simp only [ltb, leb, eqb, Int.lt_irrefl, decide_false, Int.le_refl, decide_true]
  intro hl hp
  have hS := SPR_le base xs
  refine ⟨fun ⟨i0, i1, i2, i3, i4, i5⟩ => ⟨fun c a b => ?_, fun c => ⟨by omega, fun _ => ⟨by omega, fun _ e => ⟨by omega, fun _ f => ?_⟩⟩⟩⟩, fun n => n ⟨trivial, by omega, rfl, rfl, PL.nil _, AL.nil _⟩⟩
  · have e1 : x6_0.length = xs.length := by omega
    have e2 : x6_1.length = 2 * xs.length := by omega
    rw [b.2, a.1, PL.least i4 e1, AL.greatest i5 e2]
    simp only [SPR] at *
    omega
  · obtain ⟨k, rfl⟩ := Int.eq_ofNat_of_zero_le i0
    have ew : ((k : Int) + 1 + 9223372036854775808) % 18446744073709551616 - 9223372036854775808 = ((k + 1 : Nat) : Int) := by omega
    simp only [ew]
    have l0 : x6_0.length = k := by omega
    have l1 : x6_1.length = 2 * k := by omega
    subst e f
    refine ⟨fun n => n ⟨by omega, by omega, by simp [l0], by simp [l1]; omega, PL.snoc i4 (by rw [l0]; rfl), AL.snoc i5 l1 rfl rfl⟩, by omega⟩
end Go.Proofs.Ytpccjjfcklplaaa.Fn
namespace Go.Proofs.Ytpccjjfcklplaaa.Fn
open Go Go.RowKit Go.Proofs.Ytpccjjfcklplaaa.Sy
set_option linter.unusedVariables false
set_option linter.unusedSimpArgs false
set_option maxRecDepth 100000
def t31 : Tr :=
  .ok [.num (.v 0 0), .num (.v 0 1), .num (.v 0 2)]
theorem c31 : ConS Try.prog T C31 := con_tr (cs := []) (lcs := []) (known := []) (cons_nil _ _) (Known.nil _) (N := 400) (d := 40) (t := t31) (by kernel_rfl) <| by
  intro E hl hp
  clear hl
  have hp := hp rfl
  simp only [C31, show T.pre 31 = Q31 from rfl, flatS, SP.flat, dvs, List.append_nil, List.cons_append, List.nil_append, Q31, U64, U32, I64, Big, W, wv, s64, WT, PR, MR, MB] at hp
  simp only [t31, C31, Tr.good, Fact.den, LX.den, DX.ls, DV.ls, DX.den, Bx.den, Ex.den, eo_add, eo_sub, eo_mul, eo_quo, eo_rem, eo_fdv, eo_mn, eo_mx, eo_land, eo_lor, eo_lxor, eo_landn, eo_shl, eo_shr, dvs, flatS, SP.flat, ST.flat, List.map_cons, List.map_nil, List.append_nil, List.cons_append, List.nil_append, ltb_t, ltb_f, leb_t, leb_f, eqb_t, eqb_f, decide_eq_true_eq, decide_eq_false_iff_not, Bool.not_eq_true', Bool.not_eq_false', Bool.and_eq_true, Bool.and_eq_false_imp, beq_iff_eq, beq_eq_false_iff_ne, bne_iff_ne, U64, U32, I64, Big, W, wv, Told, s64, WT, PR, MR, MB, Int.zero_mul, Int.zero_add, Int.add_zero, Int.mul_zero, IntKind.wrap_u64, IntKind.wrap_i64, IntKind.wrap_u32, ne_eq, forall_const, true_implies, show T.rel 31 = R31 from rfl, R31, show T.pre 31 = Q31 from rfl, Q31]
  revert hp
  generalize (E.r 0).i 0 = t
  generalize (E.r 0).i 1 = r
  generalize (E.r 0).i 2 = w
  try simp only [mxI, mnI]
  try simp only [ltb, leb, eqb, Int.lt_irrefl, decide_false, Int.le_refl, decide_true]
  repeat' (first | intro _ | refine And.intro ?_ ?_ | refine Iff.intro ?_ ?_)
  all_goals first | omega | (simp_all; done) | (simp_all; omega)
end Go.Proofs.Ytpccjjfcklplaaa.Fn
namespace Go.Proofs.Ytpccjjfcklplaaa.Fn
open Go Go.RowKit Go.Proofs.Ytpccjjfcklplaaa.Sy
set_option linter.unusedVariables false
set_option linter.unusedSimpArgs false
set_option maxRecDepth 100000
def t8 : Tr :=
  .br (.f (.rel 31 [.num (.v 0 0), .num (.v 0 1), .num (.v 0 2)] 65540 [.int .u64, .int .u32, .int .u32]) <|
   .br (.f (.rel 31 [.num (.v 0 4), .num (.v 0 5), .num (.v 0 6)] 65545 [.int .u64, .int .u32, .int .u32]) <|
    .ok [.num (.v 65540 0), .num (.v 65540 1), .num (.v 65540 2), .num (.v 0 3), .num (.v 65545 0), .num (.v 65545 1), .num (.v 65545 2)])
   (.f (.npre 31 [.num (.v 0 4), .num (.v 0 5), .num (.v 0 6)]) <|
    .bad))
  (.f (.npre 31 [.num (.v 0 0), .num (.v 0 1), .num (.v 0 2)]) <|
   .bad)
theorem c8 : ConS Try.prog T C8 := con_tr (cs := [C31]) (lcs := []) (known := []) (cons_cons c31 (cons_nil _ _)) (Known.nil _) (N := 400) (d := 40) (t := t8) (by kernel_rfl) <| by
  intro E hl hp
  clear hl
  have hp := hp rfl
  simp only [C8, show T.pre 8 = Q8 from rfl, flatS, SP.flat, dvs, List.append_nil, List.cons_append, List.nil_append, Q8, U64, U32, I64, Big, W, wv, s64, WT, PR, MR, MB] at hp
  simp only [t8, C8, Tr.good, Fact.den, LX.den, DX.ls, DV.ls, DX.den, Bx.den, Ex.den, eo_add, eo_sub, eo_mul, eo_quo, eo_rem, eo_fdv, eo_mn, eo_mx, eo_land, eo_lor, eo_lxor, eo_landn, eo_shl, eo_shr, dvs, flatS, SP.flat, ST.flat, List.map_cons, List.map_nil, List.append_nil, List.cons_append, List.nil_append, ltb_t, ltb_f, leb_t, leb_f, eqb_t, eqb_f, decide_eq_true_eq, decide_eq_false_iff_not, Bool.not_eq_true', Bool.not_eq_false', Bool.and_eq_true, Bool.and_eq_false_imp, beq_iff_eq, beq_eq_false_iff_ne, bne_iff_ne, U64, U32, I64, Big, W, wv, Told, s64, WT, PR, MR, MB, Int.zero_mul, Int.zero_add, Int.add_zero, Int.mul_zero, IntKind.wrap_u64, IntKind.wrap_i64, IntKind.wrap_u32, ne_eq, forall_const, true_implies, show T.rel 8 = R8 from rfl, R8, show T.rel 31 = R31 from rfl, R31, show T.pre 8 = Q8 from rfl, Q8, show T.pre 31 = Q31 from rfl, Q31]
  revert hp
  generalize (E.r 0).i 0 = t
  generalize (E.r 0).i 1 = r
  generalize (E.r 0).i 2 = w
  generalize (E.r 0).i 3 = id
  generalize (E.r 0).i 4 = dt
  generalize (E.r 0).i 5 = dr
  generalize (E.r 0).i 6 = dw
  generalize (E.r 65540).i 0 = x4_0
  generalize (E.r 65540).i 1 = x4_1
  generalize (E.r 65540).i 2 = x4_2
  generalize (E.r 65545).i 0 = x9_0
  generalize (E.r 65545).i 1 = x9_1
  generalize (E.r 65545).i 2 = x9_2
  try simp only [mxI, mnI]
  try simp only [ltb, leb, eqb, Int.lt_irrefl, decide_false, Int.le_refl, decide_true]
  repeat' (first | intro _ | refine And.intro ?_ ?_ | refine Iff.intro ?_ ?_)
  all_goals first | omega | (simp_all; done) | (simp_all; omega)
end Go.Proofs.Ytpccjjfcklplaaa.Fn
namespace Go.Proofs.Ytpccjjfcklplaaa.Fn
open Go Go.RowKit Go.Proofs.Ytpccjjfcklplaaa.Sy
set_option linter.unusedVariables false
set_option linter.unusedSimpArgs false
set_option maxRecDepth 100000
def t34 : Tr :=
  .br (.f (.is (.eq (.len 0 1) (.n 0)) true) <|
   .ok [.num (.n 0)])
  (.f (.is (.eq (.len 0 1) (.n 0)) false) <|
   .br (.f (.is (.v 0 0) true) <|
    .ok [.num (.n (-1))])
   (.f (.is (.v 0 0) false) <|
    .ok [.num (.n 1)]))
theorem c34 : ConS Try.prog T C34 := con_tr (cs := []) (lcs := []) (known := []) (cons_nil _ _) (Known.nil _) (N := 400) (d := 40) (t := t34) (by kernel_rfl) <| by
  intro E hl hp
  have hl1 := hl 1 _ rfl
  clear hl
  have hp := hp rfl
  simp only [C34, show T.pre 34 = Q34 from rfl, flatS, SP.flat, dvs, List.append_nil, List.cons_append, List.nil_append, Q34, U64, U32, I64, Big, W, wv, s64, WT, PR, MR, MB] at hp
  simp only [t34, C34, Tr.good, Fact.den, LX.den, DX.ls, DV.ls, DX.den, Bx.den, Ex.den, eo_add, eo_sub, eo_mul, eo_quo, eo_rem, eo_fdv, eo_mn, eo_mx, eo_land, eo_lor, eo_lxor, eo_landn, eo_shl, eo_shr, dvs, flatS, SP.flat, ST.flat, List.map_cons, List.map_nil, List.append_nil, List.cons_append, List.nil_append, ltb_t, ltb_f, leb_t, leb_f, eqb_t, eqb_f, decide_eq_true_eq, decide_eq_false_iff_not, Bool.not_eq_true', Bool.not_eq_false', Bool.and_eq_true, Bool.and_eq_false_imp, beq_iff_eq, beq_eq_false_iff_ne, bne_iff_ne, U64, U32, I64, Big, W, wv, Told, s64, WT, PR, MR, MB, Int.zero_mul, Int.zero_add, Int.add_zero, Int.mul_zero, IntKind.wrap_u64, IntKind.wrap_i64, IntKind.wrap_u32, ne_eq, forall_const, true_implies, show T.rel 34 = R34 from rfl, R34, show T.pre 34 = Q34 from rfl, Q34]
  revert hp hl1
  generalize (E.r 0).c 0 = n
  generalize (E.r 0).l 1 = l
  try simp only [mxI, mnI]
  try simp only [ltb, leb, eqb, Int.lt_irrefl, decide_false, Int.le_refl, decide_true]
  intro hl hp
  have z := hp.zero
  have q := hp.pos
  refine ⟨fun h => ?_, fun h => ⟨fun h2 => ?_, fun h2 => ?_⟩⟩
  · have := z.2 (by omega)
    exact ⟨by omega, fun _ => trivial, by omega⟩
  · have := q.2.2 ⟨by omega, h2⟩
    exact ⟨fun _ => trivial, by omega, by omega⟩
  · have := q.1.2 ⟨by omega, h2⟩
    exact ⟨by omega, by omega, fun _ => trivial⟩
end Go.Proofs.Ytpccjjfcklplaaa.Fn
namespace Go.Proofs.Ytpccjjfcklplaaa.Fn
open Go Go.RowKit Go.Proofs.Ytpccjjfcklplaaa.Sy
set_option linter.unusedVariables false
set_option linter.unusedSimpArgs false
set_option maxRecDepth 100000
def t70 : Tr :=
  .br (.f (.rel 107001 [.lst 0 1] 65538 [.list [.int .i64]]) <|
   .br (.f (.is (.lt (.n 0) (.len 65538 0)) true) <|
    .br (.f (.is (.lt (.wrap .i64 (.bin .sub (.len 65538 0) (.n 1))) (.n 0)) false) <|
     .br (.f (.is (.lt (.wrap .i64 (.bin .sub (.len 65538 0) (.n 1))) (.len 65538 0)) true) <|
      .br (.f (.is (.eq (.at 65538 0 (.wrap .i64 (.bin .sub (.len 65538 0) (.n 1))) 0) (.n 0)) false) <|
       .br (.f (.is (.eq (.len 65538 0) (.n 0)) true) <|
        .ok [.tru (.lt (.n 0) (.n 0)), .rows []])
       (.f (.is (.eq (.len 65538 0) (.n 0)) false) <|
        .ok [.tru (.v 0 0), .lst 65538 0]))
      (.f (.is (.eq (.at 65538 0 (.wrap .i64 (.bin .sub (.len 65538 0) (.n 1))) 0) (.n 0)) true) <|
       .br (.f (.is (.le (.wrap .i64 (.bin .sub (.len 65538 0) (.n 1))) (.len 65538 0)) false) <|
        .bad)
       (.f (.is (.le (.wrap .i64 (.bin .sub (.len 65538 0) (.n 1))) (.len 65538 0)) true) <|
        .f (.lseq 65560 (.sub (.lst 65538 0) (.n 0) (.wrap .i64 (.bin .sub (.len 65538 0) (.n 1))))) <|
         .br (.f (.nrel 107001 [.lst 0 1] [.lst 65560 0]) <|
          .bad)
         (.f (.ndec 107001 [.lst 0 1] [.lst 65538 0] [.lst 65560 0]) <|
          .bad))))
     (.f (.is (.lt (.wrap .i64 (.bin .sub (.len 65538 0) (.n 1))) (.len 65538 0)) false) <|
      .bad))
    (.f (.is (.lt (.wrap .i64 (.bin .sub (.len 65538 0) (.n 1))) (.n 0)) true) <|
     .bad))
   (.f (.is (.lt (.n 0) (.len 65538 0)) false) <|
    .br (.f (.is (.eq (.len 65538 0) (.n 0)) true) <|
     .ok [.tru (.lt (.n 0) (.n 0)), .rows []])
    (.f (.is (.eq (.len 65538 0) (.n 0)) false) <|
     .ok [.tru (.v 0 0), .lst 65538 0])))
  (.f (.nrel 107001 [.lst 0 1] [.lst 0 1]) <|
   .bad)
theorem c70 : ConS Try.prog T C70 := con_tr (cs := []) (lcs := [L107001]) (known := []) (cons_nil _ _) (Known.nil _) (N := 400) (d := 40) (t := t70) (by kernel_rfl) <| by
  intro E hl hp
  have hl1 := hl 1 _ rfl
  clear hl
  have hp := hp rfl
  simp only [C70, show T.pre 70 = Q70 from rfl, flatS, SP.flat, dvs, List.append_nil, List.cons_append, List.nil_append, Q70, U64, U32, I64, Big, W, wv, s64, WT, PR, MR, MB] at hp
  simp only [t70, C70, Tr.good, Fact.den, LX.den, DX.ls, DV.ls, DX.den, Bx.den, Ex.den, eo_add, eo_sub, eo_mul, eo_quo, eo_rem, eo_fdv, eo_mn, eo_mx, eo_land, eo_lor, eo_lxor, eo_landn, eo_shl, eo_shr, dvs, flatS, SP.flat, ST.flat, List.map_cons, List.map_nil, List.append_nil, List.cons_append, List.nil_append, ltb_t, ltb_f, leb_t, leb_f, eqb_t, eqb_f, decide_eq_true_eq, decide_eq_false_iff_not, Bool.not_eq_true', Bool.not_eq_false', Bool.and_eq_true, Bool.and_eq_false_imp, beq_iff_eq, beq_eq_false_iff_ne, bne_iff_ne, U64, U32, I64, Big, W, wv, Told, s64, WT, PR, MR, MB, Int.zero_mul, Int.zero_add, Int.add_zero, Int.mul_zero, IntKind.wrap_u64, IntKind.wrap_i64, IntKind.wrap_u32, ne_eq, forall_const, true_implies, show T.rel 70 = R70 from rfl, R70, show T.rel 107001 = R107001 from rfl, R107001, show T.mu 107001 = M107001 from rfl, M107001, show T.pre 70 = Q70 from rfl, Q70]
  revert hp hl1
  generalize (E.r 0).c 0 = n
  generalize (E.r 0).l 1 = l
  generalize (E.r 65538).l 0 = x2_0
  generalize (E.r 65560).l 0 = x24_0
  try simp only [mxI, mnI]
  try simp only [ltb, leb, eqb, Int.lt_irrefl, decide_false, Int.le_refl, decide_true]
  intro hl hp
  refine ⟨fun ⟨i0, i1, i2⟩ => ?_, fun n => n ⟨hp.1, hp.2, by first | trivial | rfl⟩⟩
  have hb : bval n l = bval n x2_0 := by simp only [bval, i2]
  have z : x2_0.length = 0 → BOK false [] ∧ bval false [] = bval n l := by
    intro h
    rw [List.eq_nil_of_length_eq_zero h] at hb
    rw [hb]
    refine ⟨BOK_nil, ?_⟩
    cases n <;> rfl
  by_cases h0 : x2_0.length = 0
  · have := z h0
    refine ⟨by omega, fun _ => ⟨fun _ => this, by omega⟩⟩
  obtain ⟨k, hk⟩ : ∃ k, x2_0.length = k + 1 := ⟨x2_0.length - 1, by omega⟩
  have ew : ((x2_0.length : Int) - 1 + 9223372036854775808) % 18446744073709551616 - 9223372036854775808 = (k : Int) := by omega
  simp only [ew, Int.toNat_natCast, Int.toNat_zero, List.drop_zero]
  refine ⟨fun _ => ⟨fun _ => ⟨fun _ => ⟨fun c => ⟨by omega, fun _ => ?_⟩, fun c => ⟨by omega, fun _ e => ?_⟩⟩, by omega⟩, by omega⟩, by omega⟩
  · exact ⟨⟨i0, fun _ => by rw [hk, show ((k + 1 : Nat) : Int) - 1 = k by omega]; exact c, by omega⟩, hb.symm⟩
  · subst e
    have e1 := dval_trim hk c
    refine ⟨fun n => n ⟨dig_take i0 k, by rw [List.length_take]; omega, by rw [e1]; exact i2⟩, fun n => n (by rw [List.length_take]; omega)⟩
end Go.Proofs.Ytpccjjfcklplaaa.Fn
namespace Go.Proofs.Ytpccjjfcklplaaa.Fn
open Go Go.RowKit Go.Proofs.Ytpccjjfcklplaaa.Sy
set_option linter.unusedVariables false
set_option linter.unusedSimpArgs false
set_option maxRecDepth 100000
def t54 : Tr :=
  .br (.f (.rel 70 [.tru (.not (.v 0 0)), .lst 0 1] 65544 [.bool, .list [.int .i64]]) <|
   .ok [.tru (.v 65544 0), .lst 65544 1])
  (.f (.npre 70 [.tru (.not (.v 0 0)), .lst 0 1]) <|
   .bad)
theorem c54 : ConS Try.prog T C54 := con_tr (cs := [C70]) (lcs := []) (known := []) (cons_cons c70 (cons_nil _ _)) (Known.nil _) (N := 400) (d := 40) (t := t54) (by kernel_rfl) <| by
  intro E hl hp
  have hl1 := hl 1 _ rfl
  clear hl
  have hp := hp rfl
  simp only [C54, show T.pre 54 = Q54 from rfl, flatS, SP.flat, dvs, List.append_nil, List.cons_append, List.nil_append, Q54, U64, U32, I64, Big, W, wv, s64, WT, PR, MR, MB] at hp
  simp only [t54, C54, Tr.good, Fact.den, LX.den, DX.ls, DV.ls, DX.den, Bx.den, Ex.den, eo_add, eo_sub, eo_mul, eo_quo, eo_rem, eo_fdv, eo_mn, eo_mx, eo_land, eo_lor, eo_lxor, eo_landn, eo_shl, eo_shr, dvs, flatS, SP.flat, ST.flat, List.map_cons, List.map_nil, List.append_nil, List.cons_append, List.nil_append, ltb_t, ltb_f, leb_t, leb_f, eqb_t, eqb_f, decide_eq_true_eq, decide_eq_false_iff_not, Bool.not_eq_true', Bool.not_eq_false', Bool.and_eq_true, Bool.and_eq_false_imp, beq_iff_eq, beq_eq_false_iff_ne, bne_iff_ne, U64, U32, I64, Big, W, wv, Told, s64, WT, PR, MR, MB, Int.zero_mul, Int.zero_add, Int.add_zero, Int.mul_zero, IntKind.wrap_u64, IntKind.wrap_i64, IntKind.wrap_u32, ne_eq, forall_const, true_implies, show T.rel 54 = R54 from rfl, R54, show T.rel 70 = R70 from rfl, R70, show T.pre 54 = Q54 from rfl, Q54, show T.pre 70 = Q70 from rfl, Q70]
  revert hp hl1
  generalize (E.r 0).c 0 = n
  generalize (E.r 0).l 1 = l
  generalize (E.r 65544).c 0 = x8_0
  generalize (E.r 65544).l 1 = x8_1
  try simp only [mxI, mnI]
  try simp only [ltb, leb, eqb, Int.lt_irrefl, decide_false, Int.le_refl, decide_true]
  intro hl hp
  have := Bg.len hp
  refine ⟨fun h => ⟨h.1, ?_⟩, fun h => h ⟨hp.1.1, by omega⟩⟩
  rw [h.2]
  cases n <;> simp [bval]
end Go.Proofs.Ytpccjjfcklplaaa.Fn
namespace Go.Proofs.Ytpccjjfcklplaaa.Fn
open Go Go.RowKit Go.Proofs.Ytpccjjfcklplaaa.Sy
set_option linter.unusedVariables false
set_option linter.unusedSimpArgs false
set_option maxRecDepth 100000
def t89 : Tr :=
  .br (.f (.is (.lt (.v 0 2) (.len 0 1)) true) <|
   .br (.f (.is (.lt (.v 0 2) (.n 0)) false) <|
    .ok [.num (.at 0 1 (.v 0 2) 0)])
   (.f (.is (.lt (.v 0 2) (.n 0)) true) <|
    .bad))
  (.f (.is (.lt (.v 0 2) (.len 0 1)) false) <|
   .ok [.num (.n 0)])
theorem c89 : ConS Try.prog T C89 := con_tr (cs := []) (lcs := []) (known := []) (cons_nil _ _) (Known.nil _) (N := 400) (d := 40) (t := t89) (by kernel_rfl) <| by
  intro E hl hp
  have hl1 := hl 1 _ rfl
  clear hl
  have hp := hp rfl
  simp only [C89, show T.pre 89 = Q89 from rfl, flatS, SP.flat, dvs, List.append_nil, List.cons_append, List.nil_append, Q89, U64, U32, I64, Big, W, wv, s64, WT, PR, MR, MB] at hp
  simp only [t89, C89, Tr.good, Fact.den, LX.den, DX.ls, DV.ls, DX.den, Bx.den, Ex.den, eo_add, eo_sub, eo_mul, eo_quo, eo_rem, eo_fdv, eo_mn, eo_mx, eo_land, eo_lor, eo_lxor, eo_landn, eo_shl, eo_shr, dvs, flatS, SP.flat, ST.flat, List.map_cons, List.map_nil, List.append_nil, List.cons_append, List.nil_append, ltb_t, ltb_f, leb_t, leb_f, eqb_t, eqb_f, decide_eq_true_eq, decide_eq_false_iff_not, Bool.not_eq_true', Bool.not_eq_false', Bool.and_eq_true, Bool.and_eq_false_imp, beq_iff_eq, beq_eq_false_iff_ne, bne_iff_ne, U64, U32, I64, Big, W, wv, Told, s64, WT, PR, MR, MB, Int.zero_mul, Int.zero_add, Int.add_zero, Int.mul_zero, IntKind.wrap_u64, IntKind.wrap_i64, IntKind.wrap_u32, ne_eq, forall_const, true_implies, show T.rel 89 = R89 from rfl, R89, show T.pre 89 = Q89 from rfl, Q89]
  revert hp hl1
  generalize (E.r 0).c 0 = n
  generalize (E.r 0).l 1 = l
  generalize (E.r 0).i 2 = i
  try simp only [mxI, mnI]
  try simp only [ltb, leb, eqb, Int.lt_irrefl, decide_false, Int.le_refl, decide_true]
  intro hl hp
  refine ⟨fun h => ⟨fun _ => trivial, by omega⟩, fun h => ?_⟩
  exact (rowAt_out (by omega) 0).symm
end Go.Proofs.Ytpccjjfcklplaaa.Fn
namespace Go.Proofs.Ytpccjjfcklplaaa.Fn
open Go Go.RowKit Go.Proofs.Ytpccjjfcklplaaa.Sy
set_option linter.unusedVariables false
set_option linter.unusedSimpArgs false
set_option maxRecDepth 100000
def t71 : Tr :=
  .br (.f (.rel 107104 [.lst 0 1, .lst 0 3, .rows [], .num (.n 0), .num (.n 0)] 65542 [.list [.int .i64], .int .i64, .int .i64]) <|
   .br (.f (.is (.lt (.v 65542 2) (.len 0 1)) false) <|
    .br (.f (.is (.lt (.v 65542 2) (.len 0 3)) false) <|
     .br (.f (.is (.lt (.n 0) (.v 65542 1)) false) <|
      .ok [.lst 65542 0])
     (.f (.is (.lt (.n 0) (.v 65542 1)) true) <|
      .br (.f (.npre 89 [.tru (.v 0 0), .lst 0 1, .num (.v 65542 2)]) <|
       .bad)
      (.f (.rel 89 [.tru (.v 0 0), .lst 0 1, .num (.v 65542 2)] 65561 [.int .i64]) <|
       .br (.f (.npre 89 [.tru (.v 0 2), .lst 0 3, .num (.v 65542 2)]) <|
        .bad)
       (.f (.rel 89 [.tru (.v 0 2), .lst 0 3, .num (.v 65542 2)] 65564 [.int .i64]) <|
        .f (.is (.eq (.v 65569 0) (.wrap .i64 (.bin .add (.wrap .i64 (.bin .add (.v 65561 0) (.v 65564 0))) (.v 65542 1)))) true) <|
         .br (.f (.is (.le (.len 65542 0) (.n 1000000000)) false) <|
          .bad)
         (.f (.is (.le (.len 65542 0) (.n 1000000000)) true) <|
          .f (.lseq 65574 (.app (.lst 65542 0) (.rows [[.bin .rem (.v 65569 0) (.n 10000)]]))) <|
           .br (.f (.nrel 107104 [.lst 0 1, .lst 0 3, .rows [], .num (.n 0), .num (.n 0)] [.lst 65574 0, .num (.wrap .i64 (.bin .quo (.v 65569 0) (.n 10000))), .num (.wrap .i64 (.bin .add (.v 65542 2) (.n 1)))]) <|
            .bad)
           (.f (.ndec 107104 [.lst 0 1, .lst 0 3, .rows [], .num (.n 0), .num (.n 0)] [.lst 65542 0, .num (.v 65542 1), .num (.v 65542 2)] [.lst 65574 0, .num (.wrap .i64 (.bin .quo (.v 65569 0) (.n 10000))), .num (.wrap .i64 (.bin .add (.v 65542 2) (.n 1)))]) <|
            .bad))))))
    (.f (.is (.lt (.v 65542 2) (.len 0 3)) true) <|
     .br (.f (.npre 89 [.tru (.v 0 0), .lst 0 1, .num (.v 65542 2)]) <|
      .bad)
     (.f (.rel 89 [.tru (.v 0 0), .lst 0 1, .num (.v 65542 2)] 65561 [.int .i64]) <|
      .br (.f (.npre 89 [.tru (.v 0 2), .lst 0 3, .num (.v 65542 2)]) <|
       .bad)
      (.f (.rel 89 [.tru (.v 0 2), .lst 0 3, .num (.v 65542 2)] 65564 [.int .i64]) <|
       .f (.is (.eq (.v 65569 0) (.wrap .i64 (.bin .add (.wrap .i64 (.bin .add (.v 65561 0) (.v 65564 0))) (.v 65542 1)))) true) <|
        .br (.f (.is (.le (.len 65542 0) (.n 1000000000)) false) <|
         .bad)
        (.f (.is (.le (.len 65542 0) (.n 1000000000)) true) <|
         .f (.lseq 65574 (.app (.lst 65542 0) (.rows [[.bin .rem (.v 65569 0) (.n 10000)]]))) <|
          .br (.f (.nrel 107104 [.lst 0 1, .lst 0 3, .rows [], .num (.n 0), .num (.n 0)] [.lst 65574 0, .num (.wrap .i64 (.bin .quo (.v 65569 0) (.n 10000))), .num (.wrap .i64 (.bin .add (.v 65542 2) (.n 1)))]) <|
           .bad)
          (.f (.ndec 107104 [.lst 0 1, .lst 0 3, .rows [], .num (.n 0), .num (.n 0)] [.lst 65542 0, .num (.v 65542 1), .num (.v 65542 2)] [.lst 65574 0, .num (.wrap .i64 (.bin .quo (.v 65569 0) (.n 10000))), .num (.wrap .i64 (.bin .add (.v 65542 2) (.n 1)))]) <|
           .bad))))))
   (.f (.is (.lt (.v 65542 2) (.len 0 1)) true) <|
    .br (.f (.npre 89 [.tru (.v 0 0), .lst 0 1, .num (.v 65542 2)]) <|
     .bad)
    (.f (.rel 89 [.tru (.v 0 0), .lst 0 1, .num (.v 65542 2)] 65561 [.int .i64]) <|
     .br (.f (.npre 89 [.tru (.v 0 2), .lst 0 3, .num (.v 65542 2)]) <|
      .bad)
     (.f (.rel 89 [.tru (.v 0 2), .lst 0 3, .num (.v 65542 2)] 65564 [.int .i64]) <|
      .f (.is (.eq (.v 65569 0) (.wrap .i64 (.bin .add (.wrap .i64 (.bin .add (.v 65561 0) (.v 65564 0))) (.v 65542 1)))) true) <|
       .br (.f (.is (.le (.len 65542 0) (.n 1000000000)) false) <|
        .bad)
       (.f (.is (.le (.len 65542 0) (.n 1000000000)) true) <|
        .f (.lseq 65574 (.app (.lst 65542 0) (.rows [[.bin .rem (.v 65569 0) (.n 10000)]]))) <|
         .br (.f (.nrel 107104 [.lst 0 1, .lst 0 3, .rows [], .num (.n 0), .num (.n 0)] [.lst 65574 0, .num (.wrap .i64 (.bin .quo (.v 65569 0) (.n 10000))), .num (.wrap .i64 (.bin .add (.v 65542 2) (.n 1)))]) <|
          .bad)
         (.f (.ndec 107104 [.lst 0 1, .lst 0 3, .rows [], .num (.n 0), .num (.n 0)] [.lst 65542 0, .num (.v 65542 1), .num (.v 65542 2)] [.lst 65574 0, .num (.wrap .i64 (.bin .quo (.v 65569 0) (.n 10000))), .num (.wrap .i64 (.bin .add (.v 65542 2) (.n 1)))]) <|
          .bad))))))
  (.f (.nrel 107104 [.lst 0 1, .lst 0 3, .rows [], .num (.n 0), .num (.n 0)] [.rows [], .num (.n 0), .num (.n 0)]) <|
   .bad)
theorem c71 : ConS Try.prog T C71 := con_tr (cs := [C89]) (lcs := [L107104]) (known := []) (cons_cons c89 (cons_nil _ _)) (Known.nil _) (N := 400) (d := 40) (t := t71) (by kernel_rfl) <| by
  intro E hl hp
  have hl1 := hl 1 _ rfl
  have hl3 := hl 3 _ rfl
  clear hl
  have hp := hp rfl
  simp only [C71, show T.pre 71 = Q71 from rfl, flatS, SP.flat, dvs, List.append_nil, List.cons_append, List.nil_append, Q71, U64, U32, I64, Big, W, wv, s64, WT, PR, MR, MB] at hp
  simp only [t71, C71, Tr.good, Fact.den, LX.den, DX.ls, DV.ls, DX.den, Bx.den, Ex.den, eo_add, eo_sub, eo_mul, eo_quo, eo_rem, eo_fdv, eo_mn, eo_mx, eo_land, eo_lor, eo_lxor, eo_landn, eo_shl, eo_shr, dvs, flatS, SP.flat, ST.flat, List.map_cons, List.map_nil, List.append_nil, List.cons_append, List.nil_append, ltb_t, ltb_f, leb_t, leb_f, eqb_t, eqb_f, decide_eq_true_eq, decide_eq_false_iff_not, Bool.not_eq_true', Bool.not_eq_false', Bool.and_eq_true, Bool.and_eq_false_imp, beq_iff_eq, beq_eq_false_iff_ne, bne_iff_ne, U64, U32, I64, Big, W, wv, Told, s64, WT, PR, MR, MB, Int.zero_mul, Int.zero_add, Int.add_zero, Int.mul_zero, IntKind.wrap_u64, IntKind.wrap_i64, IntKind.wrap_u32, ne_eq, forall_const, true_implies, show T.rel 71 = R71 from rfl, R71, show T.rel 89 = R89 from rfl, R89, show T.rel 107104 = R107104 from rfl, R107104, show T.mu 107104 = M107104 from rfl, M107104, show T.pre 71 = Q71 from rfl, Q71, show T.pre 89 = Q89 from rfl, Q89]
  revert hp hl1 hl3
  generalize (E.r 0).c 0 = an
  generalize (E.r 0).l 1 = al
  generalize (E.r 0).c 2 = bn
  generalize (E.r 0).l 3 = bl
  generalize (E.r 65542).l 0 = x6_0
  generalize (E.r 65542).i 1 = x6_1
  generalize (E.r 65542).i 2 = x6_2
  generalize (E.r 65561).i 0 = x25_0
  generalize (E.r 65564).i 0 = x28_0
  generalize (E.r 65569).i 0 = x33_0
  generalize (E.r 65574).l 0 = x38_0
  try simp only [mxI, mnI]
  try simp only [ltb, leb, eqb, Int.lt_irrefl, decide_false, Int.le_refl, decide_true]
  intro hal hbl hp
  obtain ⟨da, db, la, lb⟩ := hp
  refine ⟨fun ⟨i0, i1, i2, i3, i4, i5, i6⟩ => ?_, fun n => n ⟨by first | trivial | omega, by first | trivial | rfl, dig_nil, by first | trivial | omega, by first | trivial | omega, by first | trivial | omega, by simp [dval, P4]⟩⟩
  obtain ⟨k, rfl⟩ := Int.eq_ofNat_of_zero_le i0
  have hk : x6_0.length = k := by omega
  have ew : ((k : Int) + 1 + 9223372036854775808) % 18446744073709551616 - 9223372036854775808 = ((k + 1 : Nat) : Int) := by omega
  simp only [ew, Int.toNat_natCast] at *
  have ra := da k
  have rb := db k
  have step : ∀ s : Int, s = Sy.rowAt al k 0 + Sy.rowAt bl k 0 + x6_1 → (k < al.length ∨ k < bl.length ∨ 0 < x6_1) → ∀ y : List (List Int), y = x6_0 ++ [[s.tmod 10000]] →
      (0 ≤ ((k + 1 : Nat) : Int) ∧ (y.length : Int) = ((k + 1 : Nat) : Int) ∧ dig y ∧ 0 ≤ (s.tdiv 10000 + 9223372036854775808) % 18446744073709551616 - 9223372036854775808 ∧ (s.tdiv 10000 + 9223372036854775808) % 18446744073709551616 - 9223372036854775808 ≤ 1 ∧
        (((k + 1 : Nat) : Int) ≤ al.length ∨ ((k + 1 : Nat) : Int) ≤ bl.length ∨ (s.tdiv 10000 + 9223372036854775808) % 18446744073709551616 - 9223372036854775808 = 0 ∧ (((k + 1 : Nat) : Int) ≤ al.length + 1 ∨ ((k + 1 : Nat) : Int) ≤ bl.length + 1)) ∧
        dval y + P4 (k + 1) * ((s.tdiv 10000 + 9223372036854775808) % 18446744073709551616 - 9223372036854775808 + dval (al.drop (k + 1)) + dval (bl.drop (k + 1))) = dval al + dval bl) := by
    intro s hs ho y hy
    have s0 : 0 ≤ s := by omega
    rw [Int.tmod_eq_emod_of_nonneg s0] at hy
    rw [Int.tdiv_eq_ediv_of_nonneg s0]
    have eq : (s / 10000 + 9223372036854775808) % 18446744073709551616 - 9223372036854775808 = s / 10000 := by omega
    rw [eq]
    subst hy
    refine ⟨by omega, by simp [hk], dig_snoc i2 (by omega) (by omega), by omega, by omega, ?_, ?_⟩
    · by_cases c1 : k < al.length
      · left; omega
      · by_cases c2 : k < bl.length
        · right; left; omega
        · have := rowAt_out (L := al) (i := k) (by omega) 0
          have := rowAt_out (L := bl) (i := k) (by omega) 0
          right; right; omega
    · rw [dval_snoc, hk]
      rw [dval_drop al k, dval_drop bl k] at i6
      have em : s = 10000 * (s / 10000) + s % 10000 := by omega
      have e2 : x6_1 + (Sy.rowAt al k 0 + 10000 * dval (al.drop (k + 1))) + (Sy.rowAt bl k 0 + 10000 * dval (bl.drop (k + 1))) = s + 10000 * dval (al.drop (k + 1)) + 10000 * dval (bl.drop (k + 1)) := by omega
      rw [e2] at i6
      simp only [P4]
      generalize s / 10000 = q at *
      generalize s % 10000 = r at *
      subst em
      grind
  repeat' (first | exact i2 | intro _ | refine And.intro ?_ ?_)
  all_goals first
    | omega
    | (rename_i n; exact n (step _ (by omega) (by omega) _ (by assumption)))
    | exact i2
    | (rw [List.drop_of_length_le (show al.length ≤ k by omega), List.drop_of_length_le (show bl.length ≤ k by omega)] at i6
       simp only [dval, Int.add_zero, Int.zero_add] at i6
       have : x6_1 = 0 := by omega
       rw [this] at i6
       omega)
end Go.Proofs.Ytpccjjfcklplaaa.Fn
namespace Go.Proofs.Ytpccjjfcklplaaa.Fn
open Go Go.RowKit Go.Proofs.Ytpccjjfcklplaaa.Sy
set_option linter.unusedVariables false
set_option linter.unusedSimpArgs false
set_option maxRecDepth 100000
def t72 : Tr :=
  .br (.f (.rel 107202 [.lst 0 1, .lst 0 3, .num (.wrap .i64 (.bin .sub (.bin .mx (.len 0 1) (.len 0 3)) (.n 1)))] 65548 [.int .i64]) <|
   .br (.f (.is (.le (.n 0) (.v 65548 0)) true) <|
    .br (.f (.rel 89 [.tru (.v 0 0), .lst 0 1, .num (.v 65548 0)] 65553 [.int .i64]) <|
     .br (.f (.rel 89 [.tru (.v 0 2), .lst 0 3, .num (.v 65548 0)] 65556 [.int .i64]) <|
      .br (.f (.is (.lt (.v 65553 0) (.v 65556 0)) true) <|
       .ok [.num (.n (-1))])
      (.f (.is (.lt (.v 65553 0) (.v 65556 0)) false) <|
       .br (.f (.rel 89 [.tru (.v 0 0), .lst 0 1, .num (.v 65548 0)] 65560 [.int .i64]) <|
        .br (.f (.rel 89 [.tru (.v 0 2), .lst 0 3, .num (.v 65548 0)] 65563 [.int .i64]) <|
         .br (.f (.is (.lt (.v 65563 0) (.v 65560 0)) true) <|
          .ok [.num (.n 1)])
         (.f (.is (.lt (.v 65563 0) (.v 65560 0)) false) <|
          .br (.f (.nrel 107202 [.lst 0 1, .lst 0 3, .num (.wrap .i64 (.bin .sub (.bin .mx (.len 0 1) (.len 0 3)) (.n 1)))] [.num (.wrap .i64 (.bin .sub (.v 65548 0) (.n 1)))]) <|
           .bad)
          (.f (.ndec 107202 [.lst 0 1, .lst 0 3, .num (.wrap .i64 (.bin .sub (.bin .mx (.len 0 1) (.len 0 3)) (.n 1)))] [.num (.v 65548 0)] [.num (.wrap .i64 (.bin .sub (.v 65548 0) (.n 1)))]) <|
           .bad)))
        (.f (.npre 89 [.tru (.v 0 2), .lst 0 3, .num (.v 65548 0)]) <|
         .bad))
       (.f (.npre 89 [.tru (.v 0 0), .lst 0 1, .num (.v 65548 0)]) <|
        .bad)))
     (.f (.npre 89 [.tru (.v 0 2), .lst 0 3, .num (.v 65548 0)]) <|
      .bad))
    (.f (.npre 89 [.tru (.v 0 0), .lst 0 1, .num (.v 65548 0)]) <|
     .bad))
   (.f (.is (.le (.n 0) (.v 65548 0)) false) <|
    .ok [.num (.n 0)]))
  (.f (.nrel 107202 [.lst 0 1, .lst 0 3, .num (.wrap .i64 (.bin .sub (.bin .mx (.len 0 1) (.len 0 3)) (.n 1)))] [.num (.wrap .i64 (.bin .sub (.bin .mx (.len 0 1) (.len 0 3)) (.n 1)))]) <|
   .bad)
theorem c72 : ConS Try.prog T C72 := con_tr (cs := [C89]) (lcs := [L107202]) (known := []) (cons_cons c89 (cons_nil _ _)) (Known.nil _) (N := 400) (d := 40) (t := t72) (by kernel_rfl) <| by
  intro E hl hp
  have hl1 := hl 1 _ rfl
  have hl3 := hl 3 _ rfl
  clear hl
  have hp := hp rfl
  simp only [C72, show T.pre 72 = Q72 from rfl, flatS, SP.flat, dvs, List.append_nil, List.cons_append, List.nil_append, Q72, U64, U32, I64, Big, W, wv, s64, WT, PR, MR, MB] at hp
  simp only [t72, C72, Tr.good, Fact.den, LX.den, DX.ls, DV.ls, DX.den, Bx.den, Ex.den, eo_add, eo_sub, eo_mul, eo_quo, eo_rem, eo_fdv, eo_mn, eo_mx, eo_land, eo_lor, eo_lxor, eo_landn, eo_shl, eo_shr, dvs, flatS, SP.flat, ST.flat, List.map_cons, List.map_nil, List.append_nil, List.cons_append, List.nil_append, ltb_t, ltb_f, leb_t, leb_f, eqb_t, eqb_f, decide_eq_true_eq, decide_eq_false_iff_not, Bool.not_eq_true', Bool.not_eq_false', Bool.and_eq_true, Bool.and_eq_false_imp, beq_iff_eq, beq_eq_false_iff_ne, bne_iff_ne, U64, U32, I64, Big, W, wv, Told, s64, WT, PR, MR, MB, Int.zero_mul, Int.zero_add, Int.add_zero, Int.mul_zero, IntKind.wrap_u64, IntKind.wrap_i64, IntKind.wrap_u32, ne_eq, forall_const, true_implies, show T.rel 72 = R72 from rfl, R72, show T.rel 89 = R89 from rfl, R89, show T.rel 107202 = R107202 from rfl, R107202, show T.mu 107202 = M107202 from rfl, M107202, show T.pre 72 = Q72 from rfl, Q72, show T.pre 89 = Q89 from rfl, Q89]
  revert hp hl1 hl3
  generalize (E.r 0).c 0 = an
  generalize (E.r 0).l 1 = al
  generalize (E.r 0).c 2 = bn
  generalize (E.r 0).l 3 = bl
  generalize (E.r 65548).i 0 = x12_0
  generalize (E.r 65553).i 0 = x17_0
  generalize (E.r 65556).i 0 = x20_0
  generalize (E.r 65560).i 0 = x24_0
  generalize (E.r 65563).i 0 = x27_0
  try simp only [mxI, mnI]
  try simp only [ltb, leb, eqb, Int.lt_irrefl, decide_false, Int.le_refl, decide_true]
  intro hal hbl hp
  obtain ⟨da, db, la, lb⟩ := hp
  refine ⟨fun ⟨i0, i1, i2⟩ => ⟨fun h0 => ?_, fun h0 => ?_⟩, ?_⟩
  · obtain ⟨k, rfl⟩ := Int.eq_ofNat_of_zero_le h0
    have ek : ((k : Int) + 1).toNat = k + 1 := by omega
    rw [ek] at i2
    have ew : ((k : Int) - 1 + 9223372036854775808) % 18446744073709551616 - 9223372036854775808 = (k : Int) - 1 := by omega
    simp only [ew]
    refine ⟨fun e1 => ⟨fun e2 => ⟨fun h1 => ?_, fun h1 => ⟨fun e3 => ⟨fun e4 => ⟨fun h2 => ?_, fun h2 => ?_⟩, fun n => n h0⟩, fun n => n h0⟩⟩, fun n => n h0⟩, fun n => n h0⟩
    · have := dval_le_of_top da db i2 (by omega)
      exact ⟨fun _ => trivial, by omega, by omega⟩
    · have := dval_le_of_top db da i2.symm (by omega)
      exact ⟨by omega, by omega, fun _ => trivial⟩
    · refine ⟨fun n => n ⟨by omega, by omega, ?_⟩, by omega⟩
      have e5 : ((k : Int) - 1 + 1).toNat = k := by omega
      rw [e5, dval_drop al k, dval_drop bl k, i2]
      omega
  · have e0 : (x12_0 + 1).toNat = 0 := by omega
    rw [e0, List.drop_zero, List.drop_zero] at i2
    exact ⟨by omega, fun _ => trivial, by omega⟩
  · intro n
    apply n
    have e1 : al.drop (((if (bl.length : Int) > (al.length : Int) then (bl.length : Int) else (al.length : Int)) - 1 + 9223372036854775808) % 18446744073709551616 - 9223372036854775808 + 1).toNat = [] := List.drop_of_length_le (by split <;> omega)
    have e2 : bl.drop (((if (bl.length : Int) > (al.length : Int) then (bl.length : Int) else (al.length : Int)) - 1 + 9223372036854775808) % 18446744073709551616 - 9223372036854775808 + 1).toNat = [] := List.drop_of_length_le (by split <;> omega)
    rw [e1, e2]
    refine ⟨by split <;> omega, by split <;> omega, rfl⟩
end Go.Proofs.Ytpccjjfcklplaaa.Fn
namespace Go.Proofs.Ytpccjjfcklplaaa.Fn
open Go Go.RowKit Go.Proofs.Ytpccjjfcklplaaa.Sy
set_option linter.unusedVariables false
set_option linter.unusedSimpArgs false
set_option maxRecDepth 100000
def t73 : Tr :=
  .br (.f (.rel 107304 [.lst 0 1, .lst 0 3, .rows [], .num (.n 0), .num (.n 0)] 65542 [.list [.int .i64], .int .i64, .int .i64]) <|
   .br (.f (.is (.lt (.v 65542 2) (.len 0 1)) false) <|
    .ok [.lst 65542 0])
   (.f (.is (.lt (.v 65542 2) (.len 0 1)) true) <|
    .br (.f (.is (.lt (.v 65542 2) (.n 0)) true) <|
     .bad)
    (.f (.is (.lt (.v 65542 2) (.n 0)) false) <|
     .br (.f (.npre 89 [.tru (.v 0 2), .lst 0 3, .num (.v 65542 2)]) <|
      .bad)
     (.f (.rel 89 [.tru (.v 0 2), .lst 0 3, .num (.v 65542 2)] 65555 [.int .i64]) <|
      .f (.is (.eq (.v 65560 0) (.wrap .i64 (.bin .sub (.wrap .i64 (.bin .sub (.at 0 1 (.v 65542 2) 0) (.v 65555 0))) (.v 65542 1)))) true) <|
       .br (.f (.is (.lt (.v 65560 0) (.n 0)) true) <|
        .br (.f (.is (.le (.len 65542 0) (.n 1000000000)) false) <|
         .bad)
        (.f (.is (.le (.len 65542 0) (.n 1000000000)) true) <|
         .f (.lseq 65571 (.app (.lst 65542 0) (.rows [[.wrap .i64 (.bin .add (.v 65560 0) (.n 10000))]]))) <|
          .br (.f (.nrel 107304 [.lst 0 1, .lst 0 3, .rows [], .num (.n 0), .num (.n 0)] [.lst 65571 0, .num (.n 1), .num (.wrap .i64 (.bin .add (.v 65542 2) (.n 1)))]) <|
           .bad)
          (.f (.ndec 107304 [.lst 0 1, .lst 0 3, .rows [], .num (.n 0), .num (.n 0)] [.lst 65542 0, .num (.v 65542 1), .num (.v 65542 2)] [.lst 65571 0, .num (.n 1), .num (.wrap .i64 (.bin .add (.v 65542 2) (.n 1)))]) <|
           .bad)))
       (.f (.is (.lt (.v 65560 0) (.n 0)) false) <|
        .br (.f (.is (.le (.len 65542 0) (.n 1000000000)) false) <|
         .bad)
        (.f (.is (.le (.len 65542 0) (.n 1000000000)) true) <|
         .f (.lseq 65567 (.app (.lst 65542 0) (.rows [[.v 65560 0]]))) <|
          .br (.f (.nrel 107304 [.lst 0 1, .lst 0 3, .rows [], .num (.n 0), .num (.n 0)] [.lst 65567 0, .num (.n 0), .num (.wrap .i64 (.bin .add (.v 65542 2) (.n 1)))]) <|
           .bad)
          (.f (.ndec 107304 [.lst 0 1, .lst 0 3, .rows [], .num (.n 0), .num (.n 0)] [.lst 65542 0, .num (.v 65542 1), .num (.v 65542 2)] [.lst 65567 0, .num (.n 0), .num (.wrap .i64 (.bin .add (.v 65542 2) (.n 1)))]) <|
           .bad)))))))
  (.f (.nrel 107304 [.lst 0 1, .lst 0 3, .rows [], .num (.n 0), .num (.n 0)] [.rows [], .num (.n 0), .num (.n 0)]) <|
   .bad)
theorem c73 : ConS Try.prog T C73 := con_tr (cs := [C89]) (lcs := [L107304]) (known := []) (cons_cons c89 (cons_nil _ _)) (Known.nil _) (N := 400) (d := 40) (t := t73) (by kernel_rfl) <| by
  intro E hl hp
  have hl1 := hl 1 _ rfl
  have hl3 := hl 3 _ rfl
  clear hl
  have hp := hp rfl
  simp only [C73, show T.pre 73 = Q73 from rfl, flatS, SP.flat, dvs, List.append_nil, List.cons_append, List.nil_append, Q73, U64, U32, I64, Big, W, wv, s64, WT, PR, MR, MB] at hp
  simp only [t73, C73, Tr.good, Fact.den, LX.den, DX.ls, DV.ls, DX.den, Bx.den, Ex.den, eo_add, eo_sub, eo_mul, eo_quo, eo_rem, eo_fdv, eo_mn, eo_mx, eo_land, eo_lor, eo_lxor, eo_landn, eo_shl, eo_shr, dvs, flatS, SP.flat, ST.flat, List.map_cons, List.map_nil, List.append_nil, List.cons_append, List.nil_append, ltb_t, ltb_f, leb_t, leb_f, eqb_t, eqb_f, decide_eq_true_eq, decide_eq_false_iff_not, Bool.not_eq_true', Bool.not_eq_false', Bool.and_eq_true, Bool.and_eq_false_imp, beq_iff_eq, beq_eq_false_iff_ne, bne_iff_ne, U64, U32, I64, Big, W, wv, Told, s64, WT, PR, MR, MB, Int.zero_mul, Int.zero_add, Int.add_zero, Int.mul_zero, IntKind.wrap_u64, IntKind.wrap_i64, IntKind.wrap_u32, ne_eq, forall_const, true_implies, show T.rel 73 = R73 from rfl, R73, show T.rel 89 = R89 from rfl, R89, show T.rel 107304 = R107304 from rfl, R107304, show T.mu 107304 = M107304 from rfl, M107304, show T.pre 73 = Q73 from rfl, Q73, show T.pre 89 = Q89 from rfl, Q89]
  revert hp hl1 hl3
  generalize (E.r 0).c 0 = an
  generalize (E.r 0).l 1 = al
  generalize (E.r 0).c 2 = bn
  generalize (E.r 0).l 3 = bl
  generalize (E.r 65542).l 0 = x6_0
  generalize (E.r 65542).i 1 = x6_1
  generalize (E.r 65542).i 2 = x6_2
  generalize (E.r 65555).i 0 = x19_0
  generalize (E.r 65560).i 0 = x24_0
  generalize (E.r 65567).l 0 = x31_0
  generalize (E.r 65571).l 0 = x35_0
  try simp only [mxI, mnI]
  try simp only [ltb, leb, eqb, Int.lt_irrefl, decide_false, Int.le_refl, decide_true]
  intro hal hbl hp
  obtain ⟨da, db, la, lb, lab⟩ := hp
  refine ⟨fun ⟨i0, i1, i2, i3, i4, i5, i6⟩ => ?_, fun n => n ⟨by first | trivial | omega, by first | trivial | omega, by first | trivial | rfl, dig_nil, by first | trivial | omega, by first | trivial | omega, by simp [dval, P4]⟩⟩
  obtain ⟨k, rfl⟩ := Int.eq_ofNat_of_zero_le i0
  have hk : x6_0.length = k := by omega
  have ew : ((k : Int) + 1 + 9223372036854775808) % 18446744073709551616 - 9223372036854775808 = ((k + 1 : Nat) : Int) := by omega
  simp only [ew, Int.toNat_natCast] at *
  have ra := da k
  have rb := db k
  have step : ∀ c s : Int, 0 ≤ c → c ≤ 1 → s = Sy.rowAt al k 0 - Sy.rowAt bl k 0 - x6_1 + 10000 * c → 0 ≤ s → s < 10000 → k < al.length → ∀ y : List (List Int), y = x6_0 ++ [[s]] →
      (0 ≤ ((k + 1 : Nat) : Int) ∧ ((k + 1 : Nat) : Int) ≤ al.length ∧ (y.length : Int) = ((k + 1 : Nat) : Int) ∧ dig y ∧ 0 ≤ c ∧ c ≤ 1 ∧ dval y + P4 (k + 1) * (dval (al.drop (k + 1)) - dval (bl.drop (k + 1)) - c) = dval al - dval bl) := by
    intro c s c0 c1 hs s0 s1 hl y hy
    subst hy
    refine ⟨by omega, by omega, by simp [hk], dig_snoc i3 s0 s1, c0, c1, ?_⟩
    rw [dval_snoc, hk]
    rw [dval_drop al k, dval_drop bl k] at i6
    have e2 : (Sy.rowAt al k 0 + 10000 * dval (al.drop (k + 1))) - (Sy.rowAt bl k 0 + 10000 * dval (bl.drop (k + 1))) - x6_1 = s + 10000 * (dval (al.drop (k + 1)) - dval (bl.drop (k + 1)) - c) := by omega
    rw [e2] at i6
    simp only [P4]
    grind
  have last : al.length ≤ k → dval x6_0 = dval al - dval bl := by
    intro hl
    rw [List.drop_of_length_le (show al.length ≤ k by omega)] at i6
    have d1 := dval_nonneg (dig_drop db k)
    have d2 := dval_lt i3
    rw [hk] at d2
    have p := P4_pos k
    by_cases hz : dval (bl.drop k) + x6_1 = 0
    · have e : dval [] - dval (bl.drop k) - x6_1 = 0 := by simp only [dval]; omega
      rw [e, Int.mul_zero] at i6
      omega
    · exfalso
      have e : dval [] - dval (bl.drop k) - x6_1 = -(dval (bl.drop k) + x6_1) := by simp only [dval]; omega
      rw [e, Int.mul_neg] at i6
      have := Int.mul_le_mul_of_nonneg_left (show 1 ≤ dval (bl.drop k) + x6_1 by omega) (show 0 ≤ P4 k by omega)
      omega
  repeat' (first | exact i3 | intro _ | refine And.intro ?_ ?_)
  all_goals first
    | omega
    | (rename_i h n; exact n (by simpa using step 0 _ (by omega) (by omega) (by omega) (by omega) (by omega) (by omega) _ h))
    | (rename_i h n; exact n (by simpa using step 1 _ (by omega) (by omega) (by omega) (by omega) (by omega) (by omega) _ h))
    | (have := last (by omega); omega)
end Go.Proofs.Ytpccjjfcklplaaa.Fn
namespace Go.Proofs.Ytpccjjfcklplaaa.Fn
open Go Go.RowKit Go.Proofs.Ytpccjjfcklplaaa.Sy
set_option linter.unusedVariables false
set_option linter.unusedSimpArgs false
set_option maxRecDepth 100000
def t55 : Tr :=
  .br (.f (.is (.beq (.v 0 0) (.v 0 2)) true) <|
   .br (.f (.rel 71 [.tru (.v 0 0), .lst 0 1, .tru (.v 0 2), .lst 0 3] 65548 [.list [.int .i64]]) <|
    .br (.f (.rel 70 [.tru (.v 0 0), .lst 65548 0] 65550 [.bool, .list [.int .i64]]) <|
     .ok [.tru (.v 65550 0), .lst 65550 1])
    (.f (.npre 70 [.tru (.v 0 0), .lst 65548 0]) <|
     .bad))
   (.f (.npre 71 [.tru (.v 0 0), .lst 0 1, .tru (.v 0 2), .lst 0 3]) <|
    .bad))
  (.f (.is (.beq (.v 0 0) (.v 0 2)) false) <|
   .br (.f (.rel 72 [.tru (.v 0 0), .lst 0 1, .tru (.v 0 2), .lst 0 3] 65546 [.int .i64]) <|
    .br (.f (.is (.le (.n 0) (.v 65546 0)) true) <|
     .br (.f (.rel 73 [.tru (.v 0 0), .lst 0 1, .tru (.v 0 2), .lst 0 3] 65552 [.list [.int .i64]]) <|
      .br (.f (.rel 70 [.tru (.v 0 0), .lst 65552 0] 65554 [.bool, .list [.int .i64]]) <|
       .ok [.tru (.v 65554 0), .lst 65554 1])
      (.f (.npre 70 [.tru (.v 0 0), .lst 65552 0]) <|
       .bad))
     (.f (.npre 73 [.tru (.v 0 0), .lst 0 1, .tru (.v 0 2), .lst 0 3]) <|
      .bad))
    (.f (.is (.le (.n 0) (.v 65546 0)) false) <|
     .br (.f (.rel 73 [.tru (.v 0 2), .lst 0 3, .tru (.v 0 0), .lst 0 1] 65552 [.list [.int .i64]]) <|
      .br (.f (.rel 70 [.tru (.v 0 2), .lst 65552 0] 65554 [.bool, .list [.int .i64]]) <|
       .ok [.tru (.v 65554 0), .lst 65554 1])
      (.f (.npre 70 [.tru (.v 0 2), .lst 65552 0]) <|
       .bad))
     (.f (.npre 73 [.tru (.v 0 2), .lst 0 3, .tru (.v 0 0), .lst 0 1]) <|
      .bad)))
   (.f (.npre 72 [.tru (.v 0 0), .lst 0 1, .tru (.v 0 2), .lst 0 3]) <|
    .bad))
theorem c55 : ConS Try.prog T C55 := con_tr (cs := [C70, C71, C72, C73]) (lcs := []) (known := []) (cons_cons c70 (cons_cons c71 (cons_cons c72 (cons_cons c73 (cons_nil _ _))))) (Known.nil _) (N := 400) (d := 40) (t := t55) (by kernel_rfl) <| by
  intro E hl hp
  have hl1 := hl 1 _ rfl
  have hl3 := hl 3 _ rfl
  clear hl
  have hp := hp rfl
  simp only [C55, show T.pre 55 = Q55 from rfl, flatS, SP.flat, dvs, List.append_nil, List.cons_append, List.nil_append, Q55, U64, U32, I64, Big, W, wv, s64, WT, PR, MR, MB] at hp
  simp only [t55, C55, Tr.good, Fact.den, LX.den, DX.ls, DV.ls, DX.den, Bx.den, Ex.den, eo_add, eo_sub, eo_mul, eo_quo, eo_rem, eo_fdv, eo_mn, eo_mx, eo_land, eo_lor, eo_lxor, eo_landn, eo_shl, eo_shr, dvs, flatS, SP.flat, ST.flat, List.map_cons, List.map_nil, List.append_nil, List.cons_append, List.nil_append, ltb_t, ltb_f, leb_t, leb_f, eqb_t, eqb_f, decide_eq_true_eq, decide_eq_false_iff_not, Bool.not_eq_true', Bool.not_eq_false', Bool.and_eq_true, Bool.and_eq_false_imp, beq_iff_eq, beq_eq_false_iff_ne, bne_iff_ne, U64, U32, I64, Big, W, wv, Told, s64, WT, PR, MR, MB, Int.zero_mul, Int.zero_add, Int.add_zero, Int.mul_zero, IntKind.wrap_u64, IntKind.wrap_i64, IntKind.wrap_u32, ne_eq, forall_const, true_implies, show T.rel 55 = R55 from rfl, R55, show T.rel 70 = R70 from rfl, R70, show T.rel 71 = R71 from rfl, R71, show T.rel 72 = R72 from rfl, R72, show T.rel 73 = R73 from rfl, R73, show T.pre 55 = Q55 from rfl, Q55, show T.pre 70 = Q70 from rfl, Q70, show T.pre 71 = Q71 from rfl, Q71, show T.pre 72 = Q72 from rfl, Q72, show T.pre 73 = Q73 from rfl, Q73]
  revert hp hl1 hl3
  generalize (E.r 0).c 0 = an
  generalize (E.r 0).l 1 = al
  generalize (E.r 0).c 2 = bn
  generalize (E.r 0).l 3 = bl
  generalize (E.r 65546).i 0 = x10_0
  generalize (E.r 65548).l 0 = x12_0
  generalize (E.r 65550).c 0 = x14_0
  generalize (E.r 65550).l 1 = x14_1
  generalize (E.r 65552).l 0 = x16_0
  generalize (E.r 65554).c 0 = x18_0
  generalize (E.r 65554).l 1 = x18_1
  try simp only [mxI, mnI]
  try simp only [ltb, leb, eqb, Int.lt_irrefl, decide_false, Int.le_refl, decide_true]
  intro hal hbl hp
  have la := Bg.len hp.1
  have lb := Bg.len hp.2
  have da := hp.1.1.1
  have db := hp.2.1.1
  refine ⟨fun h => ⟨fun e1 => ⟨fun e2 => ⟨e2.1, ?_⟩, fun n => n ⟨e1.1, by omega⟩⟩, fun n => n ⟨da, db, by omega, by omega⟩⟩, fun h => ⟨fun e0 => ⟨fun c => ⟨fun e1 => ⟨fun e2 => ⟨e2.1, ?_⟩, fun n => n ⟨e1.1, by omega⟩⟩, fun n => n ⟨da, db, by omega, by omega, by omega⟩⟩, fun c => ⟨fun e1 => ⟨fun e2 => ⟨e2.1, ?_⟩, fun n => n ⟨e1.1, by omega⟩⟩, fun n => n ⟨db, da, by omega, by omega, by omega⟩⟩⟩, fun n => n ⟨da, db, by omega, by omega⟩⟩⟩
  · rw [e2.2]
    subst h
    cases an <;> simp only [bval, cond_true, cond_false, e1.2.1] <;> omega
  · rw [e2.2]
    cases an <;> cases bn <;> simp_all [bval] <;> omega
  · rw [e2.2]
    cases an <;> cases bn <;> simp_all [bval] <;> omega
end Go.Proofs.Ytpccjjfcklplaaa.Fn
namespace Go.Proofs.Ytpccjjfcklplaaa.Fn
open Go Go.RowKit Go.Proofs.Ytpccjjfcklplaaa.Sy
set_option linter.unusedVariables false
set_option linter.unusedSimpArgs false
set_option maxRecDepth 100000
def t36 : Tr :=
  .br (.f (.rel 54 [.tru (.v 0 2), .lst 0 3] 65541 [.bool, .list [.int .i64]]) <|
   .br (.f (.rel 55 [.tru (.v 0 0), .lst 0 1, .tru (.v 65541 0), .lst 65541 1] 65542 [.bool, .list [.int .i64]]) <|
    .ok [.tru (.v 65542 0), .lst 65542 1])
   (.f (.npre 55 [.tru (.v 0 0), .lst 0 1, .tru (.v 65541 0), .lst 65541 1]) <|
    .bad))
  (.f (.npre 54 [.tru (.v 0 2), .lst 0 3]) <|
   .bad)
theorem c36 : ConS Try.prog T C36 := con_tr (cs := [C54, C55]) (lcs := []) (known := []) (cons_cons c54 (cons_cons c55 (cons_nil _ _))) (Known.nil _) (N := 400) (d := 40) (t := t36) (by kernel_rfl) <| by
  intro E hl hp
  have hl1 := hl 1 _ rfl
  have hl3 := hl 3 _ rfl
  clear hl
  have hp := hp rfl
  simp only [C36, show T.pre 36 = Q36 from rfl, flatS, SP.flat, dvs, List.append_nil, List.cons_append, List.nil_append, Q36, U64, U32, I64, Big, W, wv, s64, WT, PR, MR, MB] at hp
  simp only [t36, C36, Tr.good, Fact.den, LX.den, DX.ls, DV.ls, DX.den, Bx.den, Ex.den, eo_add, eo_sub, eo_mul, eo_quo, eo_rem, eo_fdv, eo_mn, eo_mx, eo_land, eo_lor, eo_lxor, eo_landn, eo_shl, eo_shr, dvs, flatS, SP.flat, ST.flat, List.map_cons, List.map_nil, List.append_nil, List.cons_append, List.nil_append, ltb_t, ltb_f, leb_t, leb_f, eqb_t, eqb_f, decide_eq_true_eq, decide_eq_false_iff_not, Bool.not_eq_true', Bool.not_eq_false', Bool.and_eq_true, Bool.and_eq_false_imp, beq_iff_eq, beq_eq_false_iff_ne, bne_iff_ne, U64, U32, I64, Big, W, wv, Told, s64, WT, PR, MR, MB, Int.zero_mul, Int.zero_add, Int.add_zero, Int.mul_zero, IntKind.wrap_u64, IntKind.wrap_i64, IntKind.wrap_u32, ne_eq, forall_const, true_implies, show T.rel 36 = R36 from rfl, R36, show T.rel 54 = R54 from rfl, R54, show T.rel 55 = R55 from rfl, R55, show T.pre 36 = Q36 from rfl, Q36, show T.pre 54 = Q54 from rfl, Q54, show T.pre 55 = Q55 from rfl, Q55]
  revert hp hl1 hl3
  generalize (E.r 0).c 0 = an
  generalize (E.r 0).l 1 = al
  generalize (E.r 0).c 2 = bn
  generalize (E.r 0).l 3 = bl
  generalize (E.r 65541).c 0 = x5_0
  generalize (E.r 65541).l 1 = x5_1
  generalize (E.r 65542).c 0 = x6_0
  generalize (E.r 65542).l 1 = x6_1
  try simp only [mxI, mnI]
  try simp only [ltb, leb, eqb, Int.lt_irrefl, decide_false, Int.le_refl, decide_true]
  intro hal hbl hp
  refine ⟨fun e => ⟨fun e2 => ⟨e2.1, by rw [e2.2, e.2]; omega⟩, fun n => n ⟨hp.1, e.1, by rw [e.2]; omega, by rw [e.2]; omega⟩⟩, fun n => n hp.2⟩
end Go.Proofs.Ytpccjjfcklplaaa.Fn
