/- What is told of the functions, shown: turnstone/turnstoneref01.Div, turnstone/turnstoneref01.Small, turnstone/turnstoneref04.Word, turnstone/turnstoneref04.At, turnstone/turnstoneref01.Mul, turnstone/turnstoneref15.Move, turnstone/turnstoneref03.Since, turnstone/turnstoneref04.Right. -/
import Derived.Test.YtjemohphaeiaiaaGreatDoorFm2
namespace Go.Proofs.YtjemohphaeiaiaaGreatDoor.Fn
open Go Go.RowKit Go.Proofs.YtjemohphaeiaiaaGreatDoor.Sy
set_option linter.unusedVariables false
set_option linter.unusedSimpArgs false
set_option maxRecDepth 100000
def t62 : Tr :=
  .br (.f (.is (.lt (.len 0 1) (.n 0)) false) <|
   .br (.f (.is (.le (.len 0 1) (.n 1000000000)) true) <|
    .f (.lseq 65542 (.rep (.len 0 1) [0])) <|
     .br (.f (.rel 106204 [.lst 0 1, .num (.v 0 2), .lst 65542 0, .num (.n 0), .num (.wrap .i64 (.bin .sub (.len 0 1) (.n 1)))] 65550 [.list [.int .i64], .int .i64, .int .i64]) <|
      .br (.f (.is (.le (.n 0) (.v 65550 2)) false) <|
       .br (.f (.rel 66 [.tru (.lt (.n 0) (.n 0)), .lst 65550 0] 65555 [.bool, .list [.int .i64]]) <|
        .br (.f (.is (.v 0 0) false) <|
         .ok [.tru (.v 65555 0), .lst 65555 1, .num (.v 65550 1)])
        (.f (.is (.v 0 0) true) <|
         .br (.f (.is (.lt (.n 0) (.v 65550 1)) true) <|
          .br (.f (.rel 77 [.num (.n 1)] 65564 [.bool, .list [.int .i64]]) <|
           .br (.f (.rel 44 [.tru (.v 65555 0), .lst 65555 1, .tru (.v 65564 0), .lst 65564 1] 65565 [.bool, .list [.int .i64]]) <|
            .br (.f (.rel 76 [.tru (.v 65565 0), .lst 65565 1] 65572 [.bool, .list [.int .i64]]) <|
             .ok [.tru (.v 65572 0), .lst 65572 1, .num (.wrap .i64 (.bin .sub (.v 0 2) (.v 65550 1)))])
            (.f (.npre 76 [.tru (.v 65565 0), .lst 65565 1]) <|
             .bad))
           (.f (.npre 44 [.tru (.v 65555 0), .lst 65555 1, .tru (.v 65564 0), .lst 65564 1]) <|
            .bad))
          (.f (.npre 77 [.num (.n 1)]) <|
           .bad))
         (.f (.is (.lt (.n 0) (.v 65550 1)) false) <|
          .br (.f (.rel 76 [.tru (.v 65555 0), .lst 65555 1] 65564 [.bool, .list [.int .i64]]) <|
           .ok [.tru (.v 65564 0), .lst 65564 1, .num (.v 65550 1)])
          (.f (.npre 76 [.tru (.v 65555 0), .lst 65555 1]) <|
           .bad))))
       (.f (.npre 66 [.tru (.lt (.n 0) (.n 0)), .lst 65550 0]) <|
        .bad))
      (.f (.is (.le (.n 0) (.v 65550 2)) true) <|
       .br (.f (.is (.lt (.v 65550 2) (.n 0)) true) <|
        .bad)
       (.f (.is (.lt (.v 65550 2) (.n 0)) false) <|
        .br (.f (.is (.lt (.v 65550 2) (.len 0 1)) false) <|
         .bad)
        (.f (.is (.lt (.v 65550 2) (.len 0 1)) true) <|
         .f (.is (.eq (.v 65562 0) (.wrap .i64 (.bin .add (.wrap .i64 (.bin .mul (.v 65550 1) (.n 10000))) (.at 0 1 (.v 65550 2) 0)))) true) <|
          .br (.f (.is (.eq (.v 0 2) (.n 0)) true) <|
           .bad)
          (.f (.is (.eq (.v 0 2) (.n 0)) false) <|
           .br (.f (.is (.lt (.v 65550 2) (.len 65550 0)) false) <|
            .bad)
           (.f (.is (.lt (.v 65550 2) (.len 65550 0)) true) <|
            .f (.lseq 65569 (.set (.lst 65550 0) (.v 65550 2) 0 [.wrap .i64 (.bin .quo (.v 65562 0) (.v 0 2))])) <|
             .br (.f (.nrel 106204 [.lst 0 1, .num (.v 0 2), .lst 65542 0, .num (.n 0), .num (.wrap .i64 (.bin .sub (.len 0 1) (.n 1)))] [.lst 65569 0, .num (.bin .rem (.v 65562 0) (.v 0 2)), .num (.wrap .i64 (.bin .sub (.v 65550 2) (.n 1)))]) <|
              .bad)
             (.f (.ndec 106204 [.lst 0 1, .num (.v 0 2), .lst 65542 0, .num (.n 0), .num (.wrap .i64 (.bin .sub (.len 0 1) (.n 1)))] [.lst 65550 0, .num (.v 65550 1), .num (.v 65550 2)] [.lst 65569 0, .num (.bin .rem (.v 65562 0) (.v 0 2)), .num (.wrap .i64 (.bin .sub (.v 65550 2) (.n 1)))]) <|
              .bad)))))))
     (.f (.nrel 106204 [.lst 0 1, .num (.v 0 2), .lst 65542 0, .num (.n 0), .num (.wrap .i64 (.bin .sub (.len 0 1) (.n 1)))] [.lst 65542 0, .num (.n 0), .num (.wrap .i64 (.bin .sub (.len 0 1) (.n 1)))]) <|
      .bad))
   (.f (.is (.le (.len 0 1) (.n 1000000000)) false) <|
    .bad))
  (.f (.is (.lt (.len 0 1) (.n 0)) true) <|
   .bad)
theorem c62 : ConS Tryz.prog T C62 := con_tr (cs := [C44, C66, C76, C77]) (lcs := [L106204]) (known := []) (cons_cons c44 (cons_cons c66 (cons_cons c76 (cons_cons c77 (cons_nil _ _))))) (Known.nil _) (N := 400) (d := 40) (t := t62) (by kernel_rfl) <| by
  intro E hl hp
  have hl1 := hl 1 _ rfl
  clear hl
  have hp := hp rfl
  simp only [C62, show T.pre 62 = Q62 from rfl, flatS, SP.flat, dvs, List.append_nil, List.cons_append, List.nil_append, Q62, U64, U32, I64, Big, W, wv, s64, WT, PR, MR, MB] at hp
  simp only [t62, C62, Tr.good, Fact.den, LX.den, DX.ls, DV.ls, DX.den, Bx.den, Ex.den, eo_add, eo_sub, eo_mul, eo_quo, eo_rem, eo_fdv, eo_mn, eo_mx, eo_land, eo_lor, eo_lxor, eo_landn, eo_shl, eo_shr, dvs, flatS, SP.flat, ST.flat, List.map_cons, List.map_nil, List.append_nil, List.cons_append, List.nil_append, ltb_t, ltb_f, leb_t, leb_f, eqb_t, eqb_f, decide_eq_true_eq, decide_eq_false_iff_not, Bool.not_eq_true', Bool.not_eq_false', Bool.and_eq_true, Bool.and_eq_false_imp, beq_iff_eq, beq_eq_false_iff_ne, bne_iff_ne, U64, U32, I64, Big, W, wv, Told, s64, WT, PR, MR, MB, Int.zero_mul, Int.zero_add, Int.add_zero, Int.mul_zero, IntKind.wrap_u64, IntKind.wrap_i64, IntKind.wrap_u32, ne_eq, forall_const, true_implies, show T.rel 44 = R44 from rfl, R44, show T.rel 62 = R62 from rfl, R62, show T.rel 66 = R66 from rfl, R66, show T.rel 76 = R76 from rfl, R76, show T.rel 77 = R77 from rfl, R77, show T.rel 106204 = R106204 from rfl, R106204, show T.mu 106204 = M106204 from rfl, M106204, show T.pre 44 = Q44 from rfl, Q44, show T.pre 62 = Q62 from rfl, Q62, show T.pre 66 = Q66 from rfl, Q66, show T.pre 76 = Q76 from rfl, Q76, show T.pre 77 = Q77 from rfl, Q77]
  revert hp hl1
  generalize (E.r 0).c 0 = an
  generalize (E.r 0).l 1 = al
  generalize (E.r 0).i 2 = b
  generalize (E.r 65542).l 0 = x6_0
  generalize (E.r 65550).l 0 = x14_0
  generalize (E.r 65550).i 1 = x14_1
  generalize (E.r 65550).i 2 = x14_2
  generalize (E.r 65555).c 0 = x19_0
  generalize (E.r 65555).l 1 = x19_1
  generalize (E.r 65562).i 0 = x26_0
  generalize (E.r 65564).c 0 = x28_0
  generalize (E.r 65564).l 1 = x28_1
  generalize (E.r 65565).c 0 = x29_0
  generalize (E.r 65565).l 1 = x29_1
  generalize (E.r 65569).l 0 = x33_0
  generalize (E.r 65572).c 0 = x36_0
  generalize (E.r 65572).l 1 = x36_1
  try simp only [mxI, mnI]
  try simp only [ltb, leb, eqb, Int.lt_irrefl, decide_false, Int.le_refl, decide_true]
  intro hl hp
  have la := Bg.len hp.1
  have da := hp.1.1.1
  obtain ⟨ha, b0, b1⟩ := hp
  have v1 := bval_abs (n := an) da
  have an0 := dval_nonneg da
  refine ⟨fun _ => ⟨fun _ y0 => ⟨fun ⟨i0, i1, i2, i3, i4, i5, i6, i7⟩ => ⟨fun c => ?_, fun c => ?_⟩, ?_⟩, by omega⟩, by omega⟩
  · -- all digits are told
    have e0 : (x14_2 + 1).toNat = 0 := by omega
    rw [e0, List.drop_zero] at i7
    simp only [P4, Int.one_mul] at i7
    have hq := div_at b0 i7.symm i4 i5
    have qn := dval_nonneg i3
    have qb := Int.mul_le_mul_of_nonneg_left (show 1 ≤ b by omega) qn
    have sm : dval al < 1000000000000000000000000000000000000000000000000000000000000000000000000000000000000000000000000 := by
      have h1 := ha.2.1
      have h2 := ha.2.2
      cases an
      · have := v1.2 rfl; omega
      · have := v1.1 rfl; omega
    refine ⟨fun e1 => ?_, fun n => n ⟨i3, by omega⟩⟩
    have ev : bval x19_0 x19_1 = dval x14_0 := e1.2
    refine ⟨fun h => ?_, fun h => ⟨fun h2 => ⟨fun e2 => ⟨fun e3 => ⟨fun e4 => ?_, fun n => n ⟨e3.1, by rw [e3.2, ev, e2.2]; omega, by rw [e3.2, ev, e2.2]; omega⟩⟩, fun n => n ⟨⟨e1.1, by rw [ev]; omega, by rw [ev]; omega⟩, e2.1, by rw [e2.2]; omega, by rw [e2.2]; omega⟩⟩, by omega⟩, fun h2 => ⟨fun e2 => ?_, fun n => n ⟨e1.1, by rw [ev]; omega, by rw [ev]; omega⟩⟩⟩⟩
    · rw [ev, v1.2 h, hq.1, hq.2]
      exact ⟨e1.1, rfl, rfl⟩
    · have dn := div_neg (v := bval an al) (m := dval al) b0 (v1.1 h)
      rw [hq.1, hq.2] at dn
      have := dn.2 (by omega)
      rw [this.1, this.2, e4.2, e3.2, ev, e2.2]
      exact ⟨e4.1, by omega, by omega⟩
    · have dn := div_neg (v := bval an al) (m := dval al) b0 (v1.1 h)
      rw [hq.1, hq.2] at dn
      have := dn.1 (by omega)
      rw [this.1, this.2, e2.2, ev]
      exact ⟨e2.1, rfl, by omega⟩
  · obtain ⟨k, rfl⟩ := Int.eq_ofNat_of_zero_le c
    have ew : ((k : Int) - 1 + 9223372036854775808) % 18446744073709551616 - 9223372036854775808 = (k : Int) - 1 := by omega
    have ek : ((k : Int) + 1).toNat = k + 1 := by omega
    have ek2 : ((k : Int) - 1 + 1).toNat = k := by omega
    simp only [ew, ek, ek2] at *
    have dk := da k
    have e1 : ((x14_1 * 10000 + 9223372036854775808) % 18446744073709551616 - 9223372036854775808 + Sy.rowAt al k 0 + 9223372036854775808) % 18446744073709551616 - 9223372036854775808 = x14_1 * 10000 + Sy.rowAt al k 0 := by omega
    rw [e1]
    refine ⟨by omega, fun _ => ⟨by omega, fun _ s => ⟨by omega, fun _ => ⟨by omega, fun _ y => ?_⟩⟩⟩⟩
    have s0 : 0 ≤ x26_0 := by omega
    rw [Int.tdiv_eq_ediv_of_nonneg s0] at y
    rw [Int.tmod_eq_emod_of_nonneg s0]
    have q0 := Int.ediv_nonneg s0 (show 0 ≤ b by omega)
    have q1 : x26_0 / b < 10000 := by apply Int.ediv_lt_of_lt_mul b0; omega
    have r0 := Int.emod_nonneg x26_0 (show b ≠ 0 by omega)
    have r1 := Int.emod_lt_of_pos x26_0 b0
    have em := Int.emod_add_ediv_mul x26_0 b
    have eq : (x26_0 / b + 9223372036854775808) % 18446744073709551616 - 9223372036854775808 = x26_0 / b := by omega
    rw [eq] at y
    subst y
    refine ⟨fun n => n ⟨by omega, by omega, by rw [rowSet_len]; exact i2, dig_set i3 (by omega) (by omega) q0 q1, r0, r1, fun j hj => ?_, ?_⟩, by omega⟩
    · rw [rowAt_set (by omega) (by omega), if_neg (by omega)]
      exact i6 j (by omega)
    · rw [dval_set (by omega), i6 k (Int.le_refl _), dval_drop al k]
      simp only [P4] at i7
      generalize x26_0 / b = q at *
      generalize x26_0 % b = r at *
      subst s
      grind
  · intro n
    subst y0
    rw [Int.toNat_natCast] at n
    apply n
    have ew : ((al.length : Int) - 1 + 9223372036854775808) % 18446744073709551616 - 9223372036854775808 = (al.length : Int) - 1 := by omega
    rw [ew, show ((al.length : Int) - 1 + 1).toNat = al.length by omega, List.drop_length, dval_rep]
    exact ⟨by omega, by omega, List.length_replicate, dig_rep _, trivial, b0, fun j _ => rowAt_rep _ j, by simp [dval]⟩
end Go.Proofs.YtjemohphaeiaiaaGreatDoor.Fn
namespace Go.Proofs.YtjemohphaeiaiaaGreatDoor.Fn
open Go Go.RowKit Go.Proofs.YtjemohphaeiaiaaGreatDoor.Sy
set_option linter.unusedVariables false
set_option linter.unusedSimpArgs false
set_option maxRecDepth 100000
def t63 : Tr :=
  .br (.f (.rel 56 [.num (.n 63)] 65538 [.bool, .list [.int .i64]]) <|
   .br (.f (.rel 55 [.tru (.v 0 0), .lst 0 1, .tru (.v 65538 0), .lst 65538 1] 65543 [.int .i64]) <|
    .br (.f (.is (.lt (.v 65543 0) (.n 0)) true) <|
     .br (.f (.rel 76 [.tru (.v 65538 0), .lst 65538 1] 65548 [.bool, .list [.int .i64]]) <|
      .br (.f (.rel 55 [.tru (.v 0 0), .lst 0 1, .tru (.v 65548 0), .lst 65548 1] 65549 [.int .i64]) <|
       .ok [.tru (.le (.n 0) (.v 65549 0))])
      (.f (.npre 55 [.tru (.v 0 0), .lst 0 1, .tru (.v 65548 0), .lst 65548 1]) <|
       .bad))
     (.f (.npre 76 [.tru (.v 65538 0), .lst 65538 1]) <|
      .bad))
    (.f (.is (.lt (.v 65543 0) (.n 0)) false) <|
     .ok [.tru (.lt (.n 0) (.n 0))]))
   (.f (.npre 55 [.tru (.v 0 0), .lst 0 1, .tru (.v 65538 0), .lst 65538 1]) <|
    .bad))
  (.f (.npre 56 [.num (.n 63)]) <|
   .bad)
theorem c63 : ConS Tryz.prog T C63 := con_tr (cs := [C55, C56, C76]) (lcs := []) (known := []) (cons_cons c55 (cons_cons c56 (cons_cons c76 (cons_nil _ _)))) (Known.nil _) (N := 400) (d := 40) (t := t63) (by kernel_rfl) <| by
  intro E hl hp
  have hl1 := hl 1 _ rfl
  clear hl
  have hp := hp rfl
  simp only [C63, show T.pre 63 = Q63 from rfl, flatS, SP.flat, dvs, List.append_nil, List.cons_append, List.nil_append, Q63, U64, U32, I64, Big, W, wv, s64, WT, PR, MR, MB] at hp
  simp only [t63, C63, Tr.good, Fact.den, LX.den, DX.ls, DV.ls, DX.den, Bx.den, Ex.den, eo_add, eo_sub, eo_mul, eo_quo, eo_rem, eo_fdv, eo_mn, eo_mx, eo_land, eo_lor, eo_lxor, eo_landn, eo_shl, eo_shr, dvs, flatS, SP.flat, ST.flat, List.map_cons, List.map_nil, List.append_nil, List.cons_append, List.nil_append, ltb_t, ltb_f, leb_t, leb_f, eqb_t, eqb_f, decide_eq_true_eq, decide_eq_false_iff_not, Bool.not_eq_true', Bool.not_eq_false', Bool.and_eq_true, Bool.and_eq_false_imp, beq_iff_eq, beq_eq_false_iff_ne, bne_iff_ne, U64, U32, I64, Big, W, wv, Told, s64, WT, PR, MR, MB, Int.zero_mul, Int.zero_add, Int.add_zero, Int.mul_zero, IntKind.wrap_u64, IntKind.wrap_i64, IntKind.wrap_u32, ne_eq, forall_const, true_implies, show T.rel 55 = R55 from rfl, R55, show T.rel 56 = R56 from rfl, R56, show T.rel 63 = R63 from rfl, R63, show T.rel 76 = R76 from rfl, R76, show T.pre 55 = Q55 from rfl, Q55, show T.pre 56 = Q56 from rfl, Q56, show T.pre 63 = Q63 from rfl, Q63, show T.pre 76 = Q76 from rfl, Q76]
  revert hp hl1
  generalize (E.r 0).c 0 = n
  generalize (E.r 0).l 1 = l
  generalize (E.r 65538).c 0 = x2_0
  generalize (E.r 65538).l 1 = x2_1
  generalize (E.r 65543).i 0 = x7_0
  generalize (E.r 65548).c 0 = x12_0
  generalize (E.r 65548).l 1 = x12_1
  generalize (E.r 65549).i 0 = x13_0
  try simp only [mxI, mnI]
  try simp only [ltb, leb, eqb, Int.lt_irrefl, decide_false, Int.le_refl, decide_true]
  intro hl hp
  rw [p2_63]
  refine ⟨fun e1 => ⟨fun e2 => ⟨fun c => ⟨fun e3 => ⟨fun e4 => ?_, fun n => n ⟨hp, e3.1, by omega, by omega⟩⟩, fun n => n ⟨e1.1, by omega, by omega⟩⟩, fun c => ?_⟩, fun n => n ⟨hp, e1.1, by omega, by omega⟩⟩, by omega⟩
  · omega
  · refine ⟨fun h => h.elim, fun h => ?_⟩
    omega
end Go.Proofs.YtjemohphaeiaiaaGreatDoor.Fn
namespace Go.Proofs.YtjemohphaeiaiaaGreatDoor.Fn
open Go Go.RowKit Go.Proofs.YtjemohphaeiaiaaGreatDoor.Sy
set_option linter.unusedVariables false
set_option linter.unusedSimpArgs false
set_option maxRecDepth 100000
def t64 : Tr :=
  .br (.f (.rel 106403 [.lst 0 1, .num (.n 0), .num (.wrap .i64 (.bin .sub (.len 0 1) (.n 1)))] 65544 [.int .u64, .int .i64]) <|
   .br (.f (.is (.le (.n 0) (.v 65544 1)) false) <|
    .ok [.num (.v 65544 0)])
   (.f (.is (.le (.n 0) (.v 65544 1)) true) <|
    .br (.f (.is (.lt (.v 65544 1) (.n 0)) true) <|
     .bad)
    (.f (.is (.lt (.v 65544 1) (.n 0)) false) <|
     .br (.f (.is (.lt (.v 65544 1) (.len 0 1)) false) <|
      .bad)
     (.f (.is (.lt (.v 65544 1) (.len 0 1)) true) <|
      .f (.is (.eq (.v 65557 0) (.wrap .u64 (.bin .add (.wrap .u64 (.bin .mul (.n 10000) (.v 65544 0))) (.wrap .u64 (.at 0 1 (.v 65544 1) 0))))) true) <|
       .br (.f (.nrel 106403 [.lst 0 1, .num (.n 0), .num (.wrap .i64 (.bin .sub (.len 0 1) (.n 1)))] [.num (.v 65557 0), .num (.wrap .i64 (.bin .sub (.v 65544 1) (.n 1)))]) <|
        .bad)
       (.f (.ndec 106403 [.lst 0 1, .num (.n 0), .num (.wrap .i64 (.bin .sub (.len 0 1) (.n 1)))] [.num (.v 65544 0), .num (.v 65544 1)] [.num (.v 65557 0), .num (.wrap .i64 (.bin .sub (.v 65544 1) (.n 1)))]) <|
        .bad)))))
  (.f (.nrel 106403 [.lst 0 1, .num (.n 0), .num (.wrap .i64 (.bin .sub (.len 0 1) (.n 1)))] [.num (.n 0), .num (.wrap .i64 (.bin .sub (.len 0 1) (.n 1)))]) <|
   .bad)
theorem c64 : ConS Tryz.prog T C64 := con_tr (cs := []) (lcs := [L106403]) (known := []) (cons_nil _ _) (Known.nil _) (N := 400) (d := 40) (t := t64) (by kernel_rfl) <| by
  intro E hl hp
  have hl1 := hl 1 _ rfl
  clear hl
  have hp := hp rfl
  simp only [C64, show T.pre 64 = Q64 from rfl, flatS, SP.flat, dvs, List.append_nil, List.cons_append, List.nil_append, Q64, U64, U32, I64, Big, W, wv, s64, WT, PR, MR, MB] at hp
  simp only [t64, C64, Tr.good, Fact.den, LX.den, DX.ls, DV.ls, DX.den, Bx.den, Ex.den, eo_add, eo_sub, eo_mul, eo_quo, eo_rem, eo_fdv, eo_mn, eo_mx, eo_land, eo_lor, eo_lxor, eo_landn, eo_shl, eo_shr, dvs, flatS, SP.flat, ST.flat, List.map_cons, List.map_nil, List.append_nil, List.cons_append, List.nil_append, ltb_t, ltb_f, leb_t, leb_f, eqb_t, eqb_f, decide_eq_true_eq, decide_eq_false_iff_not, Bool.not_eq_true', Bool.not_eq_false', Bool.and_eq_true, Bool.and_eq_false_imp, beq_iff_eq, beq_eq_false_iff_ne, bne_iff_ne, U64, U32, I64, Big, W, wv, Told, s64, WT, PR, MR, MB, Int.zero_mul, Int.zero_add, Int.add_zero, Int.mul_zero, IntKind.wrap_u64, IntKind.wrap_i64, IntKind.wrap_u32, ne_eq, forall_const, true_implies, show T.rel 64 = R64 from rfl, R64, show T.rel 106403 = R106403 from rfl, R106403, show T.mu 106403 = M106403 from rfl, M106403, show T.pre 64 = Q64 from rfl, Q64]
  revert hp hl1
  generalize (E.r 0).c 0 = n
  generalize (E.r 0).l 1 = l
  generalize (E.r 65544).i 0 = x8_0
  generalize (E.r 65544).i 1 = x8_1
  generalize (E.r 65557).i 0 = x21_0
  try simp only [mxI, mnI]
  try simp only [ltb, leb, eqb, Int.lt_irrefl, decide_false, Int.le_refl, decide_true]
  intro hl hp
  have hB : Bg n l := ⟨hp.1, by omega, by omega⟩
  have la := Bg.len hB
  have da := hp.1.d
  have v := bval_abs (n := n) da
  have dn := dval_nonneg da
  have ev : dval l = bval n l := by
    cases n
    · exact (v.2 rfl).symm
    · have := v.1 rfl
      omega
  refine ⟨fun ⟨i0, i1, i2⟩ => ⟨fun c => ?_, fun c => ⟨by omega, fun _ => ⟨by omega, fun _ e => ?_⟩⟩⟩, fun n => n ⟨by omega, by omega, ?_⟩⟩
  · have e0 : (x8_1 + 1).toNat = 0 := by omega
    rw [i2, e0, List.drop_zero, ev]
  · obtain ⟨k, rfl⟩ := Int.eq_ofNat_of_zero_le c
    have ew : ((k : Int) - 1 + 9223372036854775808) % 18446744073709551616 - 9223372036854775808 = (k : Int) - 1 := by omega
    have ek : ((k : Int) + 1).toNat = k + 1 := by omega
    have ek2 : ((k : Int) - 1 + 1).toNat = k := by omega
    simp only [ew, ek, ek2] at *
    have dk := dval_drop l k
    have le := dval_drop_le da (k := k) (by omega)
    have dd := da k
    have dz := dval_nonneg (dig_drop da (k + 1))
    refine ⟨fun n => n ⟨by omega, by omega, ?_⟩, by omega⟩
    rw [e, i2, dk]
    omega
  · have ew : ((l.length : Int) - 1 + 9223372036854775808) % 18446744073709551616 - 9223372036854775808 = (l.length : Int) - 1 := by omega
    rw [ew, show ((l.length : Int) - 1 + 1).toNat = l.length by omega, List.drop_length]
    rfl
end Go.Proofs.YtjemohphaeiaiaaGreatDoor.Fn
namespace Go.Proofs.YtjemohphaeiaiaaGreatDoor.Fn
open Go Go.RowKit Go.Proofs.YtjemohphaeiaiaaGreatDoor.Sy
set_option linter.unusedVariables false
set_option linter.unusedSimpArgs false
set_option maxRecDepth 100000
def t43 : Tr :=
  .br (.f (.is (.lt (.v 0 3) (.n 1)) true) <|
   .ok [.num (.n 0), .num (.n 0), .num (.n 0), .tru (.lt (.n 0) (.n 0))])
  (.f (.is (.lt (.v 0 3) (.n 1)) false) <|
   .br (.f (.is (.lt (.n 1048576) (.v 0 3)) true) <|
    .ok [.num (.n 0), .num (.n 0), .num (.n 0), .tru (.lt (.n 0) (.n 0))])
   (.f (.is (.lt (.n 1048576) (.v 0 3)) false) <|
    .br (.f (.rel 62 [.tru (.v 0 1), .lst 0 2, .num (.wrap .i64 (.v 0 3))] 65548 [.bool, .list [.int .i64], .int .i64]) <|
     .br (.f (.rel 63 [.tru (.v 65548 0), .lst 65548 1] 65556 [.bool]) <|
      .br (.f (.is (.v 65556 0) false) <|
       .ok [.num (.n 0), .num (.n 0), .num (.n 0), .tru (.lt (.n 0) (.n 0))])
      (.f (.is (.v 65556 0) true) <|
       .br (.f (.rel 45 [.num (.v 0 0)] 65559 [.bool, .list [.int .i64]]) <|
        .br (.f (.rel 44 [.tru (.v 65559 0), .lst 65559 1, .tru (.v 65548 0), .lst 65548 1] 65561 [.bool, .list [.int .i64]]) <|
         .br (.f (.rel 56 [.num (.n 64)] 4296671234 [.bool, .list [.int .i64]]) <|
          .br (.f (.rel 106502 [.tru (.v 65561 0), .lst 65561 1] 4296671237 [.bool, .list [.int .i64]]) <|
           .br (.f (.rel 54 [.tru (.v 4296671237 0), .lst 4296671237 1] 4296671239 [.int .i64]) <|
            .br (.f (.is (.lt (.v 4296671239 0) (.n 0)) false) <|
             .br (.f (.rel 106504 [.tru (.v 4296671237 0), .lst 4296671237 1] 4296671241 [.bool, .list [.int .i64]]) <|
              .br (.f (.rel 55 [.tru (.v 4296671241 0), .lst 4296671241 1, .tru (.v 4296671234 0), .lst 4296671234 1] 4296671244 [.int .i64]) <|
               .br (.f (.is (.le (.n 0) (.v 4296671244 0)) false) <|
                .br (.f (.rel 64 [.tru (.v 4296671241 0), .lst 4296671241 1] 65563 [.int .u64]) <|
                 .ok [.num (.v 65563 0), .num (.wrap .u32 (.v 65548 2)), .num (.v 0 3), .tru (.le (.n 0) (.n 0))])
                (.f (.npre 64 [.tru (.v 4296671241 0), .lst 4296671241 1]) <|
                 .bad))
               (.f (.is (.le (.n 0) (.v 4296671244 0)) true) <|
                .br (.f (.npre 75 [.tru (.v 4296671241 0), .lst 4296671241 1, .tru (.v 4296671234 0), .lst 4296671234 1]) <|
                 .bad)
                (.f (.rel 75 [.tru (.v 4296671241 0), .lst 4296671241 1, .tru (.v 4296671234 0), .lst 4296671234 1] 4296671248 [.bool, .list [.int .i64]]) <|
                 .br (.f (.nrel 106504 [.tru (.v 4296671237 0), .lst 4296671237 1] [.tru (.v 4296671248 0), .lst 4296671248 1]) <|
                  .bad)
                 (.f (.ndec 106504 [.tru (.v 4296671237 0), .lst 4296671237 1] [.tru (.v 4296671241 0), .lst 4296671241 1] [.tru (.v 4296671248 0), .lst 4296671248 1]) <|
                  .bad))))
              (.f (.npre 55 [.tru (.v 4296671241 0), .lst 4296671241 1, .tru (.v 4296671234 0), .lst 4296671234 1]) <|
               .bad))
             (.f (.nrel 106504 [.tru (.v 4296671237 0), .lst 4296671237 1] [.tru (.v 4296671237 0), .lst 4296671237 1]) <|
              .bad))
            (.f (.is (.lt (.v 4296671239 0) (.n 0)) true) <|
             .br (.f (.npre 44 [.tru (.v 4296671237 0), .lst 4296671237 1, .tru (.v 4296671234 0), .lst 4296671234 1]) <|
              .bad)
             (.f (.rel 44 [.tru (.v 4296671237 0), .lst 4296671237 1, .tru (.v 4296671234 0), .lst 4296671234 1] 4296671243 [.bool, .list [.int .i64]]) <|
              .br (.f (.nrel 106502 [.tru (.v 65561 0), .lst 65561 1] [.tru (.v 4296671243 0), .lst 4296671243 1]) <|
               .bad)
              (.f (.ndec 106502 [.tru (.v 65561 0), .lst 65561 1] [.tru (.v 4296671237 0), .lst 4296671237 1] [.tru (.v 4296671243 0), .lst 4296671243 1]) <|
               .bad))))
           (.f (.npre 54 [.tru (.v 4296671237 0), .lst 4296671237 1]) <|
            .bad))
          (.f (.nrel 106502 [.tru (.v 65561 0), .lst 65561 1] [.tru (.v 65561 0), .lst 65561 1]) <|
           .bad))
         (.f (.npre 56 [.num (.n 64)]) <|
          .bad))
        (.f (.npre 44 [.tru (.v 65559 0), .lst 65559 1, .tru (.v 65548 0), .lst 65548 1]) <|
         .bad))
       (.f (.npre 45 [.num (.v 0 0)]) <|
        .bad)))
     (.f (.npre 63 [.tru (.v 65548 0), .lst 65548 1]) <|
      .bad))
    (.f (.npre 62 [.tru (.v 0 1), .lst 0 2, .num (.wrap .i64 (.v 0 3))]) <|
     .bad)))
theorem c43 : ConS Tryz.prog T C43 := con_tr (cs := [C44, C45, C54, C55, C56, C62, C63, C64, C75]) (lcs := [L106502, L106504]) (known := []) (cons_cons c44 (cons_cons c45 (cons_cons c54 (cons_cons c55 (cons_cons c56 (cons_cons c62 (cons_cons c63 (cons_cons c64 (cons_cons c75 (cons_nil _ _)))))))))) (Known.nil _) (N := 400) (d := 40) (t := t43) (by kernel_rfl) <| by
  intro E hl hp
  have hl2 := hl 2 _ rfl
  clear hl
  have hp := hp rfl
  simp only [C43, show T.pre 43 = Q43 from rfl, flatS, SP.flat, dvs, List.append_nil, List.cons_append, List.nil_append, Q43, U64, U32, I64, Big, W, wv, s64, WT, PR, MR, MB] at hp
  simp only [t43, C43, Tr.good, Fact.den, LX.den, DX.ls, DV.ls, DX.den, Bx.den, Ex.den, eo_add, eo_sub, eo_mul, eo_quo, eo_rem, eo_fdv, eo_mn, eo_mx, eo_land, eo_lor, eo_lxor, eo_landn, eo_shl, eo_shr, dvs, flatS, SP.flat, ST.flat, List.map_cons, List.map_nil, List.append_nil, List.cons_append, List.nil_append, ltb_t, ltb_f, leb_t, leb_f, eqb_t, eqb_f, decide_eq_true_eq, decide_eq_false_iff_not, Bool.not_eq_true', Bool.not_eq_false', Bool.and_eq_true, Bool.and_eq_false_imp, beq_iff_eq, beq_eq_false_iff_ne, bne_iff_ne, U64, U32, I64, Big, W, wv, Told, s64, WT, PR, MR, MB, Int.zero_mul, Int.zero_add, Int.add_zero, Int.mul_zero, IntKind.wrap_u64, IntKind.wrap_i64, IntKind.wrap_u32, ne_eq, forall_const, true_implies, show T.rel 43 = R43 from rfl, R43, show T.rel 44 = R44 from rfl, R44, show T.rel 45 = R45 from rfl, R45, show T.rel 54 = R54 from rfl, R54, show T.rel 55 = R55 from rfl, R55, show T.rel 56 = R56 from rfl, R56, show T.rel 62 = R62 from rfl, R62, show T.rel 63 = R63 from rfl, R63, show T.rel 64 = R64 from rfl, R64, show T.rel 75 = R75 from rfl, R75, show T.rel 106502 = R106502 from rfl, R106502, show T.rel 106504 = R106504 from rfl, R106504, show T.mu 106502 = M106502 from rfl, M106502, show T.mu 106504 = M106504 from rfl, M106504, show T.pre 43 = Q43 from rfl, Q43, show T.pre 44 = Q44 from rfl, Q44, show T.pre 45 = Q45 from rfl, Q45, show T.pre 54 = Q54 from rfl, Q54, show T.pre 55 = Q55 from rfl, Q55, show T.pre 56 = Q56 from rfl, Q56, show T.pre 62 = Q62 from rfl, Q62, show T.pre 63 = Q63 from rfl, Q63, show T.pre 64 = Q64 from rfl, Q64, show T.pre 75 = Q75 from rfl, Q75]
  revert hp hl2
  generalize (E.r 0).i 0 = base
  generalize (E.r 0).c 1 = dn
  generalize (E.r 0).l 2 = dl
  generalize (E.r 0).i 3 = w
  generalize (E.r 65548).c 0 = x12_0
  generalize (E.r 65548).l 1 = x12_1
  generalize (E.r 65548).i 2 = x12_2
  generalize (E.r 65556).c 0 = x20_0
  generalize (E.r 65559).c 0 = x23_0
  generalize (E.r 65559).l 1 = x23_1
  generalize (E.r 65561).c 0 = x25_0
  generalize (E.r 65561).l 1 = x25_1
  generalize (E.r 65563).i 0 = x27_0
  generalize (E.r 4296671234).c 0 = x4296605698_0
  generalize (E.r 4296671234).l 1 = x4296605698_1
  generalize (E.r 4296671237).c 0 = x4296605701_0
  generalize (E.r 4296671237).l 1 = x4296605701_1
  generalize (E.r 4296671239).i 0 = x4296605703_0
  generalize (E.r 4296671241).c 0 = x4296605705_0
  generalize (E.r 4296671241).l 1 = x4296605705_1
  generalize (E.r 4296671243).c 0 = x4296605707_0
  generalize (E.r 4296671243).l 1 = x4296605707_1
  generalize (E.r 4296671244).i 0 = x4296605708_0
  generalize (E.r 4296671248).c 0 = x4296605712_0
  generalize (E.r 4296671248).l 1 = x4296605712_1
  try simp only [Bg]
  try generalize bval dn dl = dn_v
  try generalize bval x12_0 x12_1 = y12_0
  try generalize bval x23_0 x23_1 = y23_0
  try generalize bval x25_0 x25_1 = y25_0
  try generalize bval x4296605698_0 x4296605698_1 = y4296605698_0
  try generalize bval x4296605701_0 x4296605701_1 = y4296605701_0
  try generalize bval x4296605705_0 x4296605705_1 = y4296605705_0
  try generalize bval x4296605707_0 x4296605707_1 = y4296605707_0
  try generalize bval x4296605712_0 x4296605712_1 = y4296605712_0
  try simp only [mxI, mnI]
  try simp only [ltb, leb, eqb, Int.lt_irrefl, decide_false, Int.le_refl, decide_true]
  intro hl hp
  rw [p2_64]
  have e1 : (w + 9223372036854775808) % 18446744073709551616 - 9223372036854775808 = w := by omega
  simp only [e1]
  have rr : 1 ≤ w → 0 ≤ dn_v % w ∧ dn_v % w < w := fun h => ⟨Int.emod_nonneg _ (by omega), Int.emod_lt_of_pos _ (by omega)⟩
  have qb : 1 ≤ w → -1000000000000000000000000000000000000000000000000000000000000000000000000000000000000000000000000 < dn_v / w ∧ dn_v / w < 1000000000000000000000000000000000000000000000000000000000000000000000000000000000000000000000000 := by
    intro h
    have a : -999999999999999999999999999999999999999999999999999999999999999999999999999999999999999999999999 ≤ dn_v / w := by apply Int.le_ediv_of_mul_le (by omega); omega
    exact ⟨by omega, by apply Int.ediv_lt_of_lt_mul (by omega); omega⟩
  clear e1
  generalize dn_v / w = Q at *
  generalize dn_v % w = R at *
  repeat' (first | assumption | (intro (h : _ ∧ _); obtain ⟨h1, h2⟩ := h; (first | (subst h1; revert h2) | revert h1 h2)) | (intro h; (first | subst h | skip)) | refine And.intro ?_ ?_)
  all_goals try (show False; refine absurd ?_ ‹¬ _›)
  all_goals repeat' (first | assumption | refine And.intro ?_ ?_)
  all_goals first | omega | grind
end Go.Proofs.YtjemohphaeiaiaaGreatDoor.Fn
namespace Go.Proofs.YtjemohphaeiaiaaGreatDoor.Fn
open Go Go.RowKit Go.Proofs.YtjemohphaeiaiaaGreatDoor.Sy
set_option linter.unusedVariables false
set_option linter.unusedSimpArgs false
set_option maxRecDepth 100000
def t46 : Tr :=
  .br (.f (.is (.lt (.wrap .i64 (.bin .add (.wrap .i64 (.bin .add (.len 0 1) (.len 0 3))) (.n 1))) (.n 0)) false) <|
   .br (.f (.is (.le (.wrap .i64 (.bin .add (.wrap .i64 (.bin .add (.len 0 1) (.len 0 3))) (.n 1))) (.n 1000000000)) true) <|
    .f (.lseq 65547 (.rep (.wrap .i64 (.bin .add (.wrap .i64 (.bin .add (.len 0 1) (.len 0 3))) (.n 1))) [0])) <|
     .f (.is (.eq (.v 65549 0) (.wrap .i64 (.bin .add (.wrap .i64 (.bin .add (.len 0 1) (.len 0 3))) (.n 1)))) true) <|
      .br (.f (.rel 104603 [.lst 0 1, .lst 0 3, .lst 65547 0, .num (.n 0)] 65554 [.list [.int .i64], .int .i64]) <|
       .br (.f (.is (.lt (.v 65554 1) (.len 0 1)) false) <|
        .br (.f (.rel 66 [.tru (.not (.beq (.v 0 0) (.v 0 2))), .lst 65554 0] 65563 [.bool, .list [.int .i64]]) <|
         .ok [.tru (.v 65563 0), .lst 65563 1])
        (.f (.npre 66 [.tru (.not (.beq (.v 0 0) (.v 0 2))), .lst 65554 0]) <|
         .bad))
       (.f (.is (.lt (.v 65554 1) (.len 0 1)) true) <|
        .br (.f (.is (.lt (.v 65554 1) (.n 0)) true) <|
         .bad)
        (.f (.is (.lt (.v 65554 1) (.n 0)) false) <|
         .br (.f (.nrel 104607 [.lst 0 3, .num (.v 65554 1), .num (.at 0 1 (.v 65554 1) 0), .lst 65554 0, .num (.n 0), .num (.n 0)] [.lst 65554 0, .num (.n 0), .num (.n 0)]) <|
          .bad)
         (.f (.rel 104607 [.lst 0 3, .num (.v 65554 1), .num (.at 0 1 (.v 65554 1) 0), .lst 65554 0, .num (.n 0), .num (.n 0)] 65563 [.list [.int .i64], .int .i64, .int .i64]) <|
          .br (.f (.is (.lt (.v 65563 2) (.len 0 3)) true) <|
           .br (.f (.is (.lt (.wrap .i64 (.bin .add (.v 65554 1) (.v 65563 2))) (.n 0)) true) <|
            .bad)
           (.f (.is (.lt (.wrap .i64 (.bin .add (.v 65554 1) (.v 65563 2))) (.n 0)) false) <|
            .br (.f (.is (.lt (.wrap .i64 (.bin .add (.v 65554 1) (.v 65563 2))) (.len 65563 0)) false) <|
             .bad)
            (.f (.is (.lt (.wrap .i64 (.bin .add (.v 65554 1) (.v 65563 2))) (.len 65563 0)) true) <|
             .br (.f (.npre 70 [.tru (.v 0 2), .lst 0 3, .num (.v 65563 2)]) <|
              .bad)
             (.f (.rel 70 [.tru (.v 0 2), .lst 0 3, .num (.v 65563 2)] 65582 [.int .i64]) <|
              .f (.is (.eq (.v 65588 0) (.wrap .i64 (.bin .add (.at 65563 0 (.wrap .i64 (.bin .add (.v 65554 1) (.v 65563 2))) 0) (.wrap .i64 (.bin .mul (.at 0 1 (.v 65554 1) 0) (.v 65582 0)))))) true) <|
               .f (.lseq 65596 (.set (.lst 65563 0) (.wrap .i64 (.bin .add (.v 65554 1) (.v 65563 2))) 0 [.bin .rem (.wrap .i64 (.bin .add (.v 65588 0) (.v 65563 1))) (.n 10000)])) <|
                .f (.is (.eq (.v 65600 0) (.wrap .i64 (.bin .quo (.wrap .i64 (.bin .add (.v 65588 0) (.v 65563 1))) (.n 10000)))) true) <|
                 .br (.f (.nrel 104607 [.lst 0 3, .num (.v 65554 1), .num (.at 0 1 (.v 65554 1) 0), .lst 65554 0, .num (.n 0), .num (.n 0)] [.lst 65596 0, .num (.v 65600 0), .num (.wrap .i64 (.bin .add (.v 65563 2) (.n 1)))]) <|
                  .bad)
                 (.f (.ndec 104607 [.lst 0 3, .num (.v 65554 1), .num (.at 0 1 (.v 65554 1) 0), .lst 65554 0, .num (.n 0), .num (.n 0)] [.lst 65563 0, .num (.v 65563 1), .num (.v 65563 2)] [.lst 65596 0, .num (.v 65600 0), .num (.wrap .i64 (.bin .add (.v 65563 2) (.n 1)))]) <|
                  .bad)))))
          (.f (.is (.lt (.v 65563 2) (.len 0 3)) false) <|
           .br (.f (.is (.lt (.n 0) (.v 65563 1)) true) <|
            .br (.f (.is (.lt (.wrap .i64 (.bin .add (.v 65554 1) (.v 65563 2))) (.n 0)) true) <|
             .bad)
            (.f (.is (.lt (.wrap .i64 (.bin .add (.v 65554 1) (.v 65563 2))) (.n 0)) false) <|
             .br (.f (.is (.lt (.wrap .i64 (.bin .add (.v 65554 1) (.v 65563 2))) (.len 65563 0)) false) <|
              .bad)
             (.f (.is (.lt (.wrap .i64 (.bin .add (.v 65554 1) (.v 65563 2))) (.len 65563 0)) true) <|
              .br (.f (.npre 70 [.tru (.v 0 2), .lst 0 3, .num (.v 65563 2)]) <|
               .bad)
              (.f (.rel 70 [.tru (.v 0 2), .lst 0 3, .num (.v 65563 2)] 65582 [.int .i64]) <|
               .f (.is (.eq (.v 65588 0) (.wrap .i64 (.bin .add (.at 65563 0 (.wrap .i64 (.bin .add (.v 65554 1) (.v 65563 2))) 0) (.wrap .i64 (.bin .mul (.at 0 1 (.v 65554 1) 0) (.v 65582 0)))))) true) <|
                .f (.lseq 65596 (.set (.lst 65563 0) (.wrap .i64 (.bin .add (.v 65554 1) (.v 65563 2))) 0 [.bin .rem (.wrap .i64 (.bin .add (.v 65588 0) (.v 65563 1))) (.n 10000)])) <|
                 .f (.is (.eq (.v 65600 0) (.wrap .i64 (.bin .quo (.wrap .i64 (.bin .add (.v 65588 0) (.v 65563 1))) (.n 10000)))) true) <|
                  .br (.f (.nrel 104607 [.lst 0 3, .num (.v 65554 1), .num (.at 0 1 (.v 65554 1) 0), .lst 65554 0, .num (.n 0), .num (.n 0)] [.lst 65596 0, .num (.v 65600 0), .num (.wrap .i64 (.bin .add (.v 65563 2) (.n 1)))]) <|
                   .bad)
                  (.f (.ndec 104607 [.lst 0 3, .num (.v 65554 1), .num (.at 0 1 (.v 65554 1) 0), .lst 65554 0, .num (.n 0), .num (.n 0)] [.lst 65563 0, .num (.v 65563 1), .num (.v 65563 2)] [.lst 65596 0, .num (.v 65600 0), .num (.wrap .i64 (.bin .add (.v 65563 2) (.n 1)))]) <|
                   .bad)))))
           (.f (.is (.lt (.n 0) (.v 65563 1)) false) <|
            .br (.f (.nrel 104603 [.lst 0 1, .lst 0 3, .lst 65547 0, .num (.n 0)] [.lst 65563 0, .num (.wrap .i64 (.bin .add (.v 65554 1) (.n 1)))]) <|
             .bad)
            (.f (.ndec 104603 [.lst 0 1, .lst 0 3, .lst 65547 0, .num (.n 0)] [.lst 65554 0, .num (.v 65554 1)] [.lst 65563 0, .num (.wrap .i64 (.bin .add (.v 65554 1) (.n 1)))]) <|
             .bad)))))))
      (.f (.nrel 104603 [.lst 0 1, .lst 0 3, .lst 65547 0, .num (.n 0)] [.lst 65547 0, .num (.n 0)]) <|
       .bad))
   (.f (.is (.le (.wrap .i64 (.bin .add (.wrap .i64 (.bin .add (.len 0 1) (.len 0 3))) (.n 1))) (.n 1000000000)) false) <|
    .bad))
  (.f (.is (.lt (.wrap .i64 (.bin .add (.wrap .i64 (.bin .add (.len 0 1) (.len 0 3))) (.n 1))) (.n 0)) true) <|
   .bad)
theorem c46 : ConS Tryz.prog T C46 := con_tr (cs := [C66, C70]) (lcs := [L104603, L104607]) (known := []) (cons_cons c66 (cons_cons c70 (cons_nil _ _))) (Known.nil _) (N := 400) (d := 40) (t := t46) (by kernel_rfl) <| by
  intro E hl hp
  have hl1 := hl 1 _ rfl
  have hl3 := hl 3 _ rfl
  clear hl
  have hp := hp rfl
  simp only [C46, show T.pre 46 = Q46 from rfl, flatS, SP.flat, dvs, List.append_nil, List.cons_append, List.nil_append, Q46, U64, U32, I64, Big, W, wv, s64, WT, PR, MR, MB] at hp
  simp only [t46, C46, Tr.good, Fact.den, LX.den, DX.ls, DV.ls, DX.den, Bx.den, Ex.den, eo_add, eo_sub, eo_mul, eo_quo, eo_rem, eo_fdv, eo_mn, eo_mx, eo_land, eo_lor, eo_lxor, eo_landn, eo_shl, eo_shr, dvs, flatS, SP.flat, ST.flat, List.map_cons, List.map_nil, List.append_nil, List.cons_append, List.nil_append, ltb_t, ltb_f, leb_t, leb_f, eqb_t, eqb_f, decide_eq_true_eq, decide_eq_false_iff_not, Bool.not_eq_true', Bool.not_eq_false', Bool.and_eq_true, Bool.and_eq_false_imp, beq_iff_eq, beq_eq_false_iff_ne, bne_iff_ne, U64, U32, I64, Big, W, wv, Told, s64, WT, PR, MR, MB, Int.zero_mul, Int.zero_add, Int.add_zero, Int.mul_zero, IntKind.wrap_u64, IntKind.wrap_i64, IntKind.wrap_u32, ne_eq, forall_const, true_implies, show T.rel 46 = R46 from rfl, R46, show T.rel 66 = R66 from rfl, R66, show T.rel 70 = R70 from rfl, R70, show T.rel 104603 = R104603 from rfl, R104603, show T.rel 104607 = R104607 from rfl, R104607, show T.mu 104603 = M104603 from rfl, M104603, show T.mu 104607 = M104607 from rfl, M104607, show T.pre 46 = Q46 from rfl, Q46, show T.pre 66 = Q66 from rfl, Q66, show T.pre 70 = Q70 from rfl, Q70]
  revert hp hl1 hl3
  generalize (E.r 0).c 0 = an
  generalize (E.r 0).l 1 = al
  generalize (E.r 0).c 2 = bn
  generalize (E.r 0).l 3 = bl
  generalize (E.r 65547).l 0 = x11_0
  generalize (E.r 65549).i 0 = x13_0
  generalize (E.r 65554).l 0 = x18_0
  generalize (E.r 65554).i 1 = x18_1
  generalize (E.r 65563).l 0 = x27_0
  generalize (E.r 65563).c 0 = x27_0c
  generalize (E.r 65563).i 1 = x27_1
  generalize (E.r 65563).l 1 = x27_1l
  generalize (E.r 65563).i 2 = x27_2
  generalize (E.r 65582).i 0 = x46_0
  generalize (E.r 65588).i 0 = x52_0
  generalize (E.r 65596).l 0 = x60_0
  generalize (E.r 65600).i 0 = x64_0
  try simp only [mxI, mnI]
  try simp only [ltb, leb, eqb, Int.lt_irrefl, decide_false, Int.le_refl, decide_true]
  intro hal hbl hp
  have la := Bg.len hp.1
  have lb := Bg.len hp.2
  have e1 : (((al.length : Int) + bl.length + 9223372036854775808) % 18446744073709551616 - 9223372036854775808 + 1 + 9223372036854775808) % 18446744073709551616 - 9223372036854775808 = ((al.length + bl.length + 1 : Nat) : Int) := by omega
  simp only [e1, Int.toNat_natCast, implies_true, true_and, and_true, Int.toNat_zero, List.drop_zero]
  have da := hp.1.1.1
  have db := hp.2.1.1
  have ent : ∀ y : List (List Int), y = List.replicate (al.length + bl.length + 1) [0] → y.length = al.length + bl.length + 1 ∧ dig y ∧ (∀ k : Nat, Sy.rowAt y k 0 = 0) ∧ dval y = 0 := by
    intro y hy
    subst hy
    exact ⟨List.length_replicate, dig_rep _, rowAt_rep _, dval_rep _⟩
  refine ⟨fun _ => ⟨fun _ y0 _ => ⟨fun ⟨i0, i1, i2, i3, i4, i5⟩ => ⟨fun c1 => ⟨fun e => ⟨e.1, ?_⟩, fun n => n ⟨i3, by omega⟩⟩, fun c1 => ⟨by omega, fun _ => ⟨fun n => n ⟨by omega, i3, by omega⟩, fun ⟨j0, j1, j2, j3, j4, j5, j6, j7⟩ => ?_⟩⟩⟩, ?_⟩, by omega⟩, by omega⟩
  · rw [e.2]
    rw [List.drop_of_length_le (by omega)] at i5
    simp only [dval, Int.zero_mul, Int.mul_zero, Int.add_zero] at i5
    have v1 := bval_abs (n := an) da
    have v2 := bval_abs (n := bn) db
    have v3 := bval_abs (n := (!an == bn)) i3
    cases an <;> cases bn <;> simp only [bval, cond_true, cond_false, Bool.not_true, Bool.not_false, BEq.rfl, beq_iff_eq, reduceCtorEq, i5, Bool.true_beq, Bool.false_beq, Int.neg_mul, Int.mul_neg, Int.neg_neg]
  · obtain ⟨m, rfl⟩ := Int.eq_ofNat_of_zero_le i0
    obtain ⟨n, rfl⟩ := Int.eq_ofNat_of_zero_le j0
    have ew : ((m : Int) + n + 9223372036854775808) % 18446744073709551616 - 9223372036854775808 = ((m + n : Nat) : Int) := by omega
    have ew2 : ((n : Int) + 1 + 9223372036854775808) % 18446744073709551616 - 9223372036854775808 = ((n + 1 : Nat) : Int) := by omega
    have ew3 : ((m : Int) + n).toNat = m + n := by omega
    have ew4 : ((m : Int) + ((n + 1 : Nat) : Int)).toNat = m + n + 1 := by omega
    have ew5 : ((m : Int) + 1 + 9223372036854775808) % 18446744073709551616 - 9223372036854775808 = ((m + 1 : Nat) : Int) := by omega
    simp only [ew, ew2, ew3, ew4, ew5, Int.toNat_natCast] at *
    have dm := da m
    have step : ∀ s t u : Int, s = (Sy.rowAt x27_0 ((m + n : Nat) : Int) 0 + ((Sy.rowAt al m 0 * u + 9223372036854775808) % 18446744073709551616 - 9223372036854775808) + 9223372036854775808) % 18446744073709551616 - 9223372036854775808 → u = Sy.rowAt bl n 0 → (n < bl.length ∨ n = bl.length ∧ 0 < x27_1) →
        ∀ y : List (List Int), y = Sy.rowSet x27_0 ((m + n : Nat) : Int) 0 [((s + x27_1 + 9223372036854775808) % 18446744073709551616 - 9223372036854775808).tmod 10000] → t = (((s + x27_1 + 9223372036854775808) % 18446744073709551616 - 9223372036854775808).tdiv 10000 + 9223372036854775808) % 18446744073709551616 - 9223372036854775808 →
        (0 ≤ ((n + 1 : Nat) : Int) ∧ 0 ≤ t ∧ t < 10000 ∧ y.length = x18_0.length ∧ dig y ∧ (((n + 1 : Nat) : Int) ≤ bl.length ∨ ((n + 1 : Nat) : Int) ≤ bl.length + 1 ∧ t = 0) ∧ (∀ j : Nat, (m : Int) + ((n + 1 : Nat) : Int) ≤ j → Sy.rowAt y j 0 = Sy.rowAt x18_0 j 0) ∧
          dval y + P4 (m + n + 1) * (t + Sy.rowAt al m 0 * dval (bl.drop (n + 1))) = dval x18_0 + P4 m * (Sy.rowAt al m 0 * dval bl)) := by
      intro s t u hs hu hn y hy ht
      obtain ⟨q1, q2, q3, q4, q5⟩ := mul_step (m := m) (n := n) (c := x27_1) (x := Sy.rowAt al m 0) j4 db j1 j2 dm.1 dm.2 (by omega) (fun j hj => j6 j (by omega)) j7 _ rfl
      have dn := db n
      have pm := mul_below dm.1 (show Sy.rowAt al m 0 ≤ 9999 by omega) dn.1 (show Sy.rowAt bl n 0 ≤ 9999 by omega)
      have d1 := j4 (m + n)
      subst hu
      have es : (s + x27_1 + 9223372036854775808) % 18446744073709551616 - 9223372036854775808 = Sy.rowAt x27_0 ((m + n : Nat) : Int) 0 + Sy.rowAt al m 0 * Sy.rowAt bl n 0 + x27_1 := by
        generalize Sy.rowAt al m 0 * Sy.rowAt bl n 0 = z at *
        omega
      rw [es] at hy ht
      have z0 : n = bl.length → Sy.rowAt x27_0 ((m + n : Nat) : Int) 0 + Sy.rowAt al m 0 * Sy.rowAt bl n 0 + x27_1 = x27_1 := by
        intro e
        rw [rowAt_out (L := bl) (by omega), Int.mul_zero, j6 (m + n) (by omega), i4 (m + n) (by omega)]
        omega
      generalize Sy.rowAt x27_0 ((m + n : Nat) : Int) 0 + Sy.rowAt al m 0 * Sy.rowAt bl n 0 + x27_1 = S at *
      rw [Int.tmod_eq_emod_of_nonneg q1] at hy
      rw [Int.tdiv_eq_ediv_of_nonneg q1] at ht
      have et : t = S / 10000 := by omega
      subst et hy
      refine ⟨by omega, by omega, by omega, by rw [rowSet_len]; exact j3, q3, ?_, fun j hj => q4 j (by omega), q5⟩
      rcases hn with h | ⟨h, _⟩
      · left; omega
      · have := z0 h
        right; omega
    have next : bl.length ≤ n → x27_1 ≤ 0 → (0 ≤ ((m + 1 : Nat) : Int) ∧ ((m + 1 : Nat) : Int) ≤ al.length ∧ x27_0.length = al.length + bl.length + 1 ∧ dig x27_0 ∧ (∀ k : Nat, ((m + 1 : Nat) : Int) + bl.length ≤ k → Sy.rowAt x27_0 k 0 = 0) ∧ dval x27_0 + P4 (m + 1) * (dval (al.drop (m + 1)) * dval bl) = dval al * dval bl) := by
      intro h1 h2
      refine ⟨by omega, by omega, by omega, j4, fun k hk => ?_, ?_⟩
      · rw [j6 k (by omega), i4 k (by omega)]
      · rw [List.drop_of_length_le h1] at j7
        have c0 : x27_1 = 0 := by omega
        simp only [dval, c0, Int.mul_zero, Int.add_zero] at j7
        rw [j7, ← i5, dval_drop al m]
        simp only [P4]
        grind
    exact ⟨fun c => ⟨by omega, fun _ => ⟨by omega, fun _ => ⟨by omega, fun u1 u2 u3 u4 => ⟨fun n => n (step _ _ _ u2 u1 (Or.inl (by omega)) _ u3 u4), by omega⟩⟩⟩⟩, fun c => ⟨fun c2 => ⟨by omega, fun _ => ⟨by omega, fun _ => ⟨by omega, fun u1 u2 u3 u4 => ⟨fun n => n (step _ _ _ u2 u1 (Or.inr ⟨by omega, c2⟩) _ u3 u4), by omega⟩⟩⟩⟩, fun c2 => ⟨fun n => n (next (by omega) c2), by omega⟩⟩⟩
  · intro n
    obtain ⟨f1, f2, f3, f4⟩ := ent _ y0
    exact n ⟨by omega, f1, f2, fun k _ => f3 k, by rw [f4]; simp [P4]⟩
end Go.Proofs.YtjemohphaeiaiaaGreatDoor.Fn
namespace Go.Proofs.YtjemohphaeiaiaaGreatDoor.Fn
open Go Go.RowKit Go.Proofs.YtjemohphaeiaiaaGreatDoor.Sy
set_option linter.unusedVariables false
set_option linter.unusedSimpArgs false
set_option maxRecDepth 100000
def t30 : Tr :=
  .br (.f (.rel 45 [.num (.wrap .u64 (.v 0 1))] 65544 [.bool, .list [.int .i64]]) <|
   .br (.f (.rel 45 [.num (.v 0 3)] 65546 [.bool, .list [.int .i64]]) <|
    .br (.f (.rel 45 [.num (.n 1048576)] 65547 [.bool, .list [.int .i64]]) <|
     .br (.f (.rel 46 [.tru (.v 65546 0), .lst 65546 1, .tru (.v 65547 0), .lst 65547 1] 65548 [.bool, .list [.int .i64]]) <|
      .br (.f (.rel 44 [.tru (.v 65544 0), .lst 65544 1, .tru (.v 65548 0), .lst 65548 1] 65549 [.bool, .list [.int .i64]]) <|
       .br (.f (.rel 43 [.num (.v 0 0), .tru (.v 65549 0), .lst 65549 1, .num (.v 0 2)] 65552 [.int .u64, .int .u32, .int .u32, .bool]) <|
        .ok [.num (.v 65552 0), .num (.v 65552 1), .num (.v 65552 2), .tru (.v 65552 3)])
       (.f (.npre 43 [.num (.v 0 0), .tru (.v 65549 0), .lst 65549 1, .num (.v 0 2)]) <|
        .bad))
      (.f (.npre 44 [.tru (.v 65544 0), .lst 65544 1, .tru (.v 65548 0), .lst 65548 1]) <|
       .bad))
     (.f (.npre 46 [.tru (.v 65546 0), .lst 65546 1, .tru (.v 65547 0), .lst 65547 1]) <|
      .bad))
    (.f (.npre 45 [.num (.n 1048576)]) <|
     .bad))
   (.f (.npre 45 [.num (.v 0 3)]) <|
    .bad))
  (.f (.npre 45 [.num (.wrap .u64 (.v 0 1))]) <|
   .bad)
theorem c30 : ConS Tryz.prog T C30 := con_tr (cs := [C43, C44, C45, C46]) (lcs := []) (known := []) (cons_cons c43 (cons_cons c44 (cons_cons c45 (cons_cons c46 (cons_nil _ _))))) (Known.nil _) (N := 400) (d := 40) (t := t30) (by kernel_rfl) <| by
  intro E hl hp
  clear hl
  have hp := hp rfl
  simp only [C30, show T.pre 30 = Q30 from rfl, flatS, SP.flat, dvs, List.append_nil, List.cons_append, List.nil_append, Q30, U64, U32, I64, Big, W, wv, s64, WT, PR, MR, MB] at hp
  simp only [t30, C30, Tr.good, Fact.den, LX.den, DX.ls, DV.ls, DX.den, Bx.den, Ex.den, eo_add, eo_sub, eo_mul, eo_quo, eo_rem, eo_fdv, eo_mn, eo_mx, eo_land, eo_lor, eo_lxor, eo_landn, eo_shl, eo_shr, dvs, flatS, SP.flat, ST.flat, List.map_cons, List.map_nil, List.append_nil, List.cons_append, List.nil_append, ltb_t, ltb_f, leb_t, leb_f, eqb_t, eqb_f, decide_eq_true_eq, decide_eq_false_iff_not, Bool.not_eq_true', Bool.not_eq_false', Bool.and_eq_true, Bool.and_eq_false_imp, beq_iff_eq, beq_eq_false_iff_ne, bne_iff_ne, U64, U32, I64, Big, W, wv, Told, s64, WT, PR, MR, MB, Int.zero_mul, Int.zero_add, Int.add_zero, Int.mul_zero, IntKind.wrap_u64, IntKind.wrap_i64, IntKind.wrap_u32, ne_eq, forall_const, true_implies, show T.rel 30 = R30 from rfl, R30, show T.rel 43 = R43 from rfl, R43, show T.rel 44 = R44 from rfl, R44, show T.rel 45 = R45 from rfl, R45, show T.rel 46 = R46 from rfl, R46, show T.pre 30 = Q30 from rfl, Q30, show T.pre 43 = Q43 from rfl, Q43, show T.pre 44 = Q44 from rfl, Q44, show T.pre 45 = Q45 from rfl, Q45, show T.pre 46 = Q46 from rfl, Q46]
  revert hp
  generalize (E.r 0).i 0 = t
  generalize (E.r 0).i 1 = r
  generalize (E.r 0).i 2 = w
  generalize (E.r 0).i 3 = ns
  generalize (E.r 65544).c 0 = x8_0
  generalize (E.r 65544).l 1 = x8_1
  generalize (E.r 65546).c 0 = x10_0
  generalize (E.r 65546).l 1 = x10_1
  generalize (E.r 65547).c 0 = x11_0
  generalize (E.r 65547).l 1 = x11_1
  generalize (E.r 65548).c 0 = x12_0
  generalize (E.r 65548).l 1 = x12_1
  generalize (E.r 65549).c 0 = x13_0
  generalize (E.r 65549).l 1 = x13_1
  generalize (E.r 65552).i 0 = x16_0
  generalize (E.r 65552).i 1 = x16_1
  generalize (E.r 65552).i 2 = x16_2
  generalize (E.r 65552).c 3 = x16_3
  try simp only [Bg]
  try generalize bval x8_0 x8_1 = y8_0
  try generalize bval x10_0 x10_1 = y10_0
  try generalize bval x11_0 x11_1 = y11_0
  try generalize bval x12_0 x12_1 = y12_0
  try generalize bval x13_0 x13_1 = y13_0
  try simp only [mxI, mnI]
  try simp only [ltb, leb, eqb, Int.lt_irrefl, decide_false, Int.le_refl, decide_true]
  intro hp
  have e1 : r % 18446744073709551616 = r := by omega
  simp only [e1, mvt, mvr]
  repeat' (first | assumption | (intro (h : _ ∧ _); obtain ⟨h1, h2⟩ := h; (first | (subst h1; revert h2) | revert h1 h2)) | (intro h; (first | subst h | skip)) | refine And.intro ?_ ?_)
  all_goals try (show False; refine absurd ?_ ‹¬ _›)
  all_goals repeat' (first | assumption | refine And.intro ?_ ?_)
  all_goals try simp only [show ∀ a b : Int, a + b * 1048576 = b * 1048576 + a from fun a b => by omega] at *
  all_goals first | omega | grind
end Go.Proofs.YtjemohphaeiaiaaGreatDoor.Fn
namespace Go.Proofs.YtjemohphaeiaiaaGreatDoor.Fn
open Go Go.RowKit Go.Proofs.YtjemohphaeiaiaaGreatDoor.Sy
set_option linter.unusedVariables false
set_option linter.unusedSimpArgs false
set_option maxRecDepth 100000
def t52 : Tr :=
  .br (.f (.rel 45 [.num (.v 0 0)] 65538 [.bool, .list [.int .i64]]) <|
   .br (.f (.rel 45 [.num (.v 0 1)] 65540 [.bool, .list [.int .i64]]) <|
    .br (.f (.rel 75 [.tru (.v 65538 0), .lst 65538 1, .tru (.v 65540 0), .lst 65540 1] 65541 [.bool, .list [.int .i64]]) <|
     .br (.f (.rel 56 [.num (.n 63)] 65545 [.bool, .list [.int .i64]]) <|
      .br (.f (.rel 55 [.tru (.v 65541 0), .lst 65541 1, .tru (.v 65545 0), .lst 65545 1] 65546 [.int .i64]) <|
       .br (.f (.is (.le (.n 0) (.v 65546 0)) true) <|
        .br (.f (.rel 56 [.num (.n 64)] 65549 [.bool, .list [.int .i64]]) <|
         .br (.f (.rel 75 [.tru (.v 65541 0), .lst 65541 1, .tru (.v 65549 0), .lst 65549 1] 65550 [.bool, .list [.int .i64]]) <|
          .ok [.tru (.v 65550 0), .lst 65550 1])
         (.f (.npre 75 [.tru (.v 65541 0), .lst 65541 1, .tru (.v 65549 0), .lst 65549 1]) <|
          .bad))
        (.f (.npre 56 [.num (.n 64)]) <|
         .bad))
       (.f (.is (.le (.n 0) (.v 65546 0)) false) <|
        .br (.f (.rel 56 [.num (.n 63)] 65549 [.bool, .list [.int .i64]]) <|
         .br (.f (.rel 76 [.tru (.v 65549 0), .lst 65549 1] 65550 [.bool, .list [.int .i64]]) <|
          .br (.f (.rel 55 [.tru (.v 65541 0), .lst 65541 1, .tru (.v 65550 0), .lst 65550 1] 65551 [.int .i64]) <|
           .br (.f (.is (.lt (.v 65551 0) (.n 0)) true) <|
            .br (.f (.rel 56 [.num (.n 64)] 65554 [.bool, .list [.int .i64]]) <|
             .br (.f (.rel 44 [.tru (.v 65541 0), .lst 65541 1, .tru (.v 65554 0), .lst 65554 1] 65555 [.bool, .list [.int .i64]]) <|
              .ok [.tru (.v 65555 0), .lst 65555 1])
             (.f (.npre 44 [.tru (.v 65541 0), .lst 65541 1, .tru (.v 65554 0), .lst 65554 1]) <|
              .bad))
            (.f (.npre 56 [.num (.n 64)]) <|
             .bad))
           (.f (.is (.lt (.v 65551 0) (.n 0)) false) <|
            .ok [.tru (.v 65541 0), .lst 65541 1]))
          (.f (.npre 55 [.tru (.v 65541 0), .lst 65541 1, .tru (.v 65550 0), .lst 65550 1]) <|
           .bad))
         (.f (.npre 76 [.tru (.v 65549 0), .lst 65549 1]) <|
          .bad))
        (.f (.npre 56 [.num (.n 63)]) <|
         .bad)))
      (.f (.npre 55 [.tru (.v 65541 0), .lst 65541 1, .tru (.v 65545 0), .lst 65545 1]) <|
       .bad))
     (.f (.npre 56 [.num (.n 63)]) <|
      .bad))
    (.f (.npre 75 [.tru (.v 65538 0), .lst 65538 1, .tru (.v 65540 0), .lst 65540 1]) <|
     .bad))
   (.f (.npre 45 [.num (.v 0 1)]) <|
    .bad))
  (.f (.npre 45 [.num (.v 0 0)]) <|
   .bad)
theorem c52 : ConS Tryz.prog T C52 := con_tr (cs := [C44, C45, C55, C56, C75, C76]) (lcs := []) (known := []) (cons_cons c44 (cons_cons c45 (cons_cons c55 (cons_cons c56 (cons_cons c75 (cons_cons c76 (cons_nil _ _))))))) (Known.nil _) (N := 400) (d := 40) (t := t52) (by kernel_rfl) <| by
  intro E hl hp
  clear hl
  have hp := hp rfl
  simp only [C52, show T.pre 52 = Q52 from rfl, flatS, SP.flat, dvs, List.append_nil, List.cons_append, List.nil_append, Q52, U64, U32, I64, Big, W, wv, s64, WT, PR, MR, MB] at hp
  simp only [t52, C52, Tr.good, Fact.den, LX.den, DX.ls, DV.ls, DX.den, Bx.den, Ex.den, eo_add, eo_sub, eo_mul, eo_quo, eo_rem, eo_fdv, eo_mn, eo_mx, eo_land, eo_lor, eo_lxor, eo_landn, eo_shl, eo_shr, dvs, flatS, SP.flat, ST.flat, List.map_cons, List.map_nil, List.append_nil, List.cons_append, List.nil_append, ltb_t, ltb_f, leb_t, leb_f, eqb_t, eqb_f, decide_eq_true_eq, decide_eq_false_iff_not, Bool.not_eq_true', Bool.not_eq_false', Bool.and_eq_true, Bool.and_eq_false_imp, beq_iff_eq, beq_eq_false_iff_ne, bne_iff_ne, U64, U32, I64, Big, W, wv, Told, s64, WT, PR, MR, MB, Int.zero_mul, Int.zero_add, Int.add_zero, Int.mul_zero, IntKind.wrap_u64, IntKind.wrap_i64, IntKind.wrap_u32, ne_eq, forall_const, true_implies, show T.rel 44 = R44 from rfl, R44, show T.rel 45 = R45 from rfl, R45, show T.rel 52 = R52 from rfl, R52, show T.rel 55 = R55 from rfl, R55, show T.rel 56 = R56 from rfl, R56, show T.rel 75 = R75 from rfl, R75, show T.rel 76 = R76 from rfl, R76, show T.pre 44 = Q44 from rfl, Q44, show T.pre 45 = Q45 from rfl, Q45, show T.pre 52 = Q52 from rfl, Q52, show T.pre 55 = Q55 from rfl, Q55, show T.pre 56 = Q56 from rfl, Q56, show T.pre 75 = Q75 from rfl, Q75, show T.pre 76 = Q76 from rfl, Q76]
  revert hp
  generalize (E.r 0).i 0 = t
  generalize (E.r 0).i 1 = u
  generalize (E.r 65538).c 0 = x2_0
  generalize (E.r 65538).l 1 = x2_1
  generalize (E.r 65540).c 0 = x4_0
  generalize (E.r 65540).l 1 = x4_1
  generalize (E.r 65541).c 0 = x5_0
  generalize (E.r 65541).l 1 = x5_1
  generalize (E.r 65545).c 0 = x9_0
  generalize (E.r 65545).l 1 = x9_1
  generalize (E.r 65546).i 0 = x10_0
  generalize (E.r 65549).c 0 = x13_0
  generalize (E.r 65549).l 1 = x13_1
  generalize (E.r 65550).c 0 = x14_0
  generalize (E.r 65550).l 1 = x14_1
  generalize (E.r 65551).i 0 = x15_0
  generalize (E.r 65554).c 0 = x18_0
  generalize (E.r 65554).l 1 = x18_1
  generalize (E.r 65555).c 0 = x19_0
  generalize (E.r 65555).l 1 = x19_1
  try simp only [mxI, mnI]
  try simp only [ltb, leb, eqb, Int.lt_irrefl, decide_false, Int.le_refl, decide_true]
  intro hp
  rw [p2_63, p2_64]
  repeat' (first | assumption | (intro (h : _ ∧ _); obtain ⟨_, _⟩ := h) | intro _ | refine And.intro ?_ ?_)
  all_goals try (show False; refine absurd ?_ ‹¬ _›)
  all_goals repeat' (first | assumption | refine And.intro ?_ ?_)
  all_goals first | omega | (simp_all; done) | (simp_all; omega)
end Go.Proofs.YtjemohphaeiaiaaGreatDoor.Fn
namespace Go.Proofs.YtjemohphaeiaiaaGreatDoor.Fn
open Go Go.RowKit Go.Proofs.YtjemohphaeiaiaaGreatDoor.Sy
set_option linter.unusedVariables false
set_option linter.unusedSimpArgs false
set_option maxRecDepth 100000
def t53 : Tr :=
  .br (.f (.is (.le (.n 1) (.v 0 2)) true) <|
   .br (.f (.is (.le (.v 0 2) (.n 1048576)) true) <|
    .ok [.tru (.lt (.v 0 1) (.v 0 2))])
   (.f (.is (.le (.v 0 2) (.n 1048576)) false) <|
    .ok [.tru (.lt (.n 0) (.n 0))]))
  (.f (.is (.le (.n 1) (.v 0 2)) false) <|
   .ok [.tru (.lt (.n 0) (.n 0))])
theorem c53 : ConS Tryz.prog T C53 := con_tr (cs := []) (lcs := []) (known := []) (cons_nil _ _) (Known.nil _) (N := 400) (d := 40) (t := t53) (by kernel_rfl) <| by
  intro E hl hp
  clear hl
  clear hp
  simp only [t53, C53, Tr.good, Fact.den, LX.den, DX.ls, DV.ls, DX.den, Bx.den, Ex.den, eo_add, eo_sub, eo_mul, eo_quo, eo_rem, eo_fdv, eo_mn, eo_mx, eo_land, eo_lor, eo_lxor, eo_landn, eo_shl, eo_shr, dvs, flatS, SP.flat, ST.flat, List.map_cons, List.map_nil, List.append_nil, List.cons_append, List.nil_append, ltb_t, ltb_f, leb_t, leb_f, eqb_t, eqb_f, decide_eq_true_eq, decide_eq_false_iff_not, Bool.not_eq_true', Bool.not_eq_false', Bool.and_eq_true, Bool.and_eq_false_imp, beq_iff_eq, beq_eq_false_iff_ne, bne_iff_ne, U64, U32, I64, Big, W, wv, Told, s64, WT, PR, MR, MB, Int.zero_mul, Int.zero_add, Int.add_zero, Int.mul_zero, IntKind.wrap_u64, IntKind.wrap_i64, IntKind.wrap_u32, ne_eq, forall_const, true_implies, show T.rel 53 = R53 from rfl, R53]
  generalize (E.r 0).i 0 = t
  generalize (E.r 0).i 1 = r
  generalize (E.r 0).i 2 = w
  try simp only [mxI, mnI]
  try simp only [ltb, leb, eqb, Int.lt_irrefl, decide_false, Int.le_refl, decide_true]
  simp only [Pq, PR]
  repeat' (first | intro _ | refine And.intro ?_ ?_ | refine Iff.intro ?_ ?_)
  all_goals first | omega | (simp_all; done) | (simp_all; omega)
end Go.Proofs.YtjemohphaeiaiaaGreatDoor.Fn
