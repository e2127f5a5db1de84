/- What is told of the functions, shown: turnstone/item.Soonest, turnstone/turnstoneref01.Mul, turnstone/turnstoneref04.Cmp, turnstone/turnstoneref05.Ahead, turnstone/turnstoneref05.Due, turnstone/turnstoneref05.Soonest. -/
import Derived.Test.YtpccjjfcklplaaaFm1
namespace Go.Proofs.Ytpccjjfcklplaaa.Fn
open Go Go.RowKit Go.Proofs.Ytpccjjfcklplaaa.Sy
set_option linter.unusedVariables false
set_option linter.unusedSimpArgs false
set_option maxRecDepth 100000
def t13 : Tr :=
  .br (.f (.rel 101302 [.lst 0 7, .num (.v 0 0), .num (.v 0 1), .num (.v 0 2), .num (.v 0 3), .num (.v 0 4), .num (.v 0 5), .num (.v 0 6), .num (.n 0)] 65541 [.int .u64, .int .u32, .int .u32, .int .i64, .int .u64, .int .u32, .int .u32, .int .i64]) <|
   .br (.f (.is (.lt (.v 65541 7) (.len 0 7)) false) <|
    .ok [.num (.v 65541 0), .num (.v 65541 1), .num (.v 65541 2), .num (.v 65541 3), .num (.v 65541 4), .num (.v 65541 5), .num (.v 65541 6)])
   (.f (.is (.lt (.v 65541 7) (.len 0 7)) true) <|
    .br (.f (.is (.lt (.v 65541 7) (.n 0)) true) <|
     .bad)
    (.f (.is (.lt (.v 65541 7) (.n 0)) false) <|
     .br (.f (.npre 22 [.num (.at 0 7 (.v 65541 7) 0), .num (.at 0 7 (.v 65541 7) 1), .num (.at 0 7 (.v 65541 7) 2), .num (.at 0 7 (.v 65541 7) 3), .num (.at 0 7 (.v 65541 7) 4), .num (.at 0 7 (.v 65541 7) 5), .num (.at 0 7 (.v 65541 7) 6), .num (.v 65541 0), .num (.v 65541 1), .num (.v 65541 2), .num (.v 65541 3), .num (.v 65541 4), .num (.v 65541 5), .num (.v 65541 6)]) <|
      .bad)
     (.f (.rel 22 [.num (.at 0 7 (.v 65541 7) 0), .num (.at 0 7 (.v 65541 7) 1), .num (.at 0 7 (.v 65541 7) 2), .num (.at 0 7 (.v 65541 7) 3), .num (.at 0 7 (.v 65541 7) 4), .num (.at 0 7 (.v 65541 7) 5), .num (.at 0 7 (.v 65541 7) 6), .num (.v 65541 0), .num (.v 65541 1), .num (.v 65541 2), .num (.v 65541 3), .num (.v 65541 4), .num (.v 65541 5), .num (.v 65541 6)] 65549 [.bool]) <|
      .br (.f (.is (.v 65549 0) true) <|
       .br (.f (.nrel 101302 [.lst 0 7, .num (.v 0 0), .num (.v 0 1), .num (.v 0 2), .num (.v 0 3), .num (.v 0 4), .num (.v 0 5), .num (.v 0 6), .num (.n 0)] [.num (.at 0 7 (.v 65541 7) 0), .num (.at 0 7 (.v 65541 7) 1), .num (.at 0 7 (.v 65541 7) 2), .num (.at 0 7 (.v 65541 7) 3), .num (.at 0 7 (.v 65541 7) 4), .num (.at 0 7 (.v 65541 7) 5), .num (.at 0 7 (.v 65541 7) 6), .num (.wrap .i64 (.bin .add (.v 65541 7) (.n 1)))]) <|
        .bad)
       (.f (.ndec 101302 [.lst 0 7, .num (.v 0 0), .num (.v 0 1), .num (.v 0 2), .num (.v 0 3), .num (.v 0 4), .num (.v 0 5), .num (.v 0 6), .num (.n 0)] [.num (.v 65541 0), .num (.v 65541 1), .num (.v 65541 2), .num (.v 65541 3), .num (.v 65541 4), .num (.v 65541 5), .num (.v 65541 6), .num (.v 65541 7)] [.num (.at 0 7 (.v 65541 7) 0), .num (.at 0 7 (.v 65541 7) 1), .num (.at 0 7 (.v 65541 7) 2), .num (.at 0 7 (.v 65541 7) 3), .num (.at 0 7 (.v 65541 7) 4), .num (.at 0 7 (.v 65541 7) 5), .num (.at 0 7 (.v 65541 7) 6), .num (.wrap .i64 (.bin .add (.v 65541 7) (.n 1)))]) <|
        .bad))
      (.f (.is (.v 65549 0) false) <|
       .br (.f (.nrel 101302 [.lst 0 7, .num (.v 0 0), .num (.v 0 1), .num (.v 0 2), .num (.v 0 3), .num (.v 0 4), .num (.v 0 5), .num (.v 0 6), .num (.n 0)] [.num (.v 65541 0), .num (.v 65541 1), .num (.v 65541 2), .num (.v 65541 3), .num (.v 65541 4), .num (.v 65541 5), .num (.v 65541 6), .num (.wrap .i64 (.bin .add (.v 65541 7) (.n 1)))]) <|
        .bad)
       (.f (.ndec 101302 [.lst 0 7, .num (.v 0 0), .num (.v 0 1), .num (.v 0 2), .num (.v 0 3), .num (.v 0 4), .num (.v 0 5), .num (.v 0 6), .num (.n 0)] [.num (.v 65541 0), .num (.v 65541 1), .num (.v 65541 2), .num (.v 65541 3), .num (.v 65541 4), .num (.v 65541 5), .num (.v 65541 6), .num (.v 65541 7)] [.num (.v 65541 0), .num (.v 65541 1), .num (.v 65541 2), .num (.v 65541 3), .num (.v 65541 4), .num (.v 65541 5), .num (.v 65541 6), .num (.wrap .i64 (.bin .add (.v 65541 7) (.n 1)))]) <|
        .bad))))))
  (.f (.nrel 101302 [.lst 0 7, .num (.v 0 0), .num (.v 0 1), .num (.v 0 2), .num (.v 0 3), .num (.v 0 4), .num (.v 0 5), .num (.v 0 6), .num (.n 0)] [.num (.v 0 0), .num (.v 0 1), .num (.v 0 2), .num (.v 0 3), .num (.v 0 4), .num (.v 0 5), .num (.v 0 6), .num (.n 0)]) <|
   .bad)
theorem c13 : ConS Try.prog T C13 := con_tr (cs := [C22]) (lcs := [L101302]) (known := []) (cons_cons c22 (cons_nil _ _)) (Known.nil _) (N := 400) (d := 40) (t := t13) (by kernel_rfl) <| by
  intro E hl hp
  have hl7 := hl 7 _ rfl
  clear hl
  have hp := hp rfl
  simp only [C13, show T.pre 13 = Q13 from rfl, flatS, SP.flat, dvs, List.append_nil, List.cons_append, List.nil_append, Q13, U64, U32, I64, Big, W, wv, s64, WT, PR, MR, MB] at hp
  simp only [t13, C13, Tr.good, Fact.den, LX.den, DX.ls, DV.ls, DX.den, Bx.den, Ex.den, eo_add, eo_sub, eo_mul, eo_quo, eo_rem, eo_fdv, eo_mn, eo_mx, eo_land, eo_lor, eo_lxor, eo_landn, eo_shl, eo_shr, dvs, flatS, SP.flat, ST.flat, List.map_cons, List.map_nil, List.append_nil, List.cons_append, List.nil_append, ltb_t, ltb_f, leb_t, leb_f, eqb_t, eqb_f, decide_eq_true_eq, decide_eq_false_iff_not, Bool.not_eq_true', Bool.not_eq_false', Bool.and_eq_true, Bool.and_eq_false_imp, beq_iff_eq, beq_eq_false_iff_ne, bne_iff_ne, U64, U32, I64, Big, W, wv, Told, s64, WT, PR, MR, MB, Int.zero_mul, Int.zero_add, Int.add_zero, Int.mul_zero, IntKind.wrap_u64, IntKind.wrap_i64, IntKind.wrap_u32, ne_eq, forall_const, true_implies, show T.rel 13 = R13 from rfl, R13, show T.rel 22 = R22 from rfl, R22, show T.rel 101302 = R101302 from rfl, R101302, show T.mu 101302 = M101302 from rfl, M101302, show T.pre 13 = Q13 from rfl, Q13, show T.pre 22 = Q22 from rfl, Q22]
  revert hp hl7
  generalize (E.r 0).i 0 = t
  generalize (E.r 0).i 1 = r
  generalize (E.r 0).i 2 = w
  generalize (E.r 0).i 3 = i
  generalize (E.r 0).i 4 = dt
  generalize (E.r 0).i 5 = dr
  generalize (E.r 0).i 6 = dw
  generalize (E.r 0).l 7 = xs
  generalize (E.r 65541).i 0 = x5_0
  generalize (E.r 65541).i 1 = x5_1
  generalize (E.r 65541).i 2 = x5_2
  generalize (E.r 65541).i 3 = x5_3
  generalize (E.r 65541).i 4 = x5_4
  generalize (E.r 65541).i 5 = x5_5
  generalize (E.r 65541).i 6 = x5_6
  generalize (E.r 65541).i 7 = x5_7
  generalize (E.r 65549).c 0 = x13_0
  try simp only [mxI, mnI]
  try simp only [ltb, leb, eqb, Int.lt_irrefl, decide_false, Int.le_refl, decide_true]
  intro hl hp
  obtain ⟨p1, p2, p3, p4, p5, p6, hk⟩ := hp
  have hmax := hl.2
  simp only [maxLen] at hmax
  refine ⟨fun ⟨i0, i1, i2⟩ => ⟨fun c => ?_, fun c => ⟨fun h => by omega, fun _ => ⟨fun n => n ?_, fun e => ?_⟩⟩⟩, fun n => n ⟨trivial, by omega, rfl⟩⟩
  · rw [i2, show x5_7.toNat = xs.length by omega]
  all_goals
    obtain ⟨k, rfl⟩ := Int.eq_ofNat_of_zero_le i0
    simp only [Int.toNat_natCast] at i2
    have K0 : K7 [t, r, w, i, dt, dr, dw] := ⟨p1, p2, p3, p4, p5, p6⟩
    have K := K7_sn hk K0 k
    rw [← i2] at K
    have Kr := hk k
  · exact ⟨Kr.2.1, Kr.2.2.1, K.2.1, K.2.2.1, Kr.2.2.2.2.1, Kr.2.2.2.2.2, K.2.2.2.2.1, K.2.2.2.2.2⟩
  · have ew : ((k : Int) + 1 + 9223372036854775808) % 18446744073709551616 - 9223372036854775808 = ((k + 1 : Nat) : Int) := by omega
    simp only [ew, Int.toNat_natCast]
    have st : sn (rw7 xs) [t, r, w, i, dt, dr, dw] (k + 1) = if DUR (rw7 xs k) (sn (rw7 xs) [t, r, w, i, dt, dr, dw] k) then rw7 xs k else sn (rw7 xs) [t, r, w, i, dt, dr, dw] k := rfl
    rw [← i2] at st
    refine ⟨fun f => ⟨fun n => n ⟨by omega, by omega, ?_⟩, by omega⟩, fun f => ⟨fun n => n ⟨by omega, by omega, ?_⟩, by omega⟩⟩
    · rw [st, if_pos (show DUR (rw7 xs k) [x5_0, x5_1, x5_2, x5_3, x5_4, x5_5, x5_6] from e.1 f)]
      rfl
    · rw [st, if_neg (show ¬ DUR (rw7 xs k) [x5_0, x5_1, x5_2, x5_3, x5_4, x5_5, x5_6] from fun h => by have := e.2 h; rw [f] at this; cases this)]
end Go.Proofs.Ytpccjjfcklplaaa.Fn
namespace Go.Proofs.Ytpccjjfcklplaaa.Fn
open Go Go.RowKit Go.Proofs.Ytpccjjfcklplaaa.Sy
set_option linter.unusedVariables false
set_option linter.unusedSimpArgs false
set_option maxRecDepth 100000
def t74 : Tr :=
  .br (.f (.is (.lt (.wrap .i64 (.bin .add (.wrap .i64 (.bin .add (.len 0 1) (.len 0 3))) (.n 1))) (.n 0)) false) <|
   .br (.f (.is (.le (.wrap .i64 (.bin .add (.wrap .i64 (.bin .add (.len 0 1) (.len 0 3))) (.n 1))) (.n 1000000000)) true) <|
    .f (.lseq 65547 (.rep (.wrap .i64 (.bin .add (.wrap .i64 (.bin .add (.len 0 1) (.len 0 3))) (.n 1))) [0])) <|
     .f (.is (.eq (.v 65549 0) (.wrap .i64 (.bin .add (.wrap .i64 (.bin .add (.len 0 1) (.len 0 3))) (.n 1)))) true) <|
      .br (.f (.rel 107403 [.lst 0 1, .lst 0 3, .lst 65547 0, .num (.n 0)] 65554 [.list [.int .i64], .int .i64]) <|
       .br (.f (.is (.lt (.v 65554 1) (.len 0 1)) false) <|
        .br (.f (.rel 70 [.tru (.not (.beq (.v 0 0) (.v 0 2))), .lst 65554 0] 65563 [.bool, .list [.int .i64]]) <|
         .ok [.tru (.v 65563 0), .lst 65563 1])
        (.f (.npre 70 [.tru (.not (.beq (.v 0 0) (.v 0 2))), .lst 65554 0]) <|
         .bad))
       (.f (.is (.lt (.v 65554 1) (.len 0 1)) true) <|
        .br (.f (.is (.lt (.v 65554 1) (.n 0)) true) <|
         .bad)
        (.f (.is (.lt (.v 65554 1) (.n 0)) false) <|
         .br (.f (.nrel 107407 [.lst 0 3, .num (.v 65554 1), .num (.at 0 1 (.v 65554 1) 0), .lst 65554 0, .num (.n 0), .num (.n 0)] [.lst 65554 0, .num (.n 0), .num (.n 0)]) <|
          .bad)
         (.f (.rel 107407 [.lst 0 3, .num (.v 65554 1), .num (.at 0 1 (.v 65554 1) 0), .lst 65554 0, .num (.n 0), .num (.n 0)] 65563 [.list [.int .i64], .int .i64, .int .i64]) <|
          .br (.f (.is (.lt (.v 65563 2) (.len 0 3)) true) <|
           .br (.f (.is (.lt (.wrap .i64 (.bin .add (.v 65554 1) (.v 65563 2))) (.n 0)) true) <|
            .bad)
           (.f (.is (.lt (.wrap .i64 (.bin .add (.v 65554 1) (.v 65563 2))) (.n 0)) false) <|
            .br (.f (.is (.lt (.wrap .i64 (.bin .add (.v 65554 1) (.v 65563 2))) (.len 65563 0)) false) <|
             .bad)
            (.f (.is (.lt (.wrap .i64 (.bin .add (.v 65554 1) (.v 65563 2))) (.len 65563 0)) true) <|
             .br (.f (.npre 89 [.tru (.v 0 2), .lst 0 3, .num (.v 65563 2)]) <|
              .bad)
             (.f (.rel 89 [.tru (.v 0 2), .lst 0 3, .num (.v 65563 2)] 65582 [.int .i64]) <|
              .f (.is (.eq (.v 65588 0) (.wrap .i64 (.bin .add (.at 65563 0 (.wrap .i64 (.bin .add (.v 65554 1) (.v 65563 2))) 0) (.wrap .i64 (.bin .mul (.at 0 1 (.v 65554 1) 0) (.v 65582 0)))))) true) <|
               .f (.lseq 65596 (.set (.lst 65563 0) (.wrap .i64 (.bin .add (.v 65554 1) (.v 65563 2))) 0 [.bin .rem (.wrap .i64 (.bin .add (.v 65588 0) (.v 65563 1))) (.n 10000)])) <|
                .f (.is (.eq (.v 65600 0) (.wrap .i64 (.bin .quo (.wrap .i64 (.bin .add (.v 65588 0) (.v 65563 1))) (.n 10000)))) true) <|
                 .br (.f (.nrel 107407 [.lst 0 3, .num (.v 65554 1), .num (.at 0 1 (.v 65554 1) 0), .lst 65554 0, .num (.n 0), .num (.n 0)] [.lst 65596 0, .num (.v 65600 0), .num (.wrap .i64 (.bin .add (.v 65563 2) (.n 1)))]) <|
                  .bad)
                 (.f (.ndec 107407 [.lst 0 3, .num (.v 65554 1), .num (.at 0 1 (.v 65554 1) 0), .lst 65554 0, .num (.n 0), .num (.n 0)] [.lst 65563 0, .num (.v 65563 1), .num (.v 65563 2)] [.lst 65596 0, .num (.v 65600 0), .num (.wrap .i64 (.bin .add (.v 65563 2) (.n 1)))]) <|
                  .bad)))))
          (.f (.is (.lt (.v 65563 2) (.len 0 3)) false) <|
           .br (.f (.is (.lt (.n 0) (.v 65563 1)) true) <|
            .br (.f (.is (.lt (.wrap .i64 (.bin .add (.v 65554 1) (.v 65563 2))) (.n 0)) true) <|
             .bad)
            (.f (.is (.lt (.wrap .i64 (.bin .add (.v 65554 1) (.v 65563 2))) (.n 0)) false) <|
             .br (.f (.is (.lt (.wrap .i64 (.bin .add (.v 65554 1) (.v 65563 2))) (.len 65563 0)) false) <|
              .bad)
             (.f (.is (.lt (.wrap .i64 (.bin .add (.v 65554 1) (.v 65563 2))) (.len 65563 0)) true) <|
              .br (.f (.npre 89 [.tru (.v 0 2), .lst 0 3, .num (.v 65563 2)]) <|
               .bad)
              (.f (.rel 89 [.tru (.v 0 2), .lst 0 3, .num (.v 65563 2)] 65582 [.int .i64]) <|
               .f (.is (.eq (.v 65588 0) (.wrap .i64 (.bin .add (.at 65563 0 (.wrap .i64 (.bin .add (.v 65554 1) (.v 65563 2))) 0) (.wrap .i64 (.bin .mul (.at 0 1 (.v 65554 1) 0) (.v 65582 0)))))) true) <|
                .f (.lseq 65596 (.set (.lst 65563 0) (.wrap .i64 (.bin .add (.v 65554 1) (.v 65563 2))) 0 [.bin .rem (.wrap .i64 (.bin .add (.v 65588 0) (.v 65563 1))) (.n 10000)])) <|
                 .f (.is (.eq (.v 65600 0) (.wrap .i64 (.bin .quo (.wrap .i64 (.bin .add (.v 65588 0) (.v 65563 1))) (.n 10000)))) true) <|
                  .br (.f (.nrel 107407 [.lst 0 3, .num (.v 65554 1), .num (.at 0 1 (.v 65554 1) 0), .lst 65554 0, .num (.n 0), .num (.n 0)] [.lst 65596 0, .num (.v 65600 0), .num (.wrap .i64 (.bin .add (.v 65563 2) (.n 1)))]) <|
                   .bad)
                  (.f (.ndec 107407 [.lst 0 3, .num (.v 65554 1), .num (.at 0 1 (.v 65554 1) 0), .lst 65554 0, .num (.n 0), .num (.n 0)] [.lst 65563 0, .num (.v 65563 1), .num (.v 65563 2)] [.lst 65596 0, .num (.v 65600 0), .num (.wrap .i64 (.bin .add (.v 65563 2) (.n 1)))]) <|
                   .bad)))))
           (.f (.is (.lt (.n 0) (.v 65563 1)) false) <|
            .br (.f (.nrel 107403 [.lst 0 1, .lst 0 3, .lst 65547 0, .num (.n 0)] [.lst 65563 0, .num (.wrap .i64 (.bin .add (.v 65554 1) (.n 1)))]) <|
             .bad)
            (.f (.ndec 107403 [.lst 0 1, .lst 0 3, .lst 65547 0, .num (.n 0)] [.lst 65554 0, .num (.v 65554 1)] [.lst 65563 0, .num (.wrap .i64 (.bin .add (.v 65554 1) (.n 1)))]) <|
             .bad)))))))
      (.f (.nrel 107403 [.lst 0 1, .lst 0 3, .lst 65547 0, .num (.n 0)] [.lst 65547 0, .num (.n 0)]) <|
       .bad))
   (.f (.is (.le (.wrap .i64 (.bin .add (.wrap .i64 (.bin .add (.len 0 1) (.len 0 3))) (.n 1))) (.n 1000000000)) false) <|
    .bad))
  (.f (.is (.lt (.wrap .i64 (.bin .add (.wrap .i64 (.bin .add (.len 0 1) (.len 0 3))) (.n 1))) (.n 0)) true) <|
   .bad)
theorem c74 : ConS Try.prog T C74 := con_tr (cs := [C70, C89]) (lcs := [L107403, L107407]) (known := []) (cons_cons c70 (cons_cons c89 (cons_nil _ _))) (Known.nil _) (N := 400) (d := 40) (t := t74) (by kernel_rfl) <| by
  intro E hl hp
  have hl1 := hl 1 _ rfl
  have hl3 := hl 3 _ rfl
  clear hl
  have hp := hp rfl
  simp only [C74, show T.pre 74 = Q74 from rfl, flatS, SP.flat, dvs, List.append_nil, List.cons_append, List.nil_append, Q74, U64, U32, I64, Big, W, wv, s64, WT, PR, MR, MB] at hp
  simp only [t74, C74, Tr.good, Fact.den, LX.den, DX.ls, DV.ls, DX.den, Bx.den, Ex.den, eo_add, eo_sub, eo_mul, eo_quo, eo_rem, eo_fdv, eo_mn, eo_mx, eo_land, eo_lor, eo_lxor, eo_landn, eo_shl, eo_shr, dvs, flatS, SP.flat, ST.flat, List.map_cons, List.map_nil, List.append_nil, List.cons_append, List.nil_append, ltb_t, ltb_f, leb_t, leb_f, eqb_t, eqb_f, decide_eq_true_eq, decide_eq_false_iff_not, Bool.not_eq_true', Bool.not_eq_false', Bool.and_eq_true, Bool.and_eq_false_imp, beq_iff_eq, beq_eq_false_iff_ne, bne_iff_ne, U64, U32, I64, Big, W, wv, Told, s64, WT, PR, MR, MB, Int.zero_mul, Int.zero_add, Int.add_zero, Int.mul_zero, IntKind.wrap_u64, IntKind.wrap_i64, IntKind.wrap_u32, ne_eq, forall_const, true_implies, show T.rel 70 = R70 from rfl, R70, show T.rel 74 = R74 from rfl, R74, show T.rel 89 = R89 from rfl, R89, show T.rel 107403 = R107403 from rfl, R107403, show T.rel 107407 = R107407 from rfl, R107407, show T.mu 107403 = M107403 from rfl, M107403, show T.mu 107407 = M107407 from rfl, M107407, show T.pre 70 = Q70 from rfl, Q70, show T.pre 74 = Q74 from rfl, Q74, show T.pre 89 = Q89 from rfl, Q89]
  revert hp hl1 hl3
  generalize (E.r 0).c 0 = an
  generalize (E.r 0).l 1 = al
  generalize (E.r 0).c 2 = bn
  generalize (E.r 0).l 3 = bl
  generalize (E.r 65547).l 0 = x11_0
  generalize (E.r 65549).i 0 = x13_0
  generalize (E.r 65554).l 0 = x18_0
  generalize (E.r 65554).i 1 = x18_1
  generalize (E.r 65563).l 0 = x27_0
  generalize (E.r 65563).c 0 = x27_0c
  generalize (E.r 65563).i 1 = x27_1
  generalize (E.r 65563).l 1 = x27_1l
  generalize (E.r 65563).i 2 = x27_2
  generalize (E.r 65582).i 0 = x46_0
  generalize (E.r 65588).i 0 = x52_0
  generalize (E.r 65596).l 0 = x60_0
  generalize (E.r 65600).i 0 = x64_0
  try simp only [mxI, mnI]
  try simp only [ltb, leb, eqb, Int.lt_irrefl, decide_false, Int.le_refl, decide_true]
  intro hal hbl hp
  have la := Bg.len hp.1
  have lb := Bg.len hp.2
  have e1 : (((al.length : Int) + bl.length + 9223372036854775808) % 18446744073709551616 - 9223372036854775808 + 1 + 9223372036854775808) % 18446744073709551616 - 9223372036854775808 = ((al.length + bl.length + 1 : Nat) : Int) := by omega
  simp only [e1, Int.toNat_natCast, implies_true, true_and, and_true, Int.toNat_zero, List.drop_zero]
  have da := hp.1.1.1
  have db := hp.2.1.1
  have ent : ∀ y : List (List Int), y = List.replicate (al.length + bl.length + 1) [0] → y.length = al.length + bl.length + 1 ∧ dig y ∧ (∀ k : Nat, Sy.rowAt y k 0 = 0) ∧ dval y = 0 := by
    intro y hy
    subst hy
    exact ⟨List.length_replicate, dig_rep _, rowAt_rep _, dval_rep _⟩
  refine ⟨fun _ => ⟨fun _ y0 _ => ⟨fun ⟨i0, i1, i2, i3, i4, i5⟩ => ⟨fun c1 => ⟨fun e => ⟨e.1, ?_⟩, fun n => n ⟨i3, by omega⟩⟩, fun c1 => ⟨by omega, fun _ => ⟨fun n => n ⟨by omega, i3, by omega⟩, fun ⟨j0, j1, j2, j3, j4, j5, j6, j7⟩ => ?_⟩⟩⟩, ?_⟩, by omega⟩, by omega⟩
  · rw [e.2]
    rw [List.drop_of_length_le (by omega)] at i5
    simp only [dval, Int.zero_mul, Int.mul_zero, Int.add_zero] at i5
    have v1 := bval_abs (n := an) da
    have v2 := bval_abs (n := bn) db
    have v3 := bval_abs (n := (!an == bn)) i3
    cases an <;> cases bn <;> simp only [bval, cond_true, cond_false, Bool.not_true, Bool.not_false, BEq.rfl, beq_iff_eq, reduceCtorEq, i5, Bool.true_beq, Bool.false_beq, Int.neg_mul, Int.mul_neg, Int.neg_neg]
  · obtain ⟨m, rfl⟩ := Int.eq_ofNat_of_zero_le i0
    obtain ⟨n, rfl⟩ := Int.eq_ofNat_of_zero_le j0
    have ew : ((m : Int) + n + 9223372036854775808) % 18446744073709551616 - 9223372036854775808 = ((m + n : Nat) : Int) := by omega
    have ew2 : ((n : Int) + 1 + 9223372036854775808) % 18446744073709551616 - 9223372036854775808 = ((n + 1 : Nat) : Int) := by omega
    have ew3 : ((m : Int) + n).toNat = m + n := by omega
    have ew4 : ((m : Int) + ((n + 1 : Nat) : Int)).toNat = m + n + 1 := by omega
    have ew5 : ((m : Int) + 1 + 9223372036854775808) % 18446744073709551616 - 9223372036854775808 = ((m + 1 : Nat) : Int) := by omega
    simp only [ew, ew2, ew3, ew4, ew5, Int.toNat_natCast] at *
    have dm := da m
    have step : ∀ s t u : Int, s = (Sy.rowAt x27_0 ((m + n : Nat) : Int) 0 + ((Sy.rowAt al m 0 * u + 9223372036854775808) % 18446744073709551616 - 9223372036854775808) + 9223372036854775808) % 18446744073709551616 - 9223372036854775808 → u = Sy.rowAt bl n 0 → (n < bl.length ∨ n = bl.length ∧ 0 < x27_1) →
        ∀ y : List (List Int), y = Sy.rowSet x27_0 ((m + n : Nat) : Int) 0 [((s + x27_1 + 9223372036854775808) % 18446744073709551616 - 9223372036854775808).tmod 10000] → t = (((s + x27_1 + 9223372036854775808) % 18446744073709551616 - 9223372036854775808).tdiv 10000 + 9223372036854775808) % 18446744073709551616 - 9223372036854775808 →
        (0 ≤ ((n + 1 : Nat) : Int) ∧ 0 ≤ t ∧ t < 10000 ∧ y.length = x18_0.length ∧ dig y ∧ (((n + 1 : Nat) : Int) ≤ bl.length ∨ ((n + 1 : Nat) : Int) ≤ bl.length + 1 ∧ t = 0) ∧ (∀ j : Nat, (m : Int) + ((n + 1 : Nat) : Int) ≤ j → Sy.rowAt y j 0 = Sy.rowAt x18_0 j 0) ∧
          dval y + P4 (m + n + 1) * (t + Sy.rowAt al m 0 * dval (bl.drop (n + 1))) = dval x18_0 + P4 m * (Sy.rowAt al m 0 * dval bl)) := by
      intro s t u hs hu hn y hy ht
      obtain ⟨q1, q2, q3, q4, q5⟩ := mul_step (m := m) (n := n) (c := x27_1) (x := Sy.rowAt al m 0) j4 db j1 j2 dm.1 dm.2 (by omega) (fun j hj => j6 j (by omega)) j7 _ rfl
      have dn := db n
      have pm := mul_below dm.1 (show Sy.rowAt al m 0 ≤ 9999 by omega) dn.1 (show Sy.rowAt bl n 0 ≤ 9999 by omega)
      have d1 := j4 (m + n)
      subst hu
      have es : (s + x27_1 + 9223372036854775808) % 18446744073709551616 - 9223372036854775808 = Sy.rowAt x27_0 ((m + n : Nat) : Int) 0 + Sy.rowAt al m 0 * Sy.rowAt bl n 0 + x27_1 := by
        generalize Sy.rowAt al m 0 * Sy.rowAt bl n 0 = z at *
        omega
      rw [es] at hy ht
      have z0 : n = bl.length → Sy.rowAt x27_0 ((m + n : Nat) : Int) 0 + Sy.rowAt al m 0 * Sy.rowAt bl n 0 + x27_1 = x27_1 := by
        intro e
        rw [rowAt_out (L := bl) (by omega), Int.mul_zero, j6 (m + n) (by omega), i4 (m + n) (by omega)]
        omega
      generalize Sy.rowAt x27_0 ((m + n : Nat) : Int) 0 + Sy.rowAt al m 0 * Sy.rowAt bl n 0 + x27_1 = S at *
      rw [Int.tmod_eq_emod_of_nonneg q1] at hy
      rw [Int.tdiv_eq_ediv_of_nonneg q1] at ht
      have et : t = S / 10000 := by omega
      subst et hy
      refine ⟨by omega, by omega, by omega, by rw [rowSet_len]; exact j3, q3, ?_, fun j hj => q4 j (by omega), q5⟩
      rcases hn with h | ⟨h, _⟩
      · left; omega
      · have := z0 h
        right; omega
    have next : bl.length ≤ n → x27_1 ≤ 0 → (0 ≤ ((m + 1 : Nat) : Int) ∧ ((m + 1 : Nat) : Int) ≤ al.length ∧ x27_0.length = al.length + bl.length + 1 ∧ dig x27_0 ∧ (∀ k : Nat, ((m + 1 : Nat) : Int) + bl.length ≤ k → Sy.rowAt x27_0 k 0 = 0) ∧ dval x27_0 + P4 (m + 1) * (dval (al.drop (m + 1)) * dval bl) = dval al * dval bl) := by
      intro h1 h2
      refine ⟨by omega, by omega, by omega, j4, fun k hk => ?_, ?_⟩
      · rw [j6 k (by omega), i4 k (by omega)]
      · rw [List.drop_of_length_le h1] at j7
        have c0 : x27_1 = 0 := by omega
        simp only [dval, c0, Int.mul_zero, Int.add_zero] at j7
        rw [j7, ← i5, dval_drop al m]
        simp only [P4]
        grind
    exact ⟨fun c => ⟨by omega, fun _ => ⟨by omega, fun _ => ⟨by omega, fun u1 u2 u3 u4 => ⟨fun n => n (step _ _ _ u2 u1 (Or.inl (by omega)) _ u3 u4), by omega⟩⟩⟩⟩, fun c => ⟨fun c2 => ⟨by omega, fun _ => ⟨by omega, fun _ => ⟨by omega, fun u1 u2 u3 u4 => ⟨fun n => n (step _ _ _ u2 u1 (Or.inr ⟨by omega, c2⟩) _ u3 u4), by omega⟩⟩⟩⟩, fun c2 => ⟨fun n => n (next (by omega) c2), by omega⟩⟩⟩
  · intro n
    obtain ⟨f1, f2, f3, f4⟩ := ent _ y0
    exact n ⟨by omega, f1, f2, fun k _ => f3 k, by rw [f4]; simp [P4]⟩
end Go.Proofs.Ytpccjjfcklplaaa.Fn
namespace Go.Proofs.Ytpccjjfcklplaaa.Fn
open Go Go.RowKit Go.Proofs.Ytpccjjfcklplaaa.Sy
set_option linter.unusedVariables false
set_option linter.unusedSimpArgs false
set_option maxRecDepth 100000
def t57 : Tr :=
  .br (.f (.rel 32 [.num (.v 0 3), .num (.v 0 0)] 65543 [.bool, .list [.int .i64]]) <|
   .br (.f (.rel 34 [.tru (.v 65543 0), .lst 65543 1] 65544 [.int .i64]) <|
    .br (.f (.is (.eq (.v 65544 0) (.n 0)) false) <|
     .ok [.num (.wrap .i64 (.bin .sub (.n 0) (.v 65544 0)))])
    (.f (.is (.eq (.v 65544 0) (.n 0)) true) <|
     .br (.f (.rel 11 [.num (.wrap .u64 (.v 0 1))] 65551 [.bool, .list [.int .i64]]) <|
      .br (.f (.rel 11 [.num (.wrap .u64 (.v 0 5))] 65555 [.bool, .list [.int .i64]]) <|
       .br (.f (.rel 74 [.tru (.v 65551 0), .lst 65551 1, .tru (.v 65555 0), .lst 65555 1] 65556 [.bool, .list [.int .i64]]) <|
        .br (.f (.rel 11 [.num (.wrap .u64 (.v 0 4))] 65560 [.bool, .list [.int .i64]]) <|
         .br (.f (.rel 11 [.num (.wrap .u64 (.v 0 2))] 65564 [.bool, .list [.int .i64]]) <|
          .br (.f (.rel 74 [.tru (.v 65560 0), .lst 65560 1, .tru (.v 65564 0), .lst 65564 1] 65565 [.bool, .list [.int .i64]]) <|
           .br (.f (.rel 10 [.tru (.v 65556 0), .lst 65556 1, .tru (.v 65565 0), .lst 65565 1] 65566 [.int .i64]) <|
            .ok [.num (.v 65566 0)])
           (.f (.npre 10 [.tru (.v 65556 0), .lst 65556 1, .tru (.v 65565 0), .lst 65565 1]) <|
            .bad))
          (.f (.npre 74 [.tru (.v 65560 0), .lst 65560 1, .tru (.v 65564 0), .lst 65564 1]) <|
           .bad))
         (.f (.npre 11 [.num (.wrap .u64 (.v 0 2))]) <|
          .bad))
        (.f (.npre 11 [.num (.wrap .u64 (.v 0 4))]) <|
         .bad))
       (.f (.npre 74 [.tru (.v 65551 0), .lst 65551 1, .tru (.v 65555 0), .lst 65555 1]) <|
        .bad))
      (.f (.npre 11 [.num (.wrap .u64 (.v 0 5))]) <|
       .bad))
     (.f (.npre 11 [.num (.wrap .u64 (.v 0 1))]) <|
      .bad)))
   (.f (.npre 34 [.tru (.v 65543 0), .lst 65543 1]) <|
    .bad))
  (.f (.npre 32 [.num (.v 0 3), .num (.v 0 0)]) <|
   .bad)
theorem c57 : ConS Try.prog T C57 := con_tr (cs := [C10, C11, C32, C34, C74]) (lcs := []) (known := []) (cons_cons c10 (cons_cons c11 (cons_cons c32 (cons_cons c34 (cons_cons c74 (cons_nil _ _)))))) (Known.nil _) (N := 400) (d := 40) (t := t57) (by kernel_rfl) <| by
  intro E hl hp
  clear hl
  have hp := hp rfl
  simp only [C57, show T.pre 57 = Q57 from rfl, flatS, SP.flat, dvs, List.append_nil, List.cons_append, List.nil_append, Q57, U64, U32, I64, Big, W, wv, s64, WT, PR, MR, MB] at hp
  simp only [t57, C57, Tr.good, Fact.den, LX.den, DX.ls, DV.ls, DX.den, Bx.den, Ex.den, eo_add, eo_sub, eo_mul, eo_quo, eo_rem, eo_fdv, eo_mn, eo_mx, eo_land, eo_lor, eo_lxor, eo_landn, eo_shl, eo_shr, dvs, flatS, SP.flat, ST.flat, List.map_cons, List.map_nil, List.append_nil, List.cons_append, List.nil_append, ltb_t, ltb_f, leb_t, leb_f, eqb_t, eqb_f, decide_eq_true_eq, decide_eq_false_iff_not, Bool.not_eq_true', Bool.not_eq_false', Bool.and_eq_true, Bool.and_eq_false_imp, beq_iff_eq, beq_eq_false_iff_ne, bne_iff_ne, U64, U32, I64, Big, W, wv, Told, s64, WT, PR, MR, MB, Int.zero_mul, Int.zero_add, Int.add_zero, Int.mul_zero, IntKind.wrap_u64, IntKind.wrap_i64, IntKind.wrap_u32, ne_eq, forall_const, true_implies, show T.rel 10 = R10 from rfl, R10, show T.rel 11 = R11 from rfl, R11, show T.rel 32 = R32 from rfl, R32, show T.rel 34 = R34 from rfl, R34, show T.rel 57 = R57 from rfl, R57, show T.rel 74 = R74 from rfl, R74, show T.pre 10 = Q10 from rfl, Q10, show T.pre 11 = Q11 from rfl, Q11, show T.pre 32 = Q32 from rfl, Q32, show T.pre 34 = Q34 from rfl, Q34, show T.pre 57 = Q57 from rfl, Q57, show T.pre 74 = Q74 from rfl, Q74]
  revert hp
  generalize (E.r 0).i 0 = t
  generalize (E.r 0).i 1 = r
  generalize (E.r 0).i 2 = w
  generalize (E.r 0).i 3 = u
  generalize (E.r 0).i 4 = q
  generalize (E.r 0).i 5 = v
  generalize (E.r 65543).c 0 = x7_0
  generalize (E.r 65543).l 1 = x7_1
  generalize (E.r 65544).i 0 = x8_0
  generalize (E.r 65551).c 0 = x15_0
  generalize (E.r 65551).l 1 = x15_1
  generalize (E.r 65555).c 0 = x19_0
  generalize (E.r 65555).l 1 = x19_1
  generalize (E.r 65556).c 0 = x20_0
  generalize (E.r 65556).l 1 = x20_1
  generalize (E.r 65560).c 0 = x24_0
  generalize (E.r 65560).l 1 = x24_1
  generalize (E.r 65564).c 0 = x28_0
  generalize (E.r 65564).l 1 = x28_1
  generalize (E.r 65565).c 0 = x29_0
  generalize (E.r 65565).l 1 = x29_1
  generalize (E.r 65566).i 0 = x30_0
  try simp only [Bg]
  try generalize bval x7_0 x7_1 = y7_0
  try generalize bval x15_0 x15_1 = y15_0
  try generalize bval x19_0 x19_1 = y19_0
  try generalize bval x20_0 x20_1 = y20_0
  try generalize bval x24_0 x24_1 = y24_0
  try generalize bval x28_0 x28_1 = y28_0
  try generalize bval x29_0 x29_1 = y29_0
  try simp only [mxI, mnI]
  try simp only [ltb, leb, eqb, Int.lt_irrefl, decide_false, Int.le_refl, decide_true]
  intro hp
  have p1 := mul_below (a := r) (b := v) (c := 4294967295) (d := 4294967295) (by omega) (by omega) (by omega) (by omega)
  have p2 := mul_below (a := q) (b := w) (c := 4294967295) (d := 4294967295) (by omega) (by omega) (by omega) (by omega)
  simp only [show r % 18446744073709551616 = r by omega, show w % 18446744073709551616 = w by omega, show q % 18446744073709551616 = q by omega, show v % 18446744073709551616 = v by omega]
  repeat' (first | assumption | (intro (h : _ ∧ _); obtain ⟨h1, h2⟩ := h; (first | (subst h1; revert h2) | revert h1 h2)) | (intro h; (first | subst h | skip)) | refine And.intro ?_ ?_)
  all_goals try (show False; refine absurd ?_ ‹¬ _›)
  all_goals repeat' (first | assumption | refine And.intro ?_ ?_)
  all_goals first | omega | (refine pcI_of ⟨fun _ => ?_, fun _ => ?_, fun _ => ⟨fun _ => ?_, fun _ => ?_, fun _ => ?_⟩⟩ <;> (simp only [s64] at *; omega)) | grind
end Go.Proofs.Ytpccjjfcklplaaa.Fn
namespace Go.Proofs.Ytpccjjfcklplaaa.Fn
open Go Go.RowKit Go.Proofs.Ytpccjjfcklplaaa.Sy
set_option linter.unusedVariables false
set_option linter.unusedSimpArgs false
set_option maxRecDepth 100000
def t58 : Tr :=
  .br (.f (.rel 57 [.num (.v 0 0), .num (.v 0 1), .num (.v 0 2), .num (.v 0 7), .num (.v 0 8), .num (.v 0 9)] 65543 [.int .i64]) <|
   .br (.f (.is (.lt (.v 65543 0) (.n 0)) true) <|
    .ok [.tru (.le (.n 0) (.n 0))])
   (.f (.is (.lt (.v 65543 0) (.n 0)) false) <|
    .br (.f (.is (.eq (.v 65543 0) (.n 0)) true) <|
     .ok [.tru (.lt (.v 0 3) (.v 0 10))])
    (.f (.is (.eq (.v 65543 0) (.n 0)) false) <|
     .ok [.tru (.lt (.n 0) (.n 0))])))
  (.f (.npre 57 [.num (.v 0 0), .num (.v 0 1), .num (.v 0 2), .num (.v 0 7), .num (.v 0 8), .num (.v 0 9)]) <|
   .bad)
theorem c58 : ConS Try.prog T C58 := con_tr (cs := [C57]) (lcs := []) (known := []) (cons_cons c57 (cons_nil _ _)) (Known.nil _) (N := 400) (d := 40) (t := t58) (by kernel_rfl) <| by
  intro E hl hp
  clear hl
  have hp := hp rfl
  simp only [C58, show T.pre 58 = Q58 from rfl, flatS, SP.flat, dvs, List.append_nil, List.cons_append, List.nil_append, Q58, U64, U32, I64, Big, W, wv, s64, WT, PR, MR, MB] at hp
  simp only [t58, C58, Tr.good, Fact.den, LX.den, DX.ls, DV.ls, DX.den, Bx.den, Ex.den, eo_add, eo_sub, eo_mul, eo_quo, eo_rem, eo_fdv, eo_mn, eo_mx, eo_land, eo_lor, eo_lxor, eo_landn, eo_shl, eo_shr, dvs, flatS, SP.flat, ST.flat, List.map_cons, List.map_nil, List.append_nil, List.cons_append, List.nil_append, ltb_t, ltb_f, leb_t, leb_f, eqb_t, eqb_f, decide_eq_true_eq, decide_eq_false_iff_not, Bool.not_eq_true', Bool.not_eq_false', Bool.and_eq_true, Bool.and_eq_false_imp, beq_iff_eq, beq_eq_false_iff_ne, bne_iff_ne, U64, U32, I64, Big, W, wv, Told, s64, WT, PR, MR, MB, Int.zero_mul, Int.zero_add, Int.add_zero, Int.mul_zero, IntKind.wrap_u64, IntKind.wrap_i64, IntKind.wrap_u32, ne_eq, forall_const, true_implies, show T.rel 57 = R57 from rfl, R57, show T.rel 58 = R58 from rfl, R58, show T.pre 57 = Q57 from rfl, Q57, show T.pre 58 = Q58 from rfl, Q58]
  revert hp
  generalize (E.r 0).i 0 = t
  generalize (E.r 0).i 1 = r
  generalize (E.r 0).i 2 = w
  generalize (E.r 0).i 3 = i
  generalize (E.r 0).i 4 = dt
  generalize (E.r 0).i 5 = dr
  generalize (E.r 0).i 6 = dw
  generalize (E.r 0).i 7 = u
  generalize (E.r 0).i 8 = q
  generalize (E.r 0).i 9 = v
  generalize (E.r 0).i 10 = j
  generalize (E.r 0).i 11 = du
  generalize (E.r 0).i 12 = dq
  generalize (E.r 0).i 13 = dv
  generalize (E.r 65543).i 0 = x7_0
  try simp only [mxI, mnI]
  try simp only [ltb, leb, eqb, Int.lt_irrefl, decide_false, Int.le_refl, decide_true]
  intro hp
  simp only [AHI]
  repeat' (first | assumption | (intro (h : _ ∧ _); obtain ⟨h1, h2⟩ := h; (first | (subst h1; revert h2) | revert h1 h2)) | (intro h; (first | subst h | skip)) | refine And.intro ?_ ?_)
  all_goals try (show False; refine absurd ?_ ‹¬ _›)
  all_goals repeat' (first | assumption | refine And.intro ?_ ?_)
  all_goals first | omega | grind
end Go.Proofs.Ytpccjjfcklplaaa.Fn
namespace Go.Proofs.Ytpccjjfcklplaaa.Fn
open Go Go.RowKit Go.Proofs.Ytpccjjfcklplaaa.Sy
set_option linter.unusedVariables false
set_option linter.unusedSimpArgs false
set_option maxRecDepth 100000
def t37 : Tr :=
  .br (.f (.rel 57 [.num (.v 0 4), .num (.v 0 5), .num (.v 0 6), .num (.v 0 11), .num (.v 0 12), .num (.v 0 13)] 65543 [.int .i64]) <|
   .br (.f (.is (.lt (.v 65543 0) (.n 0)) true) <|
    .ok [.tru (.le (.n 0) (.n 0))])
   (.f (.is (.lt (.v 65543 0) (.n 0)) false) <|
    .br (.f (.is (.eq (.v 65543 0) (.n 0)) true) <|
     .br (.f (.rel 58 [.num (.v 0 0), .num (.v 0 1), .num (.v 0 2), .num (.v 0 3), .num (.v 0 4), .num (.v 0 5), .num (.v 0 6), .num (.v 0 7), .num (.v 0 8), .num (.v 0 9), .num (.v 0 10), .num (.v 0 11), .num (.v 0 12), .num (.v 0 13)] 65553 [.bool]) <|
      .ok [.tru (.v 65553 0)])
     (.f (.npre 58 [.num (.v 0 0), .num (.v 0 1), .num (.v 0 2), .num (.v 0 3), .num (.v 0 4), .num (.v 0 5), .num (.v 0 6), .num (.v 0 7), .num (.v 0 8), .num (.v 0 9), .num (.v 0 10), .num (.v 0 11), .num (.v 0 12), .num (.v 0 13)]) <|
      .bad))
    (.f (.is (.eq (.v 65543 0) (.n 0)) false) <|
     .ok [.tru (.lt (.n 0) (.n 0))])))
  (.f (.npre 57 [.num (.v 0 4), .num (.v 0 5), .num (.v 0 6), .num (.v 0 11), .num (.v 0 12), .num (.v 0 13)]) <|
   .bad)
theorem c37 : ConS Try.prog T C37 := con_tr (cs := [C57, C58]) (lcs := []) (known := []) (cons_cons c57 (cons_cons c58 (cons_nil _ _))) (Known.nil _) (N := 400) (d := 40) (t := t37) (by kernel_rfl) <| by
  intro E hl hp
  clear hl
  have hp := hp rfl
  simp only [C37, show T.pre 37 = Q37 from rfl, flatS, SP.flat, dvs, List.append_nil, List.cons_append, List.nil_append, Q37, U64, U32, I64, Big, W, wv, s64, WT, PR, MR, MB] at hp
  simp only [t37, C37, Tr.good, Fact.den, LX.den, DX.ls, DV.ls, DX.den, Bx.den, Ex.den, eo_add, eo_sub, eo_mul, eo_quo, eo_rem, eo_fdv, eo_mn, eo_mx, eo_land, eo_lor, eo_lxor, eo_landn, eo_shl, eo_shr, dvs, flatS, SP.flat, ST.flat, List.map_cons, List.map_nil, List.append_nil, List.cons_append, List.nil_append, ltb_t, ltb_f, leb_t, leb_f, eqb_t, eqb_f, decide_eq_true_eq, decide_eq_false_iff_not, Bool.not_eq_true', Bool.not_eq_false', Bool.and_eq_true, Bool.and_eq_false_imp, beq_iff_eq, beq_eq_false_iff_ne, bne_iff_ne, U64, U32, I64, Big, W, wv, Told, s64, WT, PR, MR, MB, Int.zero_mul, Int.zero_add, Int.add_zero, Int.mul_zero, IntKind.wrap_u64, IntKind.wrap_i64, IntKind.wrap_u32, ne_eq, forall_const, true_implies, show T.rel 37 = R37 from rfl, R37, show T.rel 57 = R57 from rfl, R57, show T.rel 58 = R58 from rfl, R58, show T.pre 37 = Q37 from rfl, Q37, show T.pre 57 = Q57 from rfl, Q57, show T.pre 58 = Q58 from rfl, Q58]
  revert hp
  generalize (E.r 0).i 0 = t
  generalize (E.r 0).i 1 = r
  generalize (E.r 0).i 2 = w
  generalize (E.r 0).i 3 = i
  generalize (E.r 0).i 4 = dt
  generalize (E.r 0).i 5 = dr
  generalize (E.r 0).i 6 = dw
  generalize (E.r 0).i 7 = u
  generalize (E.r 0).i 8 = q
  generalize (E.r 0).i 9 = v
  generalize (E.r 0).i 10 = j
  generalize (E.r 0).i 11 = du
  generalize (E.r 0).i 12 = dq
  generalize (E.r 0).i 13 = dv
  generalize (E.r 65543).i 0 = x7_0
  generalize (E.r 65553).c 0 = x17_0
  try simp only [mxI, mnI]
  try simp only [ltb, leb, eqb, Int.lt_irrefl, decide_false, Int.le_refl, decide_true]
  intro hp
  simp only [DUI]
  repeat' (first | assumption | (intro (h : _ ∧ _); obtain ⟨h1, h2⟩ := h; (first | (subst h1; revert h2) | revert h1 h2)) | (intro h; (first | subst h | skip)) | refine And.intro ?_ ?_)
  all_goals try (show False; refine absurd ?_ ‹¬ _›)
  all_goals repeat' (first | assumption | refine And.intro ?_ ?_)
  all_goals first | omega | grind
end Go.Proofs.Ytpccjjfcklplaaa.Fn
namespace Go.Proofs.Ytpccjjfcklplaaa.Fn
open Go Go.RowKit Go.Proofs.Ytpccjjfcklplaaa.Sy
set_option linter.unusedVariables false
set_option linter.unusedSimpArgs false
set_option maxRecDepth 100000
def t14 : Tr :=
  .br (.f (.is (.lt (.n 0) (.len 0 0)) true) <|
   .br (.f (.rel 101403 [.lst 0 0, .num (.at 0 0 (.n 0) 0), .num (.at 0 0 (.n 0) 1), .num (.at 0 0 (.n 0) 2), .num (.at 0 0 (.n 0) 3), .num (.at 0 0 (.n 0) 4), .num (.at 0 0 (.n 0) 5), .num (.at 0 0 (.n 0) 6), .num (.n 0)] 65545 [.int .u64, .int .u32, .int .u32, .int .i64, .int .u64, .int .u32, .int .u32, .int .i64]) <|
    .br (.f (.is (.lt (.v 65545 7) (.len 0 0)) false) <|
     .ok [.num (.v 65545 0), .num (.v 65545 1), .num (.v 65545 2), .num (.v 65545 3), .num (.v 65545 4), .num (.v 65545 5), .num (.v 65545 6)])
    (.f (.is (.lt (.v 65545 7) (.len 0 0)) true) <|
     .br (.f (.is (.lt (.v 65545 7) (.n 0)) true) <|
      .bad)
     (.f (.is (.lt (.v 65545 7) (.n 0)) false) <|
      .br (.f (.npre 37 [.num (.at 0 0 (.v 65545 7) 0), .num (.at 0 0 (.v 65545 7) 1), .num (.at 0 0 (.v 65545 7) 2), .num (.at 0 0 (.v 65545 7) 3), .num (.at 0 0 (.v 65545 7) 4), .num (.at 0 0 (.v 65545 7) 5), .num (.at 0 0 (.v 65545 7) 6), .num (.v 65545 0), .num (.v 65545 1), .num (.v 65545 2), .num (.v 65545 3), .num (.v 65545 4), .num (.v 65545 5), .num (.v 65545 6)]) <|
       .bad)
      (.f (.rel 37 [.num (.at 0 0 (.v 65545 7) 0), .num (.at 0 0 (.v 65545 7) 1), .num (.at 0 0 (.v 65545 7) 2), .num (.at 0 0 (.v 65545 7) 3), .num (.at 0 0 (.v 65545 7) 4), .num (.at 0 0 (.v 65545 7) 5), .num (.at 0 0 (.v 65545 7) 6), .num (.v 65545 0), .num (.v 65545 1), .num (.v 65545 2), .num (.v 65545 3), .num (.v 65545 4), .num (.v 65545 5), .num (.v 65545 6)] 65553 [.bool]) <|
       .br (.f (.is (.v 65553 0) true) <|
        .br (.f (.nrel 101403 [.lst 0 0, .num (.at 0 0 (.n 0) 0), .num (.at 0 0 (.n 0) 1), .num (.at 0 0 (.n 0) 2), .num (.at 0 0 (.n 0) 3), .num (.at 0 0 (.n 0) 4), .num (.at 0 0 (.n 0) 5), .num (.at 0 0 (.n 0) 6), .num (.n 0)] [.num (.at 0 0 (.v 65545 7) 0), .num (.at 0 0 (.v 65545 7) 1), .num (.at 0 0 (.v 65545 7) 2), .num (.at 0 0 (.v 65545 7) 3), .num (.at 0 0 (.v 65545 7) 4), .num (.at 0 0 (.v 65545 7) 5), .num (.at 0 0 (.v 65545 7) 6), .num (.wrap .i64 (.bin .add (.v 65545 7) (.n 1)))]) <|
         .bad)
        (.f (.ndec 101403 [.lst 0 0, .num (.at 0 0 (.n 0) 0), .num (.at 0 0 (.n 0) 1), .num (.at 0 0 (.n 0) 2), .num (.at 0 0 (.n 0) 3), .num (.at 0 0 (.n 0) 4), .num (.at 0 0 (.n 0) 5), .num (.at 0 0 (.n 0) 6), .num (.n 0)] [.num (.v 65545 0), .num (.v 65545 1), .num (.v 65545 2), .num (.v 65545 3), .num (.v 65545 4), .num (.v 65545 5), .num (.v 65545 6), .num (.v 65545 7)] [.num (.at 0 0 (.v 65545 7) 0), .num (.at 0 0 (.v 65545 7) 1), .num (.at 0 0 (.v 65545 7) 2), .num (.at 0 0 (.v 65545 7) 3), .num (.at 0 0 (.v 65545 7) 4), .num (.at 0 0 (.v 65545 7) 5), .num (.at 0 0 (.v 65545 7) 6), .num (.wrap .i64 (.bin .add (.v 65545 7) (.n 1)))]) <|
         .bad))
       (.f (.is (.v 65553 0) false) <|
        .br (.f (.nrel 101403 [.lst 0 0, .num (.at 0 0 (.n 0) 0), .num (.at 0 0 (.n 0) 1), .num (.at 0 0 (.n 0) 2), .num (.at 0 0 (.n 0) 3), .num (.at 0 0 (.n 0) 4), .num (.at 0 0 (.n 0) 5), .num (.at 0 0 (.n 0) 6), .num (.n 0)] [.num (.v 65545 0), .num (.v 65545 1), .num (.v 65545 2), .num (.v 65545 3), .num (.v 65545 4), .num (.v 65545 5), .num (.v 65545 6), .num (.wrap .i64 (.bin .add (.v 65545 7) (.n 1)))]) <|
         .bad)
        (.f (.ndec 101403 [.lst 0 0, .num (.at 0 0 (.n 0) 0), .num (.at 0 0 (.n 0) 1), .num (.at 0 0 (.n 0) 2), .num (.at 0 0 (.n 0) 3), .num (.at 0 0 (.n 0) 4), .num (.at 0 0 (.n 0) 5), .num (.at 0 0 (.n 0) 6), .num (.n 0)] [.num (.v 65545 0), .num (.v 65545 1), .num (.v 65545 2), .num (.v 65545 3), .num (.v 65545 4), .num (.v 65545 5), .num (.v 65545 6), .num (.v 65545 7)] [.num (.v 65545 0), .num (.v 65545 1), .num (.v 65545 2), .num (.v 65545 3), .num (.v 65545 4), .num (.v 65545 5), .num (.v 65545 6), .num (.wrap .i64 (.bin .add (.v 65545 7) (.n 1)))]) <|
         .bad))))))
   (.f (.nrel 101403 [.lst 0 0, .num (.at 0 0 (.n 0) 0), .num (.at 0 0 (.n 0) 1), .num (.at 0 0 (.n 0) 2), .num (.at 0 0 (.n 0) 3), .num (.at 0 0 (.n 0) 4), .num (.at 0 0 (.n 0) 5), .num (.at 0 0 (.n 0) 6), .num (.n 0)] [.num (.at 0 0 (.n 0) 0), .num (.at 0 0 (.n 0) 1), .num (.at 0 0 (.n 0) 2), .num (.at 0 0 (.n 0) 3), .num (.at 0 0 (.n 0) 4), .num (.at 0 0 (.n 0) 5), .num (.at 0 0 (.n 0) 6), .num (.n 0)]) <|
    .bad))
  (.f (.is (.lt (.n 0) (.len 0 0)) false) <|
   .bad)
theorem c14 : ConS Try.prog T C14 := con_tr (cs := [C37]) (lcs := [L101403]) (known := []) (cons_cons c37 (cons_nil _ _)) (Known.nil _) (N := 400) (d := 40) (t := t14) (by kernel_rfl) <| by
  intro E hl hp
  have hl0 := hl 0 _ rfl
  clear hl
  have hp := hp rfl
  simp only [C14, show T.pre 14 = Q14 from rfl, flatS, SP.flat, dvs, List.append_nil, List.cons_append, List.nil_append, Q14, U64, U32, I64, Big, W, wv, s64, WT, PR, MR, MB] at hp
  simp only [t14, C14, Tr.good, Fact.den, LX.den, DX.ls, DV.ls, DX.den, Bx.den, Ex.den, eo_add, eo_sub, eo_mul, eo_quo, eo_rem, eo_fdv, eo_mn, eo_mx, eo_land, eo_lor, eo_lxor, eo_landn, eo_shl, eo_shr, dvs, flatS, SP.flat, ST.flat, List.map_cons, List.map_nil, List.append_nil, List.cons_append, List.nil_append, ltb_t, ltb_f, leb_t, leb_f, eqb_t, eqb_f, decide_eq_true_eq, decide_eq_false_iff_not, Bool.not_eq_true', Bool.not_eq_false', Bool.and_eq_true, Bool.and_eq_false_imp, beq_iff_eq, beq_eq_false_iff_ne, bne_iff_ne, U64, U32, I64, Big, W, wv, Told, s64, WT, PR, MR, MB, Int.zero_mul, Int.zero_add, Int.add_zero, Int.mul_zero, IntKind.wrap_u64, IntKind.wrap_i64, IntKind.wrap_u32, ne_eq, forall_const, true_implies, show T.rel 14 = R14 from rfl, R14, show T.rel 37 = R37 from rfl, R37, show T.rel 101403 = R101403 from rfl, R101403, show T.mu 101403 = M101403 from rfl, M101403, show T.pre 14 = Q14 from rfl, Q14, show T.pre 37 = Q37 from rfl, Q37]
  revert hp hl0
  generalize (E.r 0).l 0 = xs
  generalize (E.r 65545).i 0 = x9_0
  generalize (E.r 65545).i 1 = x9_1
  generalize (E.r 65545).i 2 = x9_2
  generalize (E.r 65545).i 3 = x9_3
  generalize (E.r 65545).i 4 = x9_4
  generalize (E.r 65545).i 5 = x9_5
  generalize (E.r 65545).i 6 = x9_6
  generalize (E.r 65545).i 7 = x9_7
  generalize (E.r 65553).c 0 = x17_0
  try simp only [mxI, mnI]
  try simp only [ltb, leb, eqb, Int.lt_irrefl, decide_false, Int.le_refl, decide_true]
  intro hl hp
  obtain ⟨hk, hn⟩ := hp
  have hmax := hl.2
  simp only [maxLen] at hmax
  refine ⟨fun _ => ⟨fun ⟨i0, i1, i2⟩ => ⟨fun c => ?_, fun c => ⟨fun h => by omega, fun _ => ⟨fun n => n ?_, fun e => ?_⟩⟩⟩, fun n => n ⟨trivial, by omega, rfl⟩⟩, fun h => by omega⟩
  · rw [i2, show x9_7.toNat = xs.length by omega]
  all_goals
    obtain ⟨k, rfl⟩ := Int.eq_ofNat_of_zero_le i0
    simp only [Int.toNat_natCast] at i2
    have K0 : K7 (rw7 xs 0) := K7_row hk 0
    have K := K7_sn hk K0 k
    rw [← i2] at K
    have Kr := hk k
  · exact ⟨Kr.1, Kr.2.1, Kr.2.2.1, K.1, K.2.1, K.2.2.1, Kr.2.2.2.1, Kr.2.2.2.2.1, Kr.2.2.2.2.2, K.2.2.2.1, K.2.2.2.2.1, K.2.2.2.2.2⟩
  · have ew : ((k : Int) + 1 + 9223372036854775808) % 18446744073709551616 - 9223372036854775808 = ((k + 1 : Nat) : Int) := by omega
    simp only [ew, Int.toNat_natCast]
    have st : sn (rw7 xs) (rw7 xs 0) (k + 1) = if DUR (rw7 xs k) (sn (rw7 xs) (rw7 xs 0) k) then rw7 xs k else sn (rw7 xs) (rw7 xs 0) k := rfl
    rw [← i2] at st
    refine ⟨fun f => ⟨fun n => n ⟨by omega, by omega, ?_⟩, by omega⟩, fun f => ⟨fun n => n ⟨by omega, by omega, ?_⟩, by omega⟩⟩
    · rw [st, if_pos (show DUR (rw7 xs k) [x9_0, x9_1, x9_2, x9_3, x9_4, x9_5, x9_6] from e.1 f)]
      rfl
    · rw [st, if_neg (show ¬ DUR (rw7 xs k) [x9_0, x9_1, x9_2, x9_3, x9_4, x9_5, x9_6] from fun h => by have := e.2 h; rw [f] at this; cases this)]
end Go.Proofs.Ytpccjjfcklplaaa.Fn
