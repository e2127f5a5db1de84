/- What is told of turnstone/turnstonelaw05.ItemSoonest, shown. -/
import Derived.Test.YtpccjjfcklplaaaTab
import Derived.Test.YtpccjjfcklplaaaFm2
import Derived.Test.YtpccjjfcklplaaaSyAwake2
namespace Go.Proofs.Ytpccjjfcklplaaa.Fn
open Go Go.RowKit Go.Proofs.Ytpccjjfcklplaaa.Sy
set_option linter.unusedVariables false
set_option linter.unusedSimpArgs false
set_option maxRecDepth 100000
open Go.Proofs.Ytpccjjfcklplaaa.Awake
def t3 : Tr :=
  .br (.f (.is (.lt (.n 100) (.len 0 1)) true) <|
   .ok [.tru (.le (.n 0) (.n 0))])
  (.f (.is (.lt (.n 100) (.len 0 1)) false) <|
   .br (.f (.is (.eq (.len 0 1) (.n 0)) true) <|
    .ok [.tru (.le (.n 0) (.n 0))])
   (.f (.is (.eq (.len 0 1) (.n 0)) false) <|
    .br (.f (.rel 100308 [.lst 0 1, .rows [], .tru (.le (.n 0) (.n 0)), .num (.n 0)] 65552 [.list [.int .u64, .int .u32, .int .u32, .int .i64, .int .u64, .int .u32, .int .u32], .bool, .int .i64]) <|
     .br (.f (.is (.lt (.v 65552 2) (.len 0 1)) false) <|
      .br (.f (.rel 7 [.num (.v 0 0), .lst 0 1] 65556 [.int .u64]) <|
       .br (.f (.rel 11 [.num (.v 65556 0)] 65557 [.bool, .list [.int .i64]]) <|
        .br (.f (.rel 12 [.num (.v 0 0), .lst 65552 0] 65560 [.bool, .list [.int .i64]]) <|
         .br (.f (.rel 10 [.tru (.v 65557 0), .lst 65557 1, .tru (.v 65560 0), .lst 65560 1] 65561 [.int .i64]) <|
          .br (.f (.is (.eq (.v 65561 0) (.n 0)) false) <|
           .ok [.tru (.lt (.n 0) (.n 0))])
          (.f (.is (.eq (.v 65561 0) (.n 0)) true) <|
           .br (.f (.is (.v 65552 1) false) <|
            .ok [.tru (.le (.n 0) (.n 0))])
           (.f (.is (.v 65552 1) true) <|
            .br (.f (.is (.lt (.n 0) (.len 0 1)) true) <|
             .br (.f (.is (.le (.n 1) (.len 0 1)) true) <|
              .f (.lseq 65570 (.sub (.lst 0 1) (.n 1) (.len 0 1))) <|
               .br (.f (.rel 13 [.num (.at 0 1 (.n 0) 0), .num (.at 0 1 (.n 0) 1), .num (.at 0 1 (.n 0) 2), .num (.at 0 1 (.n 0) 3), .num (.at 0 1 (.n 0) 4), .num (.at 0 1 (.n 0) 5), .num (.at 0 1 (.n 0) 6), .lst 65570 0] 65571 [.int .u64, .int .u32, .int .u32, .int .i64, .int .u64, .int .u32, .int .u32]) <|
                .br (.f (.rel 8 [.num (.v 65571 0), .num (.v 65571 1), .num (.v 65571 2), .num (.v 65571 3), .num (.v 65571 4), .num (.v 65571 5), .num (.v 65571 6)] 65572 [.int .u64, .int .u32, .int .u32, .int .i64, .int .u64, .int .u32, .int .u32]) <|
                 .br (.f (.rel 14 [.lst 65552 0] 65574 [.int .u64, .int .u32, .int .u32, .int .i64, .int .u64, .int .u32, .int .u32]) <|
                  .ok [.tru (.and (.and (.eq (.v 65572 0) (.v 65574 0)) (.and (.eq (.v 65572 1) (.v 65574 1)) (.and (.eq (.v 65572 2) (.v 65574 2)) (.le (.n 0) (.n 0))))) (.and (.eq (.v 65572 3) (.v 65574 3)) (.and (.and (.eq (.v 65572 4) (.v 65574 4)) (.and (.eq (.v 65572 5) (.v 65574 5)) (.and (.eq (.v 65572 6) (.v 65574 6)) (.le (.n 0) (.n 0))))) (.le (.n 0) (.n 0)))))])
                 (.f (.npre 14 [.lst 65552 0]) <|
                  .bad))
                (.f (.npre 8 [.num (.v 65571 0), .num (.v 65571 1), .num (.v 65571 2), .num (.v 65571 3), .num (.v 65571 4), .num (.v 65571 5), .num (.v 65571 6)]) <|
                 .bad))
               (.f (.npre 13 [.num (.at 0 1 (.n 0) 0), .num (.at 0 1 (.n 0) 1), .num (.at 0 1 (.n 0) 2), .num (.at 0 1 (.n 0) 3), .num (.at 0 1 (.n 0) 4), .num (.at 0 1 (.n 0) 5), .num (.at 0 1 (.n 0) 6), .lst 65570 0]) <|
                .bad))
             (.f (.is (.le (.n 1) (.len 0 1)) false) <|
              .bad))
            (.f (.is (.lt (.n 0) (.len 0 1)) false) <|
             .bad))))
         (.f (.npre 10 [.tru (.v 65557 0), .lst 65557 1, .tru (.v 65560 0), .lst 65560 1]) <|
          .bad))
        (.f (.npre 12 [.num (.v 0 0), .lst 65552 0]) <|
         .bad))
       (.f (.npre 11 [.num (.v 65556 0)]) <|
        .bad))
      (.f (.npre 7 [.num (.v 0 0), .lst 0 1]) <|
       .bad))
     (.f (.is (.lt (.v 65552 2) (.len 0 1)) true) <|
      .br (.f (.is (.lt (.v 65552 2) (.n 0)) true) <|
       .bad)
      (.f (.is (.lt (.v 65552 2) (.n 0)) false) <|
       .br (.f (.npre 8 [.num (.at 0 1 (.v 65552 2) 0), .num (.at 0 1 (.v 65552 2) 1), .num (.at 0 1 (.v 65552 2) 2), .num (.at 0 1 (.v 65552 2) 3), .num (.at 0 1 (.v 65552 2) 4), .num (.at 0 1 (.v 65552 2) 5), .num (.at 0 1 (.v 65552 2) 6)]) <|
        .bad)
       (.f (.rel 8 [.num (.at 0 1 (.v 65552 2) 0), .num (.at 0 1 (.v 65552 2) 1), .num (.at 0 1 (.v 65552 2) 2), .num (.at 0 1 (.v 65552 2) 3), .num (.at 0 1 (.v 65552 2) 4), .num (.at 0 1 (.v 65552 2) 5), .num (.at 0 1 (.v 65552 2) 6)] 65560 [.int .u64, .int .u32, .int .u32, .int .i64, .int .u64, .int .u32, .int .u32]) <|
        .br (.f (.is (.le (.len 65552 0) (.n 1000000000)) false) <|
         .bad)
        (.f (.is (.le (.len 65552 0) (.n 1000000000)) true) <|
         .f (.lseq 65562 (.app (.lst 65552 0) (.rows [[.v 65560 0, .v 65560 1, .v 65560 2, .v 65560 3, .v 65560 4, .v 65560 5, .v 65560 6]]))) <|
          .br (.f (.is (.v 65552 1) true) <|
           .br (.f (.npre 8 [.num (.at 0 1 (.v 65552 2) 0), .num (.at 0 1 (.v 65552 2) 1), .num (.at 0 1 (.v 65552 2) 2), .num (.at 0 1 (.v 65552 2) 3), .num (.at 0 1 (.v 65552 2) 4), .num (.at 0 1 (.v 65552 2) 5), .num (.at 0 1 (.v 65552 2) 6)]) <|
            .bad)
           (.f (.rel 8 [.num (.at 0 1 (.v 65552 2) 0), .num (.at 0 1 (.v 65552 2) 1), .num (.at 0 1 (.v 65552 2) 2), .num (.at 0 1 (.v 65552 2) 3), .num (.at 0 1 (.v 65552 2) 4), .num (.at 0 1 (.v 65552 2) 5), .num (.at 0 1 (.v 65552 2) 6)] 65567 [.int .u64, .int .u32, .int .u32, .int .i64, .int .u64, .int .u32, .int .u32]) <|
            .br (.f (.npre 9 [.num (.v 65567 0), .num (.v 65567 1), .num (.v 65567 2), .num (.v 65567 3), .num (.v 65567 4), .num (.v 65567 5), .num (.v 65567 6)]) <|
             .bad)
            (.f (.rel 9 [.num (.v 65567 0), .num (.v 65567 1), .num (.v 65567 2), .num (.v 65567 3), .num (.v 65567 4), .num (.v 65567 5), .num (.v 65567 6)] 65568 [.bool]) <|
             .br (.f (.nrel 100308 [.lst 0 1, .rows [], .tru (.le (.n 0) (.n 0)), .num (.n 0)] [.lst 65562 0, .tru (.v 65568 0), .num (.wrap .i64 (.bin .add (.v 65552 2) (.n 1)))]) <|
              .bad)
             (.f (.ndec 100308 [.lst 0 1, .rows [], .tru (.le (.n 0) (.n 0)), .num (.n 0)] [.lst 65552 0, .tru (.v 65552 1), .num (.v 65552 2)] [.lst 65562 0, .tru (.v 65568 0), .num (.wrap .i64 (.bin .add (.v 65552 2) (.n 1)))]) <|
              .bad))))
          (.f (.is (.v 65552 1) false) <|
           .br (.f (.nrel 100308 [.lst 0 1, .rows [], .tru (.le (.n 0) (.n 0)), .num (.n 0)] [.lst 65562 0, .tru (.lt (.n 0) (.n 0)), .num (.wrap .i64 (.bin .add (.v 65552 2) (.n 1)))]) <|
            .bad)
           (.f (.ndec 100308 [.lst 0 1, .rows [], .tru (.le (.n 0) (.n 0)), .num (.n 0)] [.lst 65552 0, .tru (.v 65552 1), .num (.v 65552 2)] [.lst 65562 0, .tru (.lt (.n 0) (.n 0)), .num (.wrap .i64 (.bin .add (.v 65552 2) (.n 1)))]) <|
            .bad)))))))
    (.f (.nrel 100308 [.lst 0 1, .rows [], .tru (.le (.n 0) (.n 0)), .num (.n 0)] [.rows [], .tru (.le (.n 0) (.n 0)), .num (.n 0)]) <|
     .bad)))
theorem c3 : ConS Try.prog T C3 := con_tr (cs := [C7, C8, C9, C10, C11, C12, C13, C14]) (lcs := [L100308]) (known := [15, 41, 59, 40, 6, 29, 53, 69, 88, 68, 87, 109, 116]) (cons_cons c7 (cons_cons c8 (cons_cons c9 (cons_cons c10 (cons_cons c11 (cons_cons c12 (cons_cons c13 (cons_cons c14 (cons_nil _ _))))))))) known15 (N := 400) (d := 40) (t := t3) (by kernel_rfl) <| by
  intro E hl hp
  have hl1 := hl 1 _ rfl
  clear hl
  have hp := hp rfl
  simp only [C3, show T.pre 3 = Q3 from rfl, flatS, SP.flat, dvs, List.append_nil, List.cons_append, List.nil_append, Q3, U64, U32, I64, Big, W, wv, s64, WT, PR, MR, MB] at hp
  simp only [t3, C3, Tr.good, Fact.den, LX.den, DX.ls, DV.ls, DX.den, Bx.den, Ex.den, eo_add, eo_sub, eo_mul, eo_quo, eo_rem, eo_fdv, eo_mn, eo_mx, eo_land, eo_lor, eo_lxor, eo_landn, eo_shl, eo_shr, dvs, flatS, SP.flat, ST.flat, List.map_cons, List.map_nil, List.append_nil, List.cons_append, List.nil_append, ltb_t, ltb_f, leb_t, leb_f, eqb_t, eqb_f, decide_eq_true_eq, decide_eq_false_iff_not, Bool.not_eq_true', Bool.not_eq_false', Bool.and_eq_true, Bool.and_eq_false_imp, beq_iff_eq, beq_eq_false_iff_ne, bne_iff_ne, U64, U32, I64, Big, W, wv, Told, s64, WT, PR, MR, MB, Int.zero_mul, Int.zero_add, Int.add_zero, Int.mul_zero, IntKind.wrap_u64, IntKind.wrap_i64, IntKind.wrap_u32, ne_eq, forall_const, true_implies, show T.rel 3 = R3 from rfl, R3, show T.rel 7 = R7 from rfl, R7, show T.rel 8 = R8 from rfl, R8, show T.rel 9 = R9 from rfl, R9, show T.rel 10 = R10 from rfl, R10, show T.rel 11 = R11 from rfl, R11, show T.rel 12 = R12 from rfl, R12, show T.rel 13 = R13 from rfl, R13, show T.rel 14 = R14 from rfl, R14, show T.rel 100308 = R100308 from rfl, R100308, show T.mu 100308 = M100308 from rfl, M100308, show T.pre 3 = Q3 from rfl, Q3, show T.pre 7 = Q7 from rfl, Q7, show T.pre 8 = Q8 from rfl, Q8, show T.pre 9 = Q9 from rfl, Q9, show T.pre 10 = Q10 from rfl, Q10, show T.pre 11 = Q11 from rfl, Q11, show T.pre 12 = Q12 from rfl, Q12, show T.pre 13 = Q13 from rfl, Q13, show T.pre 14 = Q14 from rfl, Q14]
  revert hp hl1
  generalize (E.r 0).i 0 = base
  generalize (E.r 0).l 1 = xs
  generalize (E.r 65552).l 0 = x16_0
  generalize (E.r 65552).c 1 = x16_1
  generalize (E.r 65552).i 2 = x16_2
  generalize (E.r 65556).i 0 = x20_0
  generalize (E.r 65557).c 0 = x21_0
  generalize (E.r 65557).l 1 = x21_1
  generalize (E.r 65560).c 0 = x24_0
  generalize (E.r 65560).i 0 = x24_0i
  generalize (E.r 65560).l 1 = x24_1
  generalize (E.r 65560).i 1 = x24_1i
  generalize (E.r 65560).i 2 = x24_2
  generalize (E.r 65560).i 3 = x24_3
  generalize (E.r 65560).i 4 = x24_4
  generalize (E.r 65560).i 5 = x24_5
  generalize (E.r 65560).i 6 = x24_6
  generalize (E.r 65561).i 0 = x25_0
  generalize (E.r 65562).l 0 = x26_0
  generalize (E.r 65567).i 0 = x31_0
  generalize (E.r 65567).i 1 = x31_1
  generalize (E.r 65567).i 2 = x31_2
  generalize (E.r 65567).i 3 = x31_3
  generalize (E.r 65567).i 4 = x31_4
  generalize (E.r 65567).i 5 = x31_5
  generalize (E.r 65567).i 6 = x31_6
  generalize (E.r 65568).c 0 = x32_0
  generalize (E.r 65570).l 0 = x34_0
  generalize (E.r 65571).i 0 = x35_0
  generalize (E.r 65571).i 1 = x35_1
  generalize (E.r 65571).i 2 = x35_2
  generalize (E.r 65571).i 3 = x35_3
  generalize (E.r 65571).i 4 = x35_4
  generalize (E.r 65571).i 5 = x35_5
  generalize (E.r 65571).i 6 = x35_6
  generalize (E.r 65572).i 0 = x36_0
  generalize (E.r 65572).i 1 = x36_1
  generalize (E.r 65572).i 2 = x36_2
  generalize (E.r 65572).i 3 = x36_3
  generalize (E.r 65572).i 4 = x36_4
  generalize (E.r 65572).i 5 = x36_5
  generalize (E.r 65572).i 6 = x36_6
  generalize (E.r 65574).i 0 = x38_0
  generalize (E.r 65574).i 1 = x38_1
  generalize (E.r 65574).i 2 = x38_2
  generalize (E.r 65574).i 3 = x38_3
  generalize (E.r 65574).i 4 = x38_4
  generalize (E.r 65574).i 5 = x38_5
  generalize (E.r 65574).i 6 = x38_6
  try simp only [Bg]
  try generalize bval x21_0 x21_1 = y21_0
  try generalize bval x24_0 x24_1 = y24_0
  try simp only [mxI, mnI]
  try simp only [ltb, leb, eqb, Int.lt_irrefl, decide_false, Int.le_refl, decide_true]
  intro hl hp
  obtain ⟨hb, hk⟩ := hp
  have h7 : ∀ x ∈ xs, x.length = 7 := hl.1
  refine ⟨fun _ => trivial, fun c1 => ⟨fun _ => trivial, fun c2 => ⟨fun ⟨i0, i1, i2⟩ => ⟨fun c3 => ?_, fun c3 => ?_⟩, fun n => n ⟨trivial, by omega, by simp⟩⟩⟩⟩
  · have EX : x16_0 = xs := by rw [i2]; exact List.take_of_length_le (by omega)
    have E34 : List.drop (Int.toNat 1) (List.take (xs.length : Int).toNat xs) = xs.drop 1 := by
      rw [show ((xs.length : Int)).toNat = xs.length by omega, List.take_length]; rfl
    rw [E34, EX]
    have hS := SPR_le base xs
    have K0 := K7_row hk 0
    have sr := sn_rest (L := xs) (by omega)
    have ks := K7_sn hk K0 xs.length
    refine ⟨fun e20 => ⟨fun e21 => ⟨fun e24 => ⟨fun e25 => ⟨fun nz => by omega, fun z => ⟨fun _ => trivial, fun _ => ⟨fun _ => ⟨fun _ e34 => ⟨fun e35 => ?_, fun n => n ⟨K0.1, K0.2.1, K0.2.2.1, K0.2.2.2.1, K0.2.2.2.2.1, K0.2.2.2.2.2, by rw [e34]; exact RI_drop hk⟩⟩, fun h => by omega⟩, fun h => by omega⟩⟩⟩, fun n => n ⟨⟨e21.1, by omega, by omega⟩, e24.1, by omega, by omega⟩⟩, fun n => n ⟨hb, hk, by omega⟩⟩, fun n => n (by omega)⟩, fun n => n (by omega)⟩
    rw [e34] at e35
    have e35 : [x35_0, x35_1, x35_2, x35_3, x35_4, x35_5, x35_6] = sn (rw7 xs) (rw7 xs 0) xs.length := e35.trans sr
    rw [← e35] at ks
    refine ⟨fun e36 => ⟨fun e38 => ?_, fun n => n ⟨hk, by omega⟩⟩, fun n => n ks⟩
    have E := e35.trans e38.symm
    simp only [List.cons.injEq, and_true] at E
    clear sr ks e35 e38 K0 hk hl h7
    repeat' (first | assumption | (intro (h : _ ∧ _); obtain ⟨h1, h2⟩ := h; (first | (subst h1; revert h2) | revert h1 h2)) | (intro h; (first | subst h | skip)) | refine And.intro ?_ ?_)
    all_goals try (show False; refine absurd ?_ ‹¬ _›)
    all_goals repeat' (first | assumption | refine And.intro ?_ ?_)
    all_goals first | omega | grind
  · obtain ⟨k, rfl⟩ := Int.eq_ofNat_of_zero_le i0
    have ew : ((k : Int) + 1 + 9223372036854775808) % 18446744073709551616 - 9223372036854775808 = ((k + 1 : Nat) : Int) := by omega
    simp only [Int.toNat_natCast] at i2
    simp only [ew, Int.toNat_natCast]
    have Kr := hk k
    have lt : x16_0.length ≤ 1000 := by rw [i2, List.length_take]; omega
    refine ⟨fun h => by omega, fun _ => ⟨fun n => n Kr, fun e24 => ⟨fun h => by omega, fun _ e26 => ?_⟩⟩⟩
    have T : x26_0 = xs.take (k + 1) := by
      obtain ⟨a0, a1, a2, a3, a4, a5, a6⟩ := e24
      rw [e26, a0, a1, a2, a3, a4, a5, a6, i2, take_row h7 (by omega)]
    clear e24 e26 i2 hk hl h7 lt
    repeat' (first | assumption | (intro (h : _ ∧ _); obtain ⟨h1, h2⟩ := h; (first | (subst h1; revert h2) | revert h1 h2)) | (intro h; (first | subst h | skip)) | refine And.intro ?_ ?_)
    all_goals try (show False; refine absurd ?_ ‹¬ _›)
    all_goals repeat' (first | assumption | refine And.intro ?_ ?_)
    all_goals first | omega | grind
end Go.Proofs.Ytpccjjfcklplaaa.Fn
