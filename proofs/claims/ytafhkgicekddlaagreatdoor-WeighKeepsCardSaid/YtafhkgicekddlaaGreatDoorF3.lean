/- What is told of turnstone/turnstonelaw11.WeighKeeps, shown. -/
import Derived.Test.YtafhkgicekddlaaGreatDoorTab
import Derived.Test.YtafhkgicekddlaaGreatDoorFm2
import Derived.Test.YtafhkgicekddlaaGreatDoorSyAwake5
namespace Go.Proofs.YtafhkgicekddlaaGreatDoor.Fn
open Go Go.RowKit Go.Proofs.YtafhkgicekddlaaGreatDoor.Sy
set_option linter.unusedVariables false
set_option linter.unusedSimpArgs false
set_option maxRecDepth 100000
open Go.Proofs.YtafhkgicekddlaaGreatDoor.Awake
def t3 : Tr :=
  .br (.f (.is (.lt (.n 32) (.len 0 1)) true) <|
   .ok [.tru (.le (.n 0) (.n 0))])
  (.f (.is (.lt (.n 32) (.len 0 1)) false) <|
   .br (.f (.is (.eq (.len 0 1) (.n 0)) true) <|
    .ok [.tru (.le (.n 0) (.n 0))])
   (.f (.is (.eq (.len 0 1) (.n 0)) false) <|
    .br (.f (.is (.lt (.v 0 3) (.n 1)) true) <|
     .ok [.tru (.le (.n 0) (.n 0))])
    (.f (.is (.lt (.v 0 3) (.n 1)) false) <|
     .br (.f (.is (.lt (.n 1048576) (.v 0 3)) true) <|
      .ok [.tru (.le (.n 0) (.n 0))])
     (.f (.is (.lt (.n 1048576) (.v 0 3)) false) <|
      .br (.f (.rel 100306 [.num (.v 0 0), .lst 0 1, .num (.n 0)] 65558 [.int .i64]) <|
       .br (.f (.is (.lt (.v 65558 0) (.len 0 1)) true) <|
        .br (.f (.is (.lt (.v 65558 0) (.n 0)) false) <|
         .f (.rel 10 [.num (.at 0 1 (.v 65558 0) 0), .num (.v 0 0)] 65567 [.int .i64]) <|
          .f (.rel 11 [.num (.at 0 1 (.v 65558 0) 0), .num (.at 0 1 (.v 65558 0) 1), .num (.at 0 1 (.v 65558 0) 2)] 65570 [.bool]) <|
           .br (.f (.is (.v 65570 0) false) <|
            .ok [.tru (.le (.n 0) (.n 0))])
           (.f (.is (.v 65570 0) true) <|
            .br (.f (.is (.le (.v 65567 0) (.n (-274877906944))) true) <|
             .ok [.tru (.le (.n 0) (.n 0))])
            (.f (.is (.le (.v 65567 0) (.n (-274877906944))) false) <|
             .br (.f (.is (.le (.n 274877906944) (.v 65567 0)) true) <|
              .ok [.tru (.le (.n 0) (.n 0))])
             (.f (.is (.le (.n 274877906944) (.v 65567 0)) false) <|
              .br (.f (.nrel 100306 [.num (.v 0 0), .lst 0 1, .num (.n 0)] [.num (.wrap .i64 (.bin .add (.v 65558 0) (.n 1)))]) <|
               .bad)
              (.f (.ndec 100306 [.num (.v 0 0), .lst 0 1, .num (.n 0)] [.num (.v 65558 0)] [.num (.wrap .i64 (.bin .add (.v 65558 0) (.n 1)))]) <|
               .bad)))))
        (.f (.is (.lt (.v 65558 0) (.n 0)) true) <|
         .bad))
       (.f (.is (.lt (.v 65558 0) (.len 0 1)) false) <|
        .br (.f (.rel 12 [.num (.v 0 0), .lst 0 1] 65562 [.int .u64, .int .i64, .int .u64, .int .u64, .int .i64, .bool]) <|
         .br (.f (.is (.lt (.bin .rem (.wrap .i64 (.v 0 2)) (.len 0 1)) (.n 0)) false) <|
          .br (.f (.is (.lt (.bin .rem (.wrap .i64 (.v 0 2)) (.len 0 1)) (.len 0 1)) true) <|
           .br (.f (.rel 13 [.num (.v 65562 0), .num (.v 65562 1), .num (.v 65562 2), .num (.v 65562 3), .num (.v 65562 4), .num (.at 0 1 (.bin .rem (.wrap .i64 (.v 0 2)) (.len 0 1)) 0), .num (.at 0 1 (.bin .rem (.wrap .i64 (.v 0 2)) (.len 0 1)) 1), .num (.at 0 1 (.bin .rem (.wrap .i64 (.v 0 2)) (.len 0 1)) 2), .num (.v 0 3)] 65581 [.int .u64, .int .u32, .int .u32, .bool]) <|
            .br (.f (.rel 14 [.num (.v 65562 0), .num (.v 65562 1), .num (.v 65562 2), .num (.v 65562 3), .num (.v 65562 4), .num (.at 0 1 (.bin .rem (.wrap .i64 (.v 0 2)) (.len 0 1)) 0), .num (.at 0 1 (.bin .rem (.wrap .i64 (.v 0 2)) (.len 0 1)) 1), .num (.at 0 1 (.bin .rem (.wrap .i64 (.v 0 2)) (.len 0 1)) 2), .num (.v 65581 0), .num (.v 65581 1), .num (.v 65581 2)] 65594 [.int .u64, .int .i64, .int .u64, .int .u64, .int .i64, .bool]) <|
             .br (.f (.is (.v 65562 5) false) <|
              .ok [.tru (.lt (.n 0) (.n 0))])
             (.f (.is (.v 65562 5) true) <|
              .br (.f (.is (.v 65581 3) false) <|
               .ok [.tru (.lt (.n 0) (.n 0))])
              (.f (.is (.v 65581 3) true) <|
               .br (.f (.is (.v 65594 5) false) <|
                .ok [.tru (.lt (.n 0) (.n 0))])
               (.f (.is (.v 65594 5) true) <|
                .br (.f (.rel 100319 [.lst 0 1, .num (.n 0)] 65614 [.int .i64]) <|
                 .br (.f (.is (.lt (.v 65614 0) (.len 0 1)) true) <|
                  .br (.f (.is (.lt (.v 65614 0) (.n 0)) false) <|
                   .br (.f (.is (.eq (.v 65614 0) (.bin .rem (.wrap .i64 (.v 0 2)) (.len 0 1))) true) <|
                    .br (.f (.rel 15 [.num (.v 65562 0), .num (.v 65562 1), .num (.v 65562 2), .num (.v 65562 3), .num (.v 65562 4), .num (.at 0 1 (.v 65614 0) 0), .num (.at 0 1 (.v 65614 0) 1), .num (.at 0 1 (.v 65614 0) 2)] 65632 [.int .i64, .int .u64, .bool]) <|
                     .br (.f (.rel 15 [.num (.v 65594 0), .num (.v 65594 1), .num (.v 65594 2), .num (.v 65594 3), .num (.v 65594 4), .num (.v 65581 0), .num (.v 65581 1), .num (.v 65581 2)] 65641 [.int .i64, .int .u64, .bool]) <|
                      .br (.f (.rel 16 [.num (.v 65641 0), .num (.v 65641 1), .num (.v 65632 0), .num (.v 65632 1)] 65650 [.int .i64, .int .u64, .bool]) <|
                       .br (.f (.rel 17 [.num (.v 65650 0), .num (.v 65650 1)] 65658 [.int .i64, .bool]) <|
                        .br (.f (.is (.v 65658 1) false) <|
                         .ok [.tru (.lt (.n 0) (.n 0))])
                        (.f (.is (.v 65658 1) true) <|
                         .br (.f (.is (.lt (.v 65658 0) (.n 0)) true) <|
                          .ok [.tru (.lt (.n 0) (.n 0))])
                         (.f (.is (.lt (.v 65658 0) (.n 0)) false) <|
                          .br (.f (.is (.lt (.n 1) (.v 65658 0)) true) <|
                           .ok [.tru (.lt (.n 0) (.n 0))])
                          (.f (.is (.lt (.n 1) (.v 65658 0)) false) <|
                           .br (.f (.nrel 100319 [.lst 0 1, .num (.n 0)] [.num (.wrap .i64 (.bin .add (.v 65614 0) (.n 1)))]) <|
                            .bad)
                           (.f (.ndec 100319 [.lst 0 1, .num (.n 0)] [.num (.v 65614 0)] [.num (.wrap .i64 (.bin .add (.v 65614 0) (.n 1)))]) <|
                            .bad)))))
                       (.f (.npre 17 [.num (.v 65650 0), .num (.v 65650 1)]) <|
                        .bad))
                      (.f (.npre 16 [.num (.v 65641 0), .num (.v 65641 1), .num (.v 65632 0), .num (.v 65632 1)]) <|
                       .bad))
                     (.f (.npre 15 [.num (.v 65594 0), .num (.v 65594 1), .num (.v 65594 2), .num (.v 65594 3), .num (.v 65594 4), .num (.v 65581 0), .num (.v 65581 1), .num (.v 65581 2)]) <|
                      .bad))
                    (.f (.npre 15 [.num (.v 65562 0), .num (.v 65562 1), .num (.v 65562 2), .num (.v 65562 3), .num (.v 65562 4), .num (.at 0 1 (.v 65614 0) 0), .num (.at 0 1 (.v 65614 0) 1), .num (.at 0 1 (.v 65614 0) 2)]) <|
                     .bad))
                   (.f (.is (.eq (.v 65614 0) (.bin .rem (.wrap .i64 (.v 0 2)) (.len 0 1))) false) <|
                    .br (.f (.rel 15 [.num (.v 65562 0), .num (.v 65562 1), .num (.v 65562 2), .num (.v 65562 3), .num (.v 65562 4), .num (.at 0 1 (.v 65614 0) 0), .num (.at 0 1 (.v 65614 0) 1), .num (.at 0 1 (.v 65614 0) 2)] 65630 [.int .i64, .int .u64, .bool]) <|
                     .br (.f (.rel 15 [.num (.v 65594 0), .num (.v 65594 1), .num (.v 65594 2), .num (.v 65594 3), .num (.v 65594 4), .num (.at 0 1 (.v 65614 0) 0), .num (.at 0 1 (.v 65614 0) 1), .num (.at 0 1 (.v 65614 0) 2)] 65639 [.int .i64, .int .u64, .bool]) <|
                      .br (.f (.rel 16 [.num (.v 65639 0), .num (.v 65639 1), .num (.v 65630 0), .num (.v 65630 1)] 65648 [.int .i64, .int .u64, .bool]) <|
                       .br (.f (.rel 17 [.num (.v 65648 0), .num (.v 65648 1)] 65656 [.int .i64, .bool]) <|
                        .br (.f (.is (.v 65656 1) false) <|
                         .ok [.tru (.lt (.n 0) (.n 0))])
                        (.f (.is (.v 65656 1) true) <|
                         .br (.f (.is (.lt (.v 65656 0) (.n (-1))) true) <|
                          .ok [.tru (.lt (.n 0) (.n 0))])
                         (.f (.is (.lt (.v 65656 0) (.n (-1))) false) <|
                          .br (.f (.is (.lt (.n 0) (.v 65656 0)) true) <|
                           .ok [.tru (.lt (.n 0) (.n 0))])
                          (.f (.is (.lt (.n 0) (.v 65656 0)) false) <|
                           .br (.f (.nrel 100319 [.lst 0 1, .num (.n 0)] [.num (.wrap .i64 (.bin .add (.v 65614 0) (.n 1)))]) <|
                            .bad)
                           (.f (.ndec 100319 [.lst 0 1, .num (.n 0)] [.num (.v 65614 0)] [.num (.wrap .i64 (.bin .add (.v 65614 0) (.n 1)))]) <|
                            .bad)))))
                       (.f (.npre 17 [.num (.v 65648 0), .num (.v 65648 1)]) <|
                        .bad))
                      (.f (.npre 16 [.num (.v 65639 0), .num (.v 65639 1), .num (.v 65630 0), .num (.v 65630 1)]) <|
                       .bad))
                     (.f (.npre 15 [.num (.v 65594 0), .num (.v 65594 1), .num (.v 65594 2), .num (.v 65594 3), .num (.v 65594 4), .num (.at 0 1 (.v 65614 0) 0), .num (.at 0 1 (.v 65614 0) 1), .num (.at 0 1 (.v 65614 0) 2)]) <|
                      .bad))
                    (.f (.npre 15 [.num (.v 65562 0), .num (.v 65562 1), .num (.v 65562 2), .num (.v 65562 3), .num (.v 65562 4), .num (.at 0 1 (.v 65614 0) 0), .num (.at 0 1 (.v 65614 0) 1), .num (.at 0 1 (.v 65614 0) 2)]) <|
                     .bad)))
                  (.f (.is (.lt (.v 65614 0) (.n 0)) true) <|
                   .bad))
                 (.f (.is (.lt (.v 65614 0) (.len 0 1)) false) <|
                  .br (.f (.rel 18 [.num (.v 65562 0), .num (.v 65562 1), .num (.v 65562 2), .num (.v 65562 3), .num (.v 65562 4)] 65617 [.int .u64, .bool]) <|
                   .br (.f (.rel 18 [.num (.v 65594 0), .num (.v 65594 1), .num (.v 65594 2), .num (.v 65594 3), .num (.v 65594 4)] 65624 [.int .u64, .bool]) <|
                    .f (.rel 10 [.num (.v 65617 0), .num (.v 65624 0)] 65632 [.int .i64]) <|
                     .br (.f (.is (.le (.n 0) (.v 65632 0)) true) <|
                      .f (.rel 10 [.num (.v 65617 0), .num (.v 65624 0)] 65637 [.int .i64]) <|
                       .ok [.tru (.le (.v 65637 0) (.n 1))])
                     (.f (.is (.le (.n 0) (.v 65632 0)) false) <|
                      .ok [.tru (.lt (.n 0) (.n 0))]))
                   (.f (.npre 18 [.num (.v 65594 0), .num (.v 65594 1), .num (.v 65594 2), .num (.v 65594 3), .num (.v 65594 4)]) <|
                    .bad))
                  (.f (.npre 18 [.num (.v 65562 0), .num (.v 65562 1), .num (.v 65562 2), .num (.v 65562 3), .num (.v 65562 4)]) <|
                   .bad)))
                (.f (.nrel 100319 [.lst 0 1, .num (.n 0)] [.num (.n 0)]) <|
                 .bad)))))
            (.f (.npre 14 [.num (.v 65562 0), .num (.v 65562 1), .num (.v 65562 2), .num (.v 65562 3), .num (.v 65562 4), .num (.at 0 1 (.bin .rem (.wrap .i64 (.v 0 2)) (.len 0 1)) 0), .num (.at 0 1 (.bin .rem (.wrap .i64 (.v 0 2)) (.len 0 1)) 1), .num (.at 0 1 (.bin .rem (.wrap .i64 (.v 0 2)) (.len 0 1)) 2), .num (.v 65581 0), .num (.v 65581 1), .num (.v 65581 2)]) <|
             .bad))
           (.f (.npre 13 [.num (.v 65562 0), .num (.v 65562 1), .num (.v 65562 2), .num (.v 65562 3), .num (.v 65562 4), .num (.at 0 1 (.bin .rem (.wrap .i64 (.v 0 2)) (.len 0 1)) 0), .num (.at 0 1 (.bin .rem (.wrap .i64 (.v 0 2)) (.len 0 1)) 1), .num (.at 0 1 (.bin .rem (.wrap .i64 (.v 0 2)) (.len 0 1)) 2), .num (.v 0 3)]) <|
            .bad))
          (.f (.is (.lt (.bin .rem (.wrap .i64 (.v 0 2)) (.len 0 1)) (.len 0 1)) false) <|
           .bad))
         (.f (.is (.lt (.bin .rem (.wrap .i64 (.v 0 2)) (.len 0 1)) (.n 0)) true) <|
          .bad))
        (.f (.npre 12 [.num (.v 0 0), .lst 0 1]) <|
         .bad)))
      (.f (.nrel 100306 [.num (.v 0 0), .lst 0 1, .num (.n 0)] [.num (.n 0)]) <|
       .bad)))))
theorem c3 : ConS Tryz.prog T C3 := con_tr (cs := [C10, C11, C12, C13, C14, C15, C16, C17, C18]) (lcs := [L100306, L100319]) (known := [19, 56, 9, 43, 78, 99, 34, 67, 27, 64, 93, 109, 119, 108, 118, 129, 141, 159, 162, 158, 161, 170, 171]) (cons_cons c10 (cons_cons c11 (cons_cons c12 (cons_cons c13 (cons_cons c14 (cons_cons c15 (cons_cons c16 (cons_cons c17 (cons_cons c18 (cons_nil _ _)))))))))) known19 (N := 400) (d := 40) (t := t3) (by kernel_rfl) <| by
  intro E hl hp
  have hl1 := hl 1 _ rfl
  clear hl
  have hp := hp rfl
  simp only [C3, show T.pre 3 = Q3 from rfl, flatS, SP.flat, dvs, List.append_nil, List.cons_append, List.nil_append, Q3, U64, U32, I64, s64, WT, PR] at hp
  simp only [t3, C3, Tr.good, Fact.den, DX.den, Bx.den, Ex.den, EO.den, dvs, flatS, SP.flat, ST.flat, List.map_cons, List.map_nil, List.append_nil, List.cons_append, List.nil_append, ltb_t, ltb_f, leb_t, leb_f, eqb_t, eqb_f, decide_eq_true_eq, decide_eq_false_iff_not, Bool.not_eq_true', Bool.not_eq_false', Bool.and_eq_true, Bool.and_eq_false_imp, beq_iff_eq, beq_eq_false_iff_ne, bne_iff_ne, U64, U32, I64, Told, s64, WT, PR, Int.zero_mul, Int.zero_add, Int.add_zero, Int.mul_zero, IntKind.wrap_u64, IntKind.wrap_i64, IntKind.wrap_u32, ne_eq, forall_const, true_implies, show T.rel 3 = R3 from rfl, R3, show T.rel 10 = R10 from rfl, R10, show T.rel 11 = R11 from rfl, R11, show T.rel 12 = R12 from rfl, R12, show T.rel 13 = R13 from rfl, R13, show T.rel 14 = R14 from rfl, R14, show T.rel 15 = R15 from rfl, R15, show T.rel 16 = R16 from rfl, R16, show T.rel 17 = R17 from rfl, R17, show T.rel 18 = R18 from rfl, R18, show T.rel 100306 = R100306 from rfl, R100306, show T.rel 100319 = R100319 from rfl, R100319, show T.mu 100306 = M100306 from rfl, M100306, show T.mu 100319 = M100319 from rfl, M100319, show T.pre 3 = Q3 from rfl, Q3, show T.pre 12 = Q12 from rfl, Q12, show T.pre 13 = Q13 from rfl, Q13, show T.pre 14 = Q14 from rfl, Q14, show T.pre 15 = Q15 from rfl, Q15, show T.pre 16 = Q16 from rfl, Q16, show T.pre 17 = Q17 from rfl, Q17, show T.pre 18 = Q18 from rfl, Q18]
  revert hp hl1
  generalize (E.r 0).i 0 = base
  generalize (E.r 0).l 1 = xs
  generalize (E.r 0).i 2 = i
  generalize (E.r 0).i 3 = x
  generalize (E.r 65558).i 0 = x22_0
  generalize (E.r 65562).i 0 = x26_0
  generalize (E.r 65562).i 1 = x26_1
  generalize (E.r 65562).i 2 = x26_2
  generalize (E.r 65562).i 3 = x26_3
  generalize (E.r 65562).i 4 = x26_4
  generalize (E.r 65562).c 5 = x26_5
  generalize (E.r 65567).i 0 = x31_0
  generalize (E.r 65570).c 0 = x34_0
  generalize (E.r 65581).i 0 = x45_0
  generalize (E.r 65581).i 1 = x45_1
  generalize (E.r 65581).i 2 = x45_2
  generalize (E.r 65581).c 3 = x45_3
  generalize (E.r 65594).i 0 = x58_0
  generalize (E.r 65594).i 1 = x58_1
  generalize (E.r 65594).i 2 = x58_2
  generalize (E.r 65594).i 3 = x58_3
  generalize (E.r 65594).i 4 = x58_4
  generalize (E.r 65594).c 5 = x58_5
  generalize (E.r 65614).i 0 = x78_0
  generalize (E.r 65617).i 0 = x81_0
  generalize (E.r 65617).c 1 = x81_1
  generalize (E.r 65624).i 0 = x88_0
  generalize (E.r 65624).c 1 = x88_1
  generalize (E.r 65630).i 0 = x94_0
  generalize (E.r 65630).i 1 = x94_1
  generalize (E.r 65630).c 2 = x94_2
  generalize (E.r 65632).i 0 = x96_0
  generalize (E.r 65632).i 1 = x96_1
  generalize (E.r 65632).c 2 = x96_2
  generalize (E.r 65637).i 0 = x101_0
  generalize (E.r 65639).i 0 = x103_0
  generalize (E.r 65639).i 1 = x103_1
  generalize (E.r 65639).c 2 = x103_2
  generalize (E.r 65641).i 0 = x105_0
  generalize (E.r 65641).i 1 = x105_1
  generalize (E.r 65641).c 2 = x105_2
  generalize (E.r 65648).i 0 = x112_0
  generalize (E.r 65648).i 1 = x112_1
  generalize (E.r 65648).c 2 = x112_2
  generalize (E.r 65650).i 0 = x114_0
  generalize (E.r 65650).i 1 = x114_1
  generalize (E.r 65650).c 2 = x114_2
  generalize (E.r 65656).i 0 = x120_0
  generalize (E.r 65656).c 1 = x120_1
  generalize (E.r 65658).i 0 = x122_0
  generalize (E.r 65658).c 1 = x122_1
  try simp only [ltb, leb, eqb, Int.lt_irrefl, decide_false, Int.le_refl, decide_true]
  intro hl hp
  obtain ⟨⟨b0, b1⟩, hk, i0, i1, x0, x1⟩ := hp
  refine ⟨fun _ => trivial, fun c1 => ⟨fun _ => trivial, fun c2 => ⟨fun _ => trivial, fun c3 => ⟨fun _ => trivial, fun c4 => ⟨fun ⟨L1, L2, L3, L4⟩ => ⟨fun c5 => ⟨fun c6 => ?_, fun h => by omega⟩, fun c5 => ?_⟩, ?_⟩⟩⟩⟩⟩
  · intro e31 h34
    refine ⟨fun _ => trivial, fun c7 => ⟨fun _ => trivial, fun c8 => ⟨fun _ => trivial, fun c9 => ?_⟩⟩⟩
    obtain ⟨k, rfl⟩ := Int.eq_ofNat_of_zero_le L1
    have e : ((k : Int) + 1 + 9223372036854775808) % 18446744073709551616 - 9223372036854775808 = ((k + 1 : Nat) : Int) := by omega
    simp only [e, Int.toNat_natCast] at *
    exact ⟨fun n => n ⟨by omega, by omega, AP.succ.2 ⟨L3, h34.1 c7⟩, AN.succ.2 ⟨L4, by simp only [s64]; omega, by simp only [s64]; omega⟩⟩, by omega⟩
  · have ex : x22_0 = (xs.length : Int) := by omega
    subst ex
    simp only [Int.toNat_natCast] at L3 L4
    refine ⟨fun ⟨f1, f2, f3⟩ => ?_, fun n => n hk⟩
    have e26 : x26_5 = true := f1.2 ⟨by omega, L3⟩
    obtain ⟨f4, f5, f6, f7, f8⟩ := f2 e26
    subst f4 f7 f8
    clear f1 f2 f3
    have J0 : 0 ≤ ((i + 9223372036854775808) % 18446744073709551616 - 9223372036854775808).tmod (xs.length : Int) ∧ ((i + 9223372036854775808) % 18446744073709551616 - 9223372036854775808).tmod (xs.length : Int) < xs.length := by
      rw [Int.tmod_eq_emod_of_nonneg (by omega)]
      exact ⟨Int.emod_nonneg _ (by omega), Int.emod_lt_of_pos _ (by omega)⟩
    generalize ((i + 9223372036854775808) % 18446744073709551616 - 9223372036854775808).tmod (xs.length : Int) = J at *
    obtain ⟨j, rfl⟩ := Int.eq_ofNat_of_zero_le J0.1
    have hj : j < xs.length := by omega
    have hpj := L3 j hj
    have hkj := hk j
    have hnj := L4 j hj
    have hW := SW_le L3
    have hA := SA_near hk L3 L4
    have hr := SW_rest L3 j hj
    have dj := near_dist hpj hkj.2.1.1 hnj.1 hnj.2
    simp only [s64] at dj
    have hMR : MR x26_1 x26_2 (SW xs xs.length) xs.length := by right; omega
    rw [f6]
    generalize hAe : SA x26_0 xs xs.length = A at *
    generalize hWe : SW xs xs.length = Wt at *
    generalize hDe : Sy.rowAt xs j 2 * ((Sy.rowAt xs j 0 - x26_0 + 9223372036854775808) % 18446744073709551616 - 9223372036854775808) + Sy.rowAt xs j 1 = D at *
    have hy := by_le (z := x - Sy.rowAt xs j 2) hA.1 hA.2 (by omega) (by omega) (by omega)
    have hB1 := mul_le2 (a := A) (b := x - Sy.rowAt xs j 2) (X := 9223372036854775808) (Y := 1048576) (by omega) (by omega) (by omega) (by omega)
    have own := weigh_own (A := A) (W := Wt) (w := x) (v := Sy.rowAt xs j 2) (by omega) (by omega) (by omega)
    have hm := weigh_mean (A := A) (W := Wt) (w := x) (v := Sy.rowAt xs j 2) (by omega)
    have m0 := Int.emod_nonneg (A * (x - Sy.rowAt xs j 2)) (show Wt ≠ 0 by omega)
    have m1 := Int.emod_lt_of_pos (A * (x - Sy.rowAt xs j 2)) (show 0 < Wt by omega)
    refine ⟨fun _ => ⟨fun _ => ⟨fun ⟨g1, g2, g3⟩ => ?_, fun n => n ⟨f5, by omega, by omega, by omega, by omega, by omega, by omega⟩⟩, fun h => by omega⟩, fun h => by omega⟩
    generalize hYe : A * (x - Sy.rowAt xs j 2) / Wt = y at *
    have dz := Int.emod_add_ediv_mul (D + y) x
    have dz0 := Int.emod_nonneg (D + y) (show x ≠ 0 by omega)
    have dz1 := Int.emod_lt_of_pos (D + y) (show 0 < x by omega)
    have dq : -1152921504606846976 ≤ (D + y) / x ∧ (D + y) / x ≤ 1152921504606846976 := by
      constructor
      · apply Int.le_ediv_of_mul_le (by omega); omega
      · have : (D + y) / x < 1152921504606846977 := by apply Int.ediv_lt_of_lt_mul (by omega); omega
        omega
    have e45 : x45_3 = true := g1.2 ⟨hMR, by omega, hpj, ⟨c3, c4⟩, by omega, by omega, by omega, by omega⟩
    obtain ⟨q1, q2, q3, q4, q5⟩ := g2 e45
    subst q5
    clear g1 g2 g3
    have es : (x45_0 - x26_0 + 9223372036854775808) % 18446744073709551616 - 9223372036854775808 = (D + y) / x45_2 := by omega
    have eD : x45_2 * ((x45_0 - x26_0 + 9223372036854775808) % 18446744073709551616 - 9223372036854775808) + x45_1 = D + y := by
      rw [es, q2, Int.mul_comm]; omega
    rw [eD]
    refine ⟨fun ⟨k1, k2, k3, k4⟩ => ?_, fun n => n ⟨f5, by omega, by omega, by omega, by omega, by omega, by omega⟩⟩
    have e58 : x58_5 = true := by
      by_cases hn : xs.length = 1
      · refine k2 ⟨hMR, by omega, by omega, hpj, by omega, ?_, by omega⟩
        subst hAe hDe
        have e0 : j = 0 := by omega
        subst e0
        rw [hn]
        simp only [SA, rdist, s64]
        omega
      · exact k1 ⟨hMR, by omega, hpj, by omega, by omega, by omega, by omega, by omega⟩
    obtain ⟨r1, r2, r3, r4, r5, r6⟩ := k3 e58
    subst r1 r4 r5
    clear k1 k2 k3 k4
    have r3 : wv x58_1 x58_2 = A + y := by rw [r3]; omega
    rw [r3]
    refine ⟨fun h => absurd (e26.symm.trans h) (by simp), fun _ => ⟨fun h => absurd (e45.symm.trans h) (by simp), fun _ => ⟨fun h => absurd (e58.symm.trans h) (by simp), fun _ => ⟨fun ⟨l0, l1⟩ => ⟨fun c10 => ⟨fun _ => ?_, fun h => by omega⟩, fun c10 => ?_⟩, fun n => n ⟨trivial, by omega⟩⟩⟩⟩⟩
    · have ei : ∀ k : Nat, (k : Int) < xs.length → ((k : Int) + 1 + 9223372036854775808) % 18446744073709551616 - 9223372036854775808 = ((k + 1 : Nat) : Int) := fun k hk => by omega
      obtain ⟨k, rfl⟩ := Int.eq_ofNat_of_zero_le l0
      have hkl : k < xs.length := by omega
      rw [ei k (by omega)]
      have hpk := L3 k hkl
      have hkk := hk k
      have hnk := L4 k hkl
      have dk := near_dist hpk hkk.2.1.1 hnk.1 hnk.2
      simp only [s64] at dk
      have t1 := over_told (A := A) (W := Wt) (D := Sy.rowAt xs k 2 * ((Sy.rowAt xs k 0 - x58_0 + 9223372036854775808) % 18446744073709551616 - 9223372036854775808) + Sy.rowAt xs k 1) (w := Sy.rowAt xs k 2) (by omega) (by omega) (by omega) (by omega) (by omega) (by omega) (by omega) (by omega)
      have ends : (¬(0 ≤ ((k + 1 : Nat) : Int) ∧ ((k + 1 : Nat) : Int) ≤ (xs.length : Int)) → False) ∧ (¬((xs.length : Int) - ((k + 1 : Nat) : Int)).toNat < ((xs.length : Int) - (k : Int)).toNat → False) := ⟨fun n => n (by omega), fun n => n (by omega)⟩
      refine ⟨fun ekj => ?_, fun ekj => ?_⟩
      · have ekj : k = j := by omega
        subst ekj
        rw [hDe] at t1
        have t2 := over_told (A := A + y) (W := Wt - Sy.rowAt xs k 2 + x45_2) (D := D + y) (w := x45_2) (by omega) (by omega) (by omega) (by omega) (by omega) (by omega) (by omega) (by omega)
        refine ⟨fun ⟨a1, a2, a3, a4⟩ => ?_, fun n => n ⟨f5, by omega, by omega, by omega, by omega⟩⟩
        have a5 := a3 (a2.2 ⟨hMR, by omega, hpk, by rw [hDe]; exact ⟨t1.1, t1.2.1, t1.2.2.1⟩⟩)
        rw [hDe, t1.2.2.2] at a5
        refine ⟨fun ⟨b1, b2, b3, b4⟩ => ?_, fun n => n ⟨r2, by omega, by omega, by omega, by omega⟩⟩
        rw [eD] at b2 b3
        have b5 := b3 (b2.2 ⟨r6, by omega, by omega, t2.1, t2.2.1, t2.2.2.1⟩)
        rw [t2.2.2.2] at b5
        refine ⟨fun ⟨c1, c2, c3⟩ => ?_, fun n => n ⟨b1, a1⟩⟩
        have d1 : -9223372036854775808 ≤ wv x105_0 x105_1 - wv x96_0 x96_1 ∧ wv x105_0 x105_1 - wv x96_0 x96_1 < 9223372036854775808 := by rw [a5, b5]; omega
        have c5 : wv x114_0 x114_1 = wv x105_0 x105_1 - wv x96_0 x96_1 := by
          cases x114_2 with
          | true => exact (c2 rfl).1
          | false => exact absurd (show Big (wv x105_0 x105_1 - wv x96_0 x96_1) by omega) (c3 rfl).2.2
        refine ⟨fun ⟨d2, d3, d4⟩ => ?_, fun n => n c1⟩
        have e122 : x122_1 = true := by
          cases x122_1 with
          | true => rfl
          | false => exact absurd (show -9223372036854775808 ≤ wv x114_0 x114_1 ∧ wv x114_0 x114_1 < 9223372036854775808 by omega) (d4 rfl).2
        have d5 := d3 e122
        exact ⟨fun h => absurd (e122.symm.trans h) (by simp), fun _ => ⟨fun h => by omega, fun _ => ⟨fun h => by omega, fun _ => ends⟩⟩⟩
      · have hkj : k ≠ j := fun h => ekj (by omega)
        have u2 := hr.2.2 k hkl hkj
        have o1 := other_hi0 (u := Sy.rowAt xs k 2) (by omega) (by omega) hm m0 (by omega) (by omega)
        have o2 := other_lo1 (u := Sy.rowAt xs k 2) (by omega) (by omega) hm m0 (by omega) (by omega) (by omega) (by omega)
        have t2 := over_told (A := A + y) (W := Wt - Sy.rowAt xs j 2 + x45_2) (D := Sy.rowAt xs k 2 * ((Sy.rowAt xs k 0 - x58_0 + 9223372036854775808) % 18446744073709551616 - 9223372036854775808) + Sy.rowAt xs k 1) (w := Sy.rowAt xs k 2) (by omega) (by omega) (by omega) (by omega) (by omega) (by omega) (by omega) (by omega)
        generalize Sy.rowAt xs k 2 * ((Sy.rowAt xs k 0 - x58_0 + 9223372036854775808) % 18446744073709551616 - 9223372036854775808) + Sy.rowAt xs k 1 = Dk at *
        refine ⟨fun ⟨a1, a2, a3, a4⟩ => ?_, fun n => n ⟨f5, by omega, by omega, by omega, by omega⟩⟩
        have a5 := a3 (a2.2 ⟨hMR, by omega, hpk, t1.1, t1.2.1, t1.2.2.1⟩)
        rw [t1.2.2.2] at a5
        refine ⟨fun ⟨b1, b2, b3, b4⟩ => ?_, fun n => n ⟨r2, by omega, by omega, by omega, by omega⟩⟩
        have b5 := b3 (b2.2 ⟨r6, by omega, hpk, t2.1, t2.2.1, t2.2.2.1⟩)
        rw [t2.2.2.2] at b5
        refine ⟨fun ⟨c1, c2, c3⟩ => ?_, fun n => n ⟨b1, a1⟩⟩
        have d1 : -9223372036854775808 ≤ wv x103_0 x103_1 - wv x94_0 x94_1 ∧ wv x103_0 x103_1 - wv x94_0 x94_1 < 9223372036854775808 := by rw [a5, b5]; omega
        have c5 : wv x112_0 x112_1 = wv x103_0 x103_1 - wv x94_0 x94_1 := by
          cases x112_2 with
          | true => exact (c2 rfl).1
          | false => exact absurd (show Big (wv x103_0 x103_1 - wv x94_0 x94_1) by omega) (c3 rfl).2.2
        refine ⟨fun ⟨d2, d3, d4⟩ => ?_, fun n => n c1⟩
        have e120 : x120_1 = true := by
          cases x120_1 with
          | true => rfl
          | false => exact absurd (show -9223372036854775808 ≤ wv x112_0 x112_1 ∧ wv x112_0 x112_1 < 9223372036854775808 by omega) (d4 rfl).2
        have d5 := d3 e120
        exact ⟨fun h => absurd (e120.symm.trans h) (by simp), fun _ => ⟨fun h => by omega, fun _ => ⟨fun h => by omega, fun _ => ends⟩⟩⟩
    · have o1 := other_hi0 (u := 1) (by omega) (by omega) hm m0 (by omega) (by omega)
      have o2 := other_lo1 (u := 1) (by omega) (by omega) hm m0 (by omega) (by omega) (by omega) (by omega)
      rw [Int.mul_one, Int.mul_one] at o1 o2
      have g1 : -274877906944 ≤ A / Wt ∧ A / Wt ≤ 274877906944 := by
        constructor
        · apply Int.le_ediv_of_mul_le (by omega); omega
        · have : A / Wt < 274877906945 := by apply Int.ediv_lt_of_lt_mul (by omega); omega
          omega
      refine ⟨fun ⟨a1, a2, a3⟩ => ?_, fun n => n ⟨f5, by omega, by omega⟩⟩
      have a5 := a2 (a1.2 ⟨hMR, by omega, by omega⟩)
      refine ⟨fun ⟨b1, b2, b3⟩ => ?_, fun n => n ⟨r2, by omega, by omega⟩⟩
      have b5 := b2 (b1.2 ⟨r6, by omega, by omega⟩)
      intro h96
      exact ⟨fun _ h => by omega, fun h => by omega⟩
  · exact fun n => n ⟨by first | trivial | omega, by omega, fun j hj => absurd hj (by simp), fun j hj => absurd hj (by simp)⟩
end Go.Proofs.YtafhkgicekddlaaGreatDoor.Fn
