/- What is told of the functions, shown: turnstone/turnstoneref08.Of, turnstone/turnstoneref13.Mean, turnstone/turnstoneref01.Div, turnstone/turnstoneref01.Small, turnstone/turnstoneref04.Word, turnstone/turnstoneref08.Floor, turnstone/turnstoneref13.Anchor, turnstone/turnstonelaw04.Of, turnstone/turnstonelaw05.Of, turnstone/turnstonelaw13.items. -/
import Derived.Test.YthlcpdjpnbbaeaaGreatDoorFm3
namespace Go.Proofs.YthlcpdjpnbbaeaaGreatDoor.Fn
open Go Go.RowKit Go.Proofs.YthlcpdjpnbbaeaaGreatDoor.Sy
set_option linter.unusedVariables false
set_option linter.unusedSimpArgs false
set_option maxRecDepth 100000
def t109 : Tr :=
  .br (.f (.rel 110903 [.num (.v 0 0), .lst 0 1, .num (.v 0 0), .tru (.lt (.n 0) (.n 0)), .rows [], .num (.n 0), .num (.n 0), .num (.n 0)] 65545 [.int .u64, .bool, .list [.int .i64], .int .u64, .int .i64, .int .i64]) <|
   .br (.f (.is (.lt (.v 65545 5) (.len 0 1)) true) <|
    .br (.f (.is (.lt (.v 65545 5) (.n 0)) false) <|
     .br (.f (.rel 119 [.num (.v 65545 0), .tru (.v 65545 1), .lst 65545 2, .num (.v 65545 3), .num (.v 65545 4), .num (.at 0 1 (.v 65545 5) 0), .num (.at 0 1 (.v 65545 5) 1), .num (.at 0 1 (.v 65545 5) 2)] 65553 [.int .u64, .bool, .list [.int .i64], .int .u64, .int .i64, .bool]) <|
      .br (.f (.is (.v 65553 5) false) <|
       .ok [.num (.n 0), .tru (.lt (.n 0) (.n 0)), .rows [], .num (.n 0), .num (.n 0), .tru (.lt (.n 0) (.n 0))])
      (.f (.is (.v 65553 5) true) <|
       .br (.f (.nrel 110903 [.num (.v 0 0), .lst 0 1, .num (.v 0 0), .tru (.lt (.n 0) (.n 0)), .rows [], .num (.n 0), .num (.n 0), .num (.n 0)] [.num (.v 65553 0), .tru (.v 65553 1), .lst 65553 2, .num (.v 65553 3), .num (.v 65553 4), .num (.wrap .i64 (.bin .add (.v 65545 5) (.n 1)))]) <|
        .bad)
       (.f (.ndec 110903 [.num (.v 0 0), .lst 0 1, .num (.v 0 0), .tru (.lt (.n 0) (.n 0)), .rows [], .num (.n 0), .num (.n 0), .num (.n 0)] [.num (.v 65545 0), .tru (.v 65545 1), .lst 65545 2, .num (.v 65545 3), .num (.v 65545 4), .num (.v 65545 5)] [.num (.v 65553 0), .tru (.v 65553 1), .lst 65553 2, .num (.v 65553 3), .num (.v 65553 4), .num (.wrap .i64 (.bin .add (.v 65545 5) (.n 1)))]) <|
        .bad)))
     (.f (.npre 119 [.num (.v 65545 0), .tru (.v 65545 1), .lst 65545 2, .num (.v 65545 3), .num (.v 65545 4), .num (.at 0 1 (.v 65545 5) 0), .num (.at 0 1 (.v 65545 5) 1), .num (.at 0 1 (.v 65545 5) 2)]) <|
      .bad))
    (.f (.is (.lt (.v 65545 5) (.n 0)) true) <|
     .bad))
   (.f (.is (.lt (.v 65545 5) (.len 0 1)) false) <|
    .ok [.num (.v 65545 0), .tru (.v 65545 1), .lst 65545 2, .num (.v 65545 3), .num (.v 65545 4), .tru (.le (.n 0) (.n 0))]))
  (.f (.nrel 110903 [.num (.v 0 0), .lst 0 1, .num (.v 0 0), .tru (.lt (.n 0) (.n 0)), .rows [], .num (.n 0), .num (.n 0), .num (.n 0)] [.num (.v 0 0), .tru (.lt (.n 0) (.n 0)), .rows [], .num (.n 0), .num (.n 0), .num (.n 0)]) <|
   .bad)
theorem c109 : ConS Tryz.prog T C109 := con_tr (cs := [C119]) (lcs := [L110903]) (known := []) (cons_cons c119 (cons_nil _ _)) (Known.nil _) (N := 400) (d := 40) (t := t109) (by kernel_rfl) <| by
  intro E hl hp
  have hl1 := hl 1 _ rfl
  clear hl
  have hp := hp rfl
  simp only [C109, show T.pre 109 = Q109 from rfl, flatS, SP.flat, dvs, List.append_nil, List.cons_append, List.nil_append, Q109, U64, U32, I64, Big, W, wv, s64, WT, PR, MR, MB] at hp
  simp only [t109, C109, Tr.good, Fact.den, LX.den, DX.ls, DV.ls, DX.den, Bx.den, Ex.den, eo_add, eo_sub, eo_mul, eo_quo, eo_rem, eo_fdv, eo_mn, eo_mx, eo_land, eo_lor, eo_lxor, eo_landn, eo_shl, eo_shr, dvs, flatS, SP.flat, ST.flat, List.map_cons, List.map_nil, List.append_nil, List.cons_append, List.nil_append, ltb_t, ltb_f, leb_t, leb_f, eqb_t, eqb_f, decide_eq_true_eq, decide_eq_false_iff_not, Bool.not_eq_true', Bool.not_eq_false', Bool.and_eq_true, Bool.and_eq_false_imp, beq_iff_eq, beq_eq_false_iff_ne, bne_iff_ne, U64, U32, I64, Big, W, wv, Told, s64, WT, PR, MR, MB, Int.zero_mul, Int.zero_add, Int.add_zero, Int.mul_zero, IntKind.wrap_u64, IntKind.wrap_i64, IntKind.wrap_u32, ne_eq, forall_const, true_implies, show T.rel 109 = R109 from rfl, R109, show T.rel 119 = R119 from rfl, R119, show T.rel 110903 = R110903 from rfl, R110903, show T.mu 110903 = M110903 from rfl, M110903, show T.pre 109 = Q109 from rfl, Q109, show T.pre 119 = Q119 from rfl, Q119]
  revert hp hl1
  generalize (E.r 0).i 0 = base
  generalize (E.r 0).l 1 = xs
  generalize (E.r 65545).i 0 = x9_0
  generalize (E.r 65545).c 1 = x9_1
  generalize (E.r 65545).l 2 = x9_2
  generalize (E.r 65545).i 3 = x9_3
  generalize (E.r 65545).i 4 = x9_4
  generalize (E.r 65545).i 5 = x9_5
  generalize (E.r 65553).i 0 = x17_0
  generalize (E.r 65553).c 1 = x17_1
  generalize (E.r 65553).l 2 = x17_2
  generalize (E.r 65553).i 3 = x17_3
  generalize (E.r 65553).i 4 = x17_4
  generalize (E.r 65553).c 5 = x17_5
  try simp only [Bg]
  try generalize bval x9_1 x9_2 = y9_1
  try generalize bval x17_1 x17_2 = y17_1
  try simp only [mxI, mnI]
  try simp only [ltb, leb, eqb, Int.lt_irrefl, decide_false, Int.le_refl, decide_true]
  simp only [bval_nil]
  intro hl hp
  obtain ⟨hb, hk, hn⟩ := hp
  have B0 := BOK_nil
  refine ⟨fun ⟨l0, l1, l2, l3, l4, l5, l6, l7, l8⟩ => ?_, fun n => n ⟨trivial, by omega, by omega, trivial, B0, rfl, rfl, trivial, AP.nil _⟩⟩
  obtain ⟨k, rfl⟩ := Int.eq_ofNat_of_zero_le l0
  simp only [Int.toNat_natCast] at l5 l6 l8
  subst l3 l6 l7
  have sa := SA_le (b := x9_0) hk l8
  have sw := SW_le l8
  have kk := hk k
  have hm : Mq y9_1 (SW xs k) k := by
    simp only [Mq, MB]
    cases k with
    | zero => simp only [SA] at l5; exact Or.inl ⟨rfl, rfl, l5⟩
    | succ k => right; omega
  have hB : Big y9_1 := by rw [l5]; simp only [Big]; omega
  refine ⟨fun hlt => ⟨fun h0 => ⟨fun ⟨f0, f1, f2, f3⟩ => ?_, fun n => n ⟨l4, hB, by omega, by omega, by omega, by omega, kk⟩⟩, fun h => by omega⟩, fun hge => ?_⟩
  · have e : ((k : Int) + 1 + 9223372036854775808) % 18446744073709551616 - 9223372036854775808 = ((k + 1 : Nat) : Int) := by omega
    simp only [e, Int.toNat_natCast]
    have hS : AP xs (k + 1) ↔ AP xs k ∧ PR (Sy.rowAt xs k 1) (Sy.rowAt xs k 2) := AP.succ
    cases x17_5 with
    | true =>
      obtain ⟨g1, g2, g3, g4⟩ := f1.1 rfl
      obtain ⟨q1, q3, q4, q5⟩ := f2 rfl
      have e1 : SW xs (k + 1) = SW xs k + Sy.rowAt xs k 2 := rfl
      have e2 : SA x9_0 xs (k + 1) = SA x9_0 xs k + rdist x9_0 xs k := rfl
      simp only [reduceCtorEq, false_imp_iff, true_imp_iff, true_and]
      refine ⟨fun n => n ⟨by omega, by omega, by omega, q1, f0, ?_, by omega, by omega, hS.2 ⟨l8, g2⟩⟩, by omega⟩
      rw [q3, e2, l5]
    | false =>
      simp only [reduceCtorEq, false_imp_iff, true_imp_iff, true_and, and_true, false_iff]
      refine ⟨?_, B0⟩
      rintro ⟨a1, a2⟩
      have hp := a2 k (by omega)
      have d := rdist_le (b := x9_0) hk hp
      simp only [rdist, s64] at d
      have := f1.2 ⟨hm, hp, by omega, by simp only [Bi, Big]; omega⟩
      cases this
  · have ek : k = xs.length := by omega
    subst ek
    simp only [true_imp_iff, true_and, and_true, true_iff, false_imp_iff]
    exact ⟨⟨by omega, l8⟩, l5, l4⟩
end Go.Proofs.YthlcpdjpnbbaeaaGreatDoor.Fn
namespace Go.Proofs.YthlcpdjpnbbaeaaGreatDoor.Fn
open Go Go.RowKit Go.Proofs.YthlcpdjpnbbaeaaGreatDoor.Sy
set_option linter.unusedVariables false
set_option linter.unusedSimpArgs false
set_option maxRecDepth 100000
def t77 : Tr :=
  .br (.f (.rel 107703 [.lst 0 1, .rows [], .num (.n 0)] 65542 [.list [.int .u64, .int .u32, .int .u32], .int .i64]) <|
   .br (.f (.is (.lt (.v 65542 1) (.len 0 1)) false) <|
    .br (.f (.rel 109 [.num (.v 0 0), .lst 65542 0] 65546 [.int .u64, .bool, .list [.int .i64], .int .u64, .int .i64, .bool]) <|
     .ok [.num (.v 65546 0), .tru (.v 65546 1), .lst 65546 2, .num (.v 65546 3), .num (.v 65546 4), .tru (.v 65546 5)])
    (.f (.npre 109 [.num (.v 0 0), .lst 65542 0]) <|
     .bad))
   (.f (.is (.lt (.v 65542 1) (.len 0 1)) true) <|
    .br (.f (.is (.lt (.v 65542 1) (.n 0)) true) <|
     .bad)
    (.f (.is (.lt (.v 65542 1) (.n 0)) false) <|
     .br (.f (.is (.le (.len 65542 0) (.n 1000000000)) false) <|
      .bad)
     (.f (.is (.le (.len 65542 0) (.n 1000000000)) true) <|
      .f (.lseq 65552 (.app (.lst 65542 0) (.rows [[.at 0 1 (.v 65542 1) 0, .at 0 1 (.v 65542 1) 1, .at 0 1 (.v 65542 1) 2]]))) <|
       .br (.f (.nrel 107703 [.lst 0 1, .rows [], .num (.n 0)] [.lst 65552 0, .num (.wrap .i64 (.bin .add (.v 65542 1) (.n 1)))]) <|
        .bad)
       (.f (.ndec 107703 [.lst 0 1, .rows [], .num (.n 0)] [.lst 65542 0, .num (.v 65542 1)] [.lst 65552 0, .num (.wrap .i64 (.bin .add (.v 65542 1) (.n 1)))]) <|
        .bad)))))
  (.f (.nrel 107703 [.lst 0 1, .rows [], .num (.n 0)] [.rows [], .num (.n 0)]) <|
   .bad)
theorem c77 : ConS Tryz.prog T C77 := con_tr (cs := [C109]) (lcs := [L107703]) (known := []) (cons_cons c109 (cons_nil _ _)) (Known.nil _) (N := 400) (d := 40) (t := t77) (by kernel_rfl) <| by
  intro E hl hp
  have hl1 := hl 1 _ rfl
  clear hl
  have hp := hp rfl
  simp only [C77, show T.pre 77 = Q77 from rfl, flatS, SP.flat, dvs, List.append_nil, List.cons_append, List.nil_append, Q77, U64, U32, I64, Big, W, wv, s64, WT, PR, MR, MB] at hp
  simp only [t77, C77, Tr.good, Fact.den, LX.den, DX.ls, DV.ls, DX.den, Bx.den, Ex.den, eo_add, eo_sub, eo_mul, eo_quo, eo_rem, eo_fdv, eo_mn, eo_mx, eo_land, eo_lor, eo_lxor, eo_landn, eo_shl, eo_shr, dvs, flatS, SP.flat, ST.flat, List.map_cons, List.map_nil, List.append_nil, List.cons_append, List.nil_append, ltb_t, ltb_f, leb_t, leb_f, eqb_t, eqb_f, decide_eq_true_eq, decide_eq_false_iff_not, Bool.not_eq_true', Bool.not_eq_false', Bool.and_eq_true, Bool.and_eq_false_imp, beq_iff_eq, beq_eq_false_iff_ne, bne_iff_ne, U64, U32, I64, Big, W, wv, Told, s64, WT, PR, MR, MB, Int.zero_mul, Int.zero_add, Int.add_zero, Int.mul_zero, IntKind.wrap_u64, IntKind.wrap_i64, IntKind.wrap_u32, ne_eq, forall_const, true_implies, show T.rel 77 = R77 from rfl, R77, show T.rel 109 = R109 from rfl, R109, show T.rel 107703 = R107703 from rfl, R107703, show T.mu 107703 = M107703 from rfl, M107703, show T.pre 77 = Q77 from rfl, Q77, show T.pre 109 = Q109 from rfl, Q109]
  revert hp hl1
  generalize (E.r 0).i 0 = base
  generalize (E.r 0).l 1 = xs
  generalize (E.r 65542).l 0 = x6_0
  generalize (E.r 65542).i 1 = x6_1
  generalize (E.r 65546).i 0 = x10_0
  generalize (E.r 65546).c 1 = x10_1
  generalize (E.r 65546).l 2 = x10_2
  generalize (E.r 65546).i 3 = x10_3
  generalize (E.r 65546).i 4 = x10_4
  generalize (E.r 65546).c 5 = x10_5
  generalize (E.r 65552).l 0 = x16_0
  try simp only [mxI, mnI]
  try simp only [ltb, leb, eqb, Int.lt_irrefl, decide_false, Int.le_refl, decide_true]
  intro hl hp
  obtain ⟨hb, hk, hn⟩ := hp
  refine ⟨fun ⟨i0, i1, i2, i3⟩ => ?_, fun n => n ⟨trivial, by omega, rfl, PQ.nil _⟩⟩
  obtain ⟨k, rfl⟩ := Int.eq_ofNat_of_zero_le i0
  have ew : ((k : Int) + 1 + 9223372036854775808) % 18446744073709551616 - 9223372036854775808 = ((k + 1 : Nat) : Int) := by omega
  simp only [ew]
  have l0 : x6_0.length = k := by omega
  refine ⟨fun c => ?_, fun c => ⟨by omega, fun _ => ⟨by omega, fun _ e => ?_⟩⟩⟩
  · have e1 : x6_0.length = xs.length := by omega
    have s := PQ.sa (b := base) i3 (k := x6_0.length) (Nat.le_refl _)
    have ap := PQ.ap i3 (k := x6_0.length) (Nat.le_refl _)
    rw [s.1, s.2, ap, e1]
    exact ⟨fun h => h, fun n => n ⟨hb, PQ.rk i3 hk.rk, by omega⟩⟩
  · subst e
    exact ⟨fun n => n ⟨by omega, by omega, by simp [l0], PQ.snoc i3 l0 (fun c hc => by rcases (show c = 0 ∨ c = 1 ∨ c = 2 by omega) with rfl | rfl | rfl <;> rfl)⟩, by omega⟩
end Go.Proofs.YthlcpdjpnbbaeaaGreatDoor.Fn
namespace Go.Proofs.YthlcpdjpnbbaeaaGreatDoor.Fn
open Go Go.RowKit Go.Proofs.YthlcpdjpnbbaeaaGreatDoor.Sy
set_option linter.unusedVariables false
set_option linter.unusedSimpArgs false
set_option maxRecDepth 100000
def t62 : Tr :=
  .br (.f (.is (.lt (.len 0 1) (.n 0)) false) <|
   .br (.f (.is (.le (.len 0 1) (.n 1000000000)) true) <|
    .f (.lseq 65542 (.rep (.len 0 1) [0])) <|
     .br (.f (.rel 106204 [.lst 0 1, .num (.v 0 2), .lst 65542 0, .num (.n 0), .num (.wrap .i64 (.bin .sub (.len 0 1) (.n 1)))] 65550 [.list [.int .i64], .int .i64, .int .i64]) <|
      .br (.f (.is (.le (.n 0) (.v 65550 2)) false) <|
       .br (.f (.rel 88 [.tru (.lt (.n 0) (.n 0)), .lst 65550 0] 65555 [.bool, .list [.int .i64]]) <|
        .br (.f (.is (.v 0 0) false) <|
         .ok [.tru (.v 65555 0), .lst 65555 1, .num (.v 65550 1)])
        (.f (.is (.v 0 0) true) <|
         .br (.f (.is (.lt (.n 0) (.v 65550 1)) true) <|
          .br (.f (.rel 61 [.num (.n 1)] 65564 [.bool, .list [.int .i64]]) <|
           .br (.f (.rel 73 [.tru (.v 65555 0), .lst 65555 1, .tru (.v 65564 0), .lst 65564 1] 65565 [.bool, .list [.int .i64]]) <|
            .br (.f (.rel 70 [.tru (.v 65565 0), .lst 65565 1] 65572 [.bool, .list [.int .i64]]) <|
             .ok [.tru (.v 65572 0), .lst 65572 1, .num (.wrap .i64 (.bin .sub (.v 0 2) (.v 65550 1)))])
            (.f (.npre 70 [.tru (.v 65565 0), .lst 65565 1]) <|
             .bad))
           (.f (.npre 73 [.tru (.v 65555 0), .lst 65555 1, .tru (.v 65564 0), .lst 65564 1]) <|
            .bad))
          (.f (.npre 61 [.num (.n 1)]) <|
           .bad))
         (.f (.is (.lt (.n 0) (.v 65550 1)) false) <|
          .br (.f (.rel 70 [.tru (.v 65555 0), .lst 65555 1] 65564 [.bool, .list [.int .i64]]) <|
           .ok [.tru (.v 65564 0), .lst 65564 1, .num (.v 65550 1)])
          (.f (.npre 70 [.tru (.v 65555 0), .lst 65555 1]) <|
           .bad))))
       (.f (.npre 88 [.tru (.lt (.n 0) (.n 0)), .lst 65550 0]) <|
        .bad))
      (.f (.is (.le (.n 0) (.v 65550 2)) true) <|
       .br (.f (.is (.lt (.v 65550 2) (.n 0)) true) <|
        .bad)
       (.f (.is (.lt (.v 65550 2) (.n 0)) false) <|
        .br (.f (.is (.lt (.v 65550 2) (.len 0 1)) false) <|
         .bad)
        (.f (.is (.lt (.v 65550 2) (.len 0 1)) true) <|
         .f (.is (.eq (.v 65562 0) (.wrap .i64 (.bin .add (.wrap .i64 (.bin .mul (.v 65550 1) (.n 10000))) (.at 0 1 (.v 65550 2) 0)))) true) <|
          .br (.f (.is (.eq (.v 0 2) (.n 0)) true) <|
           .bad)
          (.f (.is (.eq (.v 0 2) (.n 0)) false) <|
           .br (.f (.is (.lt (.v 65550 2) (.len 65550 0)) false) <|
            .bad)
           (.f (.is (.lt (.v 65550 2) (.len 65550 0)) true) <|
            .f (.lseq 65569 (.set (.lst 65550 0) (.v 65550 2) 0 [.wrap .i64 (.bin .quo (.v 65562 0) (.v 0 2))])) <|
             .br (.f (.nrel 106204 [.lst 0 1, .num (.v 0 2), .lst 65542 0, .num (.n 0), .num (.wrap .i64 (.bin .sub (.len 0 1) (.n 1)))] [.lst 65569 0, .num (.bin .rem (.v 65562 0) (.v 0 2)), .num (.wrap .i64 (.bin .sub (.v 65550 2) (.n 1)))]) <|
              .bad)
             (.f (.ndec 106204 [.lst 0 1, .num (.v 0 2), .lst 65542 0, .num (.n 0), .num (.wrap .i64 (.bin .sub (.len 0 1) (.n 1)))] [.lst 65550 0, .num (.v 65550 1), .num (.v 65550 2)] [.lst 65569 0, .num (.bin .rem (.v 65562 0) (.v 0 2)), .num (.wrap .i64 (.bin .sub (.v 65550 2) (.n 1)))]) <|
              .bad)))))))
     (.f (.nrel 106204 [.lst 0 1, .num (.v 0 2), .lst 65542 0, .num (.n 0), .num (.wrap .i64 (.bin .sub (.len 0 1) (.n 1)))] [.lst 65542 0, .num (.n 0), .num (.wrap .i64 (.bin .sub (.len 0 1) (.n 1)))]) <|
      .bad))
   (.f (.is (.le (.len 0 1) (.n 1000000000)) false) <|
    .bad))
  (.f (.is (.lt (.len 0 1) (.n 0)) true) <|
   .bad)
theorem c62 : ConS Tryz.prog T C62 := con_tr (cs := [C61, C70, C73, C88]) (lcs := [L106204]) (known := []) (cons_cons c61 (cons_cons c70 (cons_cons c73 (cons_cons c88 (cons_nil _ _))))) (Known.nil _) (N := 400) (d := 40) (t := t62) (by kernel_rfl) <| by
  intro E hl hp
  have hl1 := hl 1 _ rfl
  clear hl
  have hp := hp rfl
  simp only [C62, show T.pre 62 = Q62 from rfl, flatS, SP.flat, dvs, List.append_nil, List.cons_append, List.nil_append, Q62, U64, U32, I64, Big, W, wv, s64, WT, PR, MR, MB] at hp
  simp only [t62, C62, Tr.good, Fact.den, LX.den, DX.ls, DV.ls, DX.den, Bx.den, Ex.den, eo_add, eo_sub, eo_mul, eo_quo, eo_rem, eo_fdv, eo_mn, eo_mx, eo_land, eo_lor, eo_lxor, eo_landn, eo_shl, eo_shr, dvs, flatS, SP.flat, ST.flat, List.map_cons, List.map_nil, List.append_nil, List.cons_append, List.nil_append, ltb_t, ltb_f, leb_t, leb_f, eqb_t, eqb_f, decide_eq_true_eq, decide_eq_false_iff_not, Bool.not_eq_true', Bool.not_eq_false', Bool.and_eq_true, Bool.and_eq_false_imp, beq_iff_eq, beq_eq_false_iff_ne, bne_iff_ne, U64, U32, I64, Big, W, wv, Told, s64, WT, PR, MR, MB, Int.zero_mul, Int.zero_add, Int.add_zero, Int.mul_zero, IntKind.wrap_u64, IntKind.wrap_i64, IntKind.wrap_u32, ne_eq, forall_const, true_implies, show T.rel 61 = R61 from rfl, R61, show T.rel 62 = R62 from rfl, R62, show T.rel 70 = R70 from rfl, R70, show T.rel 73 = R73 from rfl, R73, show T.rel 88 = R88 from rfl, R88, show T.rel 106204 = R106204 from rfl, R106204, show T.mu 106204 = M106204 from rfl, M106204, show T.pre 61 = Q61 from rfl, Q61, show T.pre 62 = Q62 from rfl, Q62, show T.pre 70 = Q70 from rfl, Q70, show T.pre 73 = Q73 from rfl, Q73, show T.pre 88 = Q88 from rfl, Q88]
  revert hp hl1
  generalize (E.r 0).c 0 = an
  generalize (E.r 0).l 1 = al
  generalize (E.r 0).i 2 = b
  generalize (E.r 65542).l 0 = x6_0
  generalize (E.r 65550).l 0 = x14_0
  generalize (E.r 65550).i 1 = x14_1
  generalize (E.r 65550).i 2 = x14_2
  generalize (E.r 65555).c 0 = x19_0
  generalize (E.r 65555).l 1 = x19_1
  generalize (E.r 65562).i 0 = x26_0
  generalize (E.r 65564).c 0 = x28_0
  generalize (E.r 65564).l 1 = x28_1
  generalize (E.r 65565).c 0 = x29_0
  generalize (E.r 65565).l 1 = x29_1
  generalize (E.r 65569).l 0 = x33_0
  generalize (E.r 65572).c 0 = x36_0
  generalize (E.r 65572).l 1 = x36_1
  try simp only [mxI, mnI]
  try simp only [ltb, leb, eqb, Int.lt_irrefl, decide_false, Int.le_refl, decide_true]
  intro hl hp
  have la := Bg.len hp.1
  have da := hp.1.1.1
  obtain ⟨ha, b0, b1⟩ := hp
  have v1 := bval_abs (n := an) da
  have an0 := dval_nonneg da
  refine ⟨fun _ => ⟨fun _ y0 => ⟨fun ⟨i0, i1, i2, i3, i4, i5, i6, i7⟩ => ⟨fun c => ?_, fun c => ?_⟩, ?_⟩, by omega⟩, by omega⟩
  · -- all digits are told
    have e0 : (x14_2 + 1).toNat = 0 := by omega
    rw [e0, List.drop_zero] at i7
    simp only [P4, Int.one_mul] at i7
    have hq := div_at b0 i7.symm i4 i5
    have qn := dval_nonneg i3
    have qb := Int.mul_le_mul_of_nonneg_left (show 1 ≤ b by omega) qn
    have sm : dval al < 1000000000000000000000000000000000000000000000000000000000000000000000000000000000000000000000000 := by
      have h1 := ha.2.1
      have h2 := ha.2.2
      cases an
      · have := v1.2 rfl; omega
      · have := v1.1 rfl; omega
    refine ⟨fun e1 => ?_, fun n => n ⟨i3, by omega⟩⟩
    have ev : bval x19_0 x19_1 = dval x14_0 := e1.2
    refine ⟨fun h => ?_, fun h => ⟨fun h2 => ⟨fun e2 => ⟨fun e3 => ⟨fun e4 => ?_, fun n => n ⟨e3.1, by rw [e3.2, ev, e2.2]; omega, by rw [e3.2, ev, e2.2]; omega⟩⟩, fun n => n ⟨⟨e1.1, by rw [ev]; omega, by rw [ev]; omega⟩, e2.1, by rw [e2.2]; omega, by rw [e2.2]; omega⟩⟩, by omega⟩, fun h2 => ⟨fun e2 => ?_, fun n => n ⟨e1.1, by rw [ev]; omega, by rw [ev]; omega⟩⟩⟩⟩
    · rw [ev, v1.2 h, hq.1, hq.2]
      exact ⟨e1.1, rfl, rfl⟩
    · have dn := div_neg (v := bval an al) (m := dval al) b0 (v1.1 h)
      rw [hq.1, hq.2] at dn
      have := dn.2 (by omega)
      rw [this.1, this.2, e4.2, e3.2, ev, e2.2]
      exact ⟨e4.1, by omega, by omega⟩
    · have dn := div_neg (v := bval an al) (m := dval al) b0 (v1.1 h)
      rw [hq.1, hq.2] at dn
      have := dn.1 (by omega)
      rw [this.1, this.2, e2.2, ev]
      exact ⟨e2.1, rfl, by omega⟩
  · obtain ⟨k, rfl⟩ := Int.eq_ofNat_of_zero_le c
    have ew : ((k : Int) - 1 + 9223372036854775808) % 18446744073709551616 - 9223372036854775808 = (k : Int) - 1 := by omega
    have ek : ((k : Int) + 1).toNat = k + 1 := by omega
    have ek2 : ((k : Int) - 1 + 1).toNat = k := by omega
    simp only [ew, ek, ek2] at *
    have dk := da k
    have e1 : ((x14_1 * 10000 + 9223372036854775808) % 18446744073709551616 - 9223372036854775808 + Sy.rowAt al k 0 + 9223372036854775808) % 18446744073709551616 - 9223372036854775808 = x14_1 * 10000 + Sy.rowAt al k 0 := by omega
    rw [e1]
    refine ⟨by omega, fun _ => ⟨by omega, fun _ s => ⟨by omega, fun _ => ⟨by omega, fun _ y => ?_⟩⟩⟩⟩
    have s0 : 0 ≤ x26_0 := by omega
    rw [Int.tdiv_eq_ediv_of_nonneg s0] at y
    rw [Int.tmod_eq_emod_of_nonneg s0]
    have q0 := Int.ediv_nonneg s0 (show 0 ≤ b by omega)
    have q1 : x26_0 / b < 10000 := by apply Int.ediv_lt_of_lt_mul b0; omega
    have r0 := Int.emod_nonneg x26_0 (show b ≠ 0 by omega)
    have r1 := Int.emod_lt_of_pos x26_0 b0
    have em := Int.emod_add_ediv_mul x26_0 b
    have eq : (x26_0 / b + 9223372036854775808) % 18446744073709551616 - 9223372036854775808 = x26_0 / b := by omega
    rw [eq] at y
    subst y
    refine ⟨fun n => n ⟨by omega, by omega, by rw [rowSet_len]; exact i2, dig_set i3 (by omega) (by omega) q0 q1, r0, r1, fun j hj => ?_, ?_⟩, by omega⟩
    · rw [rowAt_set (by omega) (by omega), if_neg (by omega)]
      exact i6 j (by omega)
    · rw [dval_set (by omega), i6 k (Int.le_refl _), dval_drop al k]
      simp only [P4] at i7
      generalize x26_0 / b = q at *
      generalize x26_0 % b = r at *
      subst s
      grind
  · intro n
    subst y0
    rw [Int.toNat_natCast] at n
    apply n
    have ew : ((al.length : Int) - 1 + 9223372036854775808) % 18446744073709551616 - 9223372036854775808 = (al.length : Int) - 1 := by omega
    rw [ew, show ((al.length : Int) - 1 + 1).toNat = al.length by omega, List.drop_length, dval_rep]
    exact ⟨by omega, by omega, List.length_replicate, dig_rep _, trivial, b0, fun j _ => rowAt_rep _ j, by simp [dval]⟩
end Go.Proofs.YthlcpdjpnbbaeaaGreatDoor.Fn
namespace Go.Proofs.YthlcpdjpnbbaeaaGreatDoor.Fn
open Go Go.RowKit Go.Proofs.YthlcpdjpnbbaeaaGreatDoor.Sy
set_option linter.unusedVariables false
set_option linter.unusedSimpArgs false
set_option maxRecDepth 100000
def t101 : Tr :=
  .br (.f (.rel 81 [.num (.n 63)] 65538 [.bool, .list [.int .i64]]) <|
   .br (.f (.rel 37 [.tru (.v 0 0), .lst 0 1, .tru (.v 65538 0), .lst 65538 1] 65543 [.int .i64]) <|
    .br (.f (.is (.lt (.v 65543 0) (.n 0)) true) <|
     .br (.f (.rel 70 [.tru (.v 65538 0), .lst 65538 1] 65548 [.bool, .list [.int .i64]]) <|
      .br (.f (.rel 37 [.tru (.v 0 0), .lst 0 1, .tru (.v 65548 0), .lst 65548 1] 65549 [.int .i64]) <|
       .ok [.tru (.le (.n 0) (.v 65549 0))])
      (.f (.npre 37 [.tru (.v 0 0), .lst 0 1, .tru (.v 65548 0), .lst 65548 1]) <|
       .bad))
     (.f (.npre 70 [.tru (.v 65538 0), .lst 65538 1]) <|
      .bad))
    (.f (.is (.lt (.v 65543 0) (.n 0)) false) <|
     .ok [.tru (.lt (.n 0) (.n 0))]))
   (.f (.npre 37 [.tru (.v 0 0), .lst 0 1, .tru (.v 65538 0), .lst 65538 1]) <|
    .bad))
  (.f (.npre 81 [.num (.n 63)]) <|
   .bad)
theorem c101 : ConS Tryz.prog T C101 := con_tr (cs := [C37, C70, C81]) (lcs := []) (known := []) (cons_cons c37 (cons_cons c70 (cons_cons c81 (cons_nil _ _)))) (Known.nil _) (N := 400) (d := 40) (t := t101) (by kernel_rfl) <| by
  intro E hl hp
  have hl1 := hl 1 _ rfl
  clear hl
  have hp := hp rfl
  simp only [C101, show T.pre 101 = Q101 from rfl, flatS, SP.flat, dvs, List.append_nil, List.cons_append, List.nil_append, Q101, U64, U32, I64, Big, W, wv, s64, WT, PR, MR, MB] at hp
  simp only [t101, C101, Tr.good, Fact.den, LX.den, DX.ls, DV.ls, DX.den, Bx.den, Ex.den, eo_add, eo_sub, eo_mul, eo_quo, eo_rem, eo_fdv, eo_mn, eo_mx, eo_land, eo_lor, eo_lxor, eo_landn, eo_shl, eo_shr, dvs, flatS, SP.flat, ST.flat, List.map_cons, List.map_nil, List.append_nil, List.cons_append, List.nil_append, ltb_t, ltb_f, leb_t, leb_f, eqb_t, eqb_f, decide_eq_true_eq, decide_eq_false_iff_not, Bool.not_eq_true', Bool.not_eq_false', Bool.and_eq_true, Bool.and_eq_false_imp, beq_iff_eq, beq_eq_false_iff_ne, bne_iff_ne, U64, U32, I64, Big, W, wv, Told, s64, WT, PR, MR, MB, Int.zero_mul, Int.zero_add, Int.add_zero, Int.mul_zero, IntKind.wrap_u64, IntKind.wrap_i64, IntKind.wrap_u32, ne_eq, forall_const, true_implies, show T.rel 37 = R37 from rfl, R37, show T.rel 70 = R70 from rfl, R70, show T.rel 81 = R81 from rfl, R81, show T.rel 101 = R101 from rfl, R101, show T.pre 37 = Q37 from rfl, Q37, show T.pre 70 = Q70 from rfl, Q70, show T.pre 81 = Q81 from rfl, Q81, show T.pre 101 = Q101 from rfl, Q101]
  revert hp hl1
  generalize (E.r 0).c 0 = n
  generalize (E.r 0).l 1 = l
  generalize (E.r 65538).c 0 = x2_0
  generalize (E.r 65538).l 1 = x2_1
  generalize (E.r 65543).i 0 = x7_0
  generalize (E.r 65548).c 0 = x12_0
  generalize (E.r 65548).l 1 = x12_1
  generalize (E.r 65549).i 0 = x13_0
  try simp only [mxI, mnI]
  try simp only [ltb, leb, eqb, Int.lt_irrefl, decide_false, Int.le_refl, decide_true]
  intro hl hp
  rw [p2_63]
  refine ⟨fun e1 => ⟨fun e2 => ⟨fun c => ⟨fun e3 => ⟨fun e4 => ?_, fun n => n ⟨hp, e3.1, by omega, by omega⟩⟩, fun n => n ⟨e1.1, by omega, by omega⟩⟩, fun c => ?_⟩, fun n => n ⟨hp, e1.1, by omega, by omega⟩⟩, by omega⟩
  · omega
  · refine ⟨fun h => h.elim, fun h => ?_⟩
    omega
end Go.Proofs.YthlcpdjpnbbaeaaGreatDoor.Fn
namespace Go.Proofs.YthlcpdjpnbbaeaaGreatDoor.Fn
open Go Go.RowKit Go.Proofs.YthlcpdjpnbbaeaaGreatDoor.Sy
set_option linter.unusedVariables false
set_option linter.unusedSimpArgs false
set_option maxRecDepth 100000
def t102 : Tr :=
  .br (.f (.rel 110203 [.lst 0 1, .num (.n 0), .num (.wrap .i64 (.bin .sub (.len 0 1) (.n 1)))] 65544 [.int .u64, .int .i64]) <|
   .br (.f (.is (.le (.n 0) (.v 65544 1)) false) <|
    .ok [.num (.v 65544 0)])
   (.f (.is (.le (.n 0) (.v 65544 1)) true) <|
    .br (.f (.is (.lt (.v 65544 1) (.n 0)) true) <|
     .bad)
    (.f (.is (.lt (.v 65544 1) (.n 0)) false) <|
     .br (.f (.is (.lt (.v 65544 1) (.len 0 1)) false) <|
      .bad)
     (.f (.is (.lt (.v 65544 1) (.len 0 1)) true) <|
      .f (.is (.eq (.v 65557 0) (.wrap .u64 (.bin .add (.wrap .u64 (.bin .mul (.n 10000) (.v 65544 0))) (.wrap .u64 (.at 0 1 (.v 65544 1) 0))))) true) <|
       .br (.f (.nrel 110203 [.lst 0 1, .num (.n 0), .num (.wrap .i64 (.bin .sub (.len 0 1) (.n 1)))] [.num (.v 65557 0), .num (.wrap .i64 (.bin .sub (.v 65544 1) (.n 1)))]) <|
        .bad)
       (.f (.ndec 110203 [.lst 0 1, .num (.n 0), .num (.wrap .i64 (.bin .sub (.len 0 1) (.n 1)))] [.num (.v 65544 0), .num (.v 65544 1)] [.num (.v 65557 0), .num (.wrap .i64 (.bin .sub (.v 65544 1) (.n 1)))]) <|
        .bad)))))
  (.f (.nrel 110203 [.lst 0 1, .num (.n 0), .num (.wrap .i64 (.bin .sub (.len 0 1) (.n 1)))] [.num (.n 0), .num (.wrap .i64 (.bin .sub (.len 0 1) (.n 1)))]) <|
   .bad)
theorem c102 : ConS Tryz.prog T C102 := con_tr (cs := []) (lcs := [L110203]) (known := []) (cons_nil _ _) (Known.nil _) (N := 400) (d := 40) (t := t102) (by kernel_rfl) <| by
  intro E hl hp
  have hl1 := hl 1 _ rfl
  clear hl
  have hp := hp rfl
  simp only [C102, show T.pre 102 = Q102 from rfl, flatS, SP.flat, dvs, List.append_nil, List.cons_append, List.nil_append, Q102, U64, U32, I64, Big, W, wv, s64, WT, PR, MR, MB] at hp
  simp only [t102, C102, Tr.good, Fact.den, LX.den, DX.ls, DV.ls, DX.den, Bx.den, Ex.den, eo_add, eo_sub, eo_mul, eo_quo, eo_rem, eo_fdv, eo_mn, eo_mx, eo_land, eo_lor, eo_lxor, eo_landn, eo_shl, eo_shr, dvs, flatS, SP.flat, ST.flat, List.map_cons, List.map_nil, List.append_nil, List.cons_append, List.nil_append, ltb_t, ltb_f, leb_t, leb_f, eqb_t, eqb_f, decide_eq_true_eq, decide_eq_false_iff_not, Bool.not_eq_true', Bool.not_eq_false', Bool.and_eq_true, Bool.and_eq_false_imp, beq_iff_eq, beq_eq_false_iff_ne, bne_iff_ne, U64, U32, I64, Big, W, wv, Told, s64, WT, PR, MR, MB, Int.zero_mul, Int.zero_add, Int.add_zero, Int.mul_zero, IntKind.wrap_u64, IntKind.wrap_i64, IntKind.wrap_u32, ne_eq, forall_const, true_implies, show T.rel 102 = R102 from rfl, R102, show T.rel 110203 = R110203 from rfl, R110203, show T.mu 110203 = M110203 from rfl, M110203, show T.pre 102 = Q102 from rfl, Q102]
  revert hp hl1
  generalize (E.r 0).c 0 = n
  generalize (E.r 0).l 1 = l
  generalize (E.r 65544).i 0 = x8_0
  generalize (E.r 65544).i 1 = x8_1
  generalize (E.r 65557).i 0 = x21_0
  try simp only [mxI, mnI]
  try simp only [ltb, leb, eqb, Int.lt_irrefl, decide_false, Int.le_refl, decide_true]
  intro hl hp
  have hB : Bg n l := ⟨hp.1, by omega, by omega⟩
  have la := Bg.len hB
  have da := hp.1.d
  have v := bval_abs (n := n) da
  have dn := dval_nonneg da
  have ev : dval l = bval n l := by
    cases n
    · exact (v.2 rfl).symm
    · have := v.1 rfl
      omega
  refine ⟨fun ⟨i0, i1, i2⟩ => ⟨fun c => ?_, fun c => ⟨by omega, fun _ => ⟨by omega, fun _ e => ?_⟩⟩⟩, fun n => n ⟨by omega, by omega, ?_⟩⟩
  · have e0 : (x8_1 + 1).toNat = 0 := by omega
    rw [i2, e0, List.drop_zero, ev]
  · obtain ⟨k, rfl⟩ := Int.eq_ofNat_of_zero_le c
    have ew : ((k : Int) - 1 + 9223372036854775808) % 18446744073709551616 - 9223372036854775808 = (k : Int) - 1 := by omega
    have ek : ((k : Int) + 1).toNat = k + 1 := by omega
    have ek2 : ((k : Int) - 1 + 1).toNat = k := by omega
    simp only [ew, ek, ek2] at *
    have dk := dval_drop l k
    have le := dval_drop_le da (k := k) (by omega)
    have dd := da k
    have dz := dval_nonneg (dig_drop da (k + 1))
    refine ⟨fun n => n ⟨by omega, by omega, ?_⟩, by omega⟩
    rw [e, i2, dk]
    omega
  · have ew : ((l.length : Int) - 1 + 9223372036854775808) % 18446744073709551616 - 9223372036854775808 = (l.length : Int) - 1 := by omega
    rw [ew, show ((l.length : Int) - 1 + 1).toNat = l.length by omega, List.drop_length]
    rfl
end Go.Proofs.YthlcpdjpnbbaeaaGreatDoor.Fn
namespace Go.Proofs.YthlcpdjpnbbaeaaGreatDoor.Fn
open Go Go.RowKit Go.Proofs.YthlcpdjpnbbaeaaGreatDoor.Sy
set_option linter.unusedVariables false
set_option linter.unusedSimpArgs false
set_option maxRecDepth 100000
def t78 : Tr :=
  .br (.f (.rel 47 [.num (.v 0 0), .tru (.v 0 1), .lst 0 2, .num (.v 0 3), .num (.v 0 4)] 65540 [.bool]) <|
   .br (.f (.is (.v 65540 0) false) <|
    .ok [.num (.n 0), .tru (.lt (.n 0) (.n 0))])
   (.f (.is (.v 65540 0) true) <|
    .br (.f (.is (.eq (.v 0 4) (.n 0)) true) <|
     .ok [.num (.n 0), .tru (.lt (.n 0) (.n 0))])
    (.f (.is (.eq (.v 0 4) (.n 0)) false) <|
     .br (.f (.rel 62 [.tru (.v 0 1), .lst 0 2, .num (.wrap .i64 (.v 0 3))] 65552 [.bool, .list [.int .i64], .int .i64]) <|
      .br (.f (.rel 101 [.tru (.v 65552 0), .lst 65552 1] 65560 [.bool]) <|
       .br (.f (.is (.v 65560 0) false) <|
        .ok [.num (.n 0), .tru (.lt (.n 0) (.n 0))])
       (.f (.is (.v 65560 0) true) <|
        .br (.f (.rel 38 [.num (.v 0 0)] 65564 [.bool, .list [.int .i64]]) <|
         .br (.f (.rel 73 [.tru (.v 65564 0), .lst 65564 1, .tru (.v 65552 0), .lst 65552 1] 65566 [.bool, .list [.int .i64]]) <|
          .br (.f (.rel 81 [.num (.n 64)] 4296998914 [.bool, .list [.int .i64]]) <|
           .br (.f (.rel 110302 [.tru (.v 65566 0), .lst 65566 1] 4296998917 [.bool, .list [.int .i64]]) <|
            .br (.f (.rel 13 [.tru (.v 4296998917 0), .lst 4296998917 1] 4296998919 [.int .i64]) <|
             .br (.f (.is (.lt (.v 4296998919 0) (.n 0)) false) <|
              .br (.f (.rel 110304 [.tru (.v 4296998917 0), .lst 4296998917 1] 4296998921 [.bool, .list [.int .i64]]) <|
               .br (.f (.rel 37 [.tru (.v 4296998921 0), .lst 4296998921 1, .tru (.v 4296998914 0), .lst 4296998914 1] 4296998924 [.int .i64]) <|
                .br (.f (.is (.le (.n 0) (.v 4296998924 0)) false) <|
                 .br (.f (.rel 102 [.tru (.v 4296998921 0), .lst 4296998921 1] 65568 [.int .u64]) <|
                  .ok [.num (.v 65568 0), .tru (.le (.n 0) (.n 0))])
                 (.f (.npre 102 [.tru (.v 4296998921 0), .lst 4296998921 1]) <|
                  .bad))
                (.f (.is (.le (.n 0) (.v 4296998924 0)) true) <|
                 .br (.f (.npre 51 [.tru (.v 4296998921 0), .lst 4296998921 1, .tru (.v 4296998914 0), .lst 4296998914 1]) <|
                  .bad)
                 (.f (.rel 51 [.tru (.v 4296998921 0), .lst 4296998921 1, .tru (.v 4296998914 0), .lst 4296998914 1] 4296998928 [.bool, .list [.int .i64]]) <|
                  .br (.f (.nrel 110304 [.tru (.v 4296998917 0), .lst 4296998917 1] [.tru (.v 4296998928 0), .lst 4296998928 1]) <|
                   .bad)
                  (.f (.ndec 110304 [.tru (.v 4296998917 0), .lst 4296998917 1] [.tru (.v 4296998921 0), .lst 4296998921 1] [.tru (.v 4296998928 0), .lst 4296998928 1]) <|
                   .bad))))
               (.f (.npre 37 [.tru (.v 4296998921 0), .lst 4296998921 1, .tru (.v 4296998914 0), .lst 4296998914 1]) <|
                .bad))
              (.f (.nrel 110304 [.tru (.v 4296998917 0), .lst 4296998917 1] [.tru (.v 4296998917 0), .lst 4296998917 1]) <|
               .bad))
             (.f (.is (.lt (.v 4296998919 0) (.n 0)) true) <|
              .br (.f (.npre 73 [.tru (.v 4296998917 0), .lst 4296998917 1, .tru (.v 4296998914 0), .lst 4296998914 1]) <|
               .bad)
              (.f (.rel 73 [.tru (.v 4296998917 0), .lst 4296998917 1, .tru (.v 4296998914 0), .lst 4296998914 1] 4296998923 [.bool, .list [.int .i64]]) <|
               .br (.f (.nrel 110302 [.tru (.v 65566 0), .lst 65566 1] [.tru (.v 4296998923 0), .lst 4296998923 1]) <|
                .bad)
               (.f (.ndec 110302 [.tru (.v 65566 0), .lst 65566 1] [.tru (.v 4296998917 0), .lst 4296998917 1] [.tru (.v 4296998923 0), .lst 4296998923 1]) <|
                .bad))))
            (.f (.npre 13 [.tru (.v 4296998917 0), .lst 4296998917 1]) <|
             .bad))
           (.f (.nrel 110302 [.tru (.v 65566 0), .lst 65566 1] [.tru (.v 65566 0), .lst 65566 1]) <|
            .bad))
          (.f (.npre 81 [.num (.n 64)]) <|
           .bad))
         (.f (.npre 73 [.tru (.v 65564 0), .lst 65564 1, .tru (.v 65552 0), .lst 65552 1]) <|
          .bad))
        (.f (.npre 38 [.num (.v 0 0)]) <|
         .bad)))
      (.f (.npre 101 [.tru (.v 65552 0), .lst 65552 1]) <|
       .bad))
     (.f (.npre 62 [.tru (.v 0 1), .lst 0 2, .num (.wrap .i64 (.v 0 3))]) <|
      .bad))))
  (.f (.npre 47 [.num (.v 0 0), .tru (.v 0 1), .lst 0 2, .num (.v 0 3), .num (.v 0 4)]) <|
   .bad)
theorem c78 : ConS Tryz.prog T C78 := con_tr (cs := [C13, C37, C38, C47, C51, C62, C73, C81, C101, C102]) (lcs := [L110302, L110304]) (known := []) (cons_cons c13 (cons_cons c37 (cons_cons c38 (cons_cons c47 (cons_cons c51 (cons_cons c62 (cons_cons c73 (cons_cons c81 (cons_cons c101 (cons_cons c102 (cons_nil _ _))))))))))) (Known.nil _) (N := 400) (d := 40) (t := t78) (by kernel_rfl) <| by
  intro E hl hp
  have hl2 := hl 2 _ rfl
  clear hl
  have hp := hp rfl
  simp only [C78, show T.pre 78 = Q78 from rfl, flatS, SP.flat, dvs, List.append_nil, List.cons_append, List.nil_append, Q78, U64, U32, I64, Big, W, wv, s64, WT, PR, MR, MB] at hp
  simp only [t78, C78, Tr.good, Fact.den, LX.den, DX.ls, DV.ls, DX.den, Bx.den, Ex.den, eo_add, eo_sub, eo_mul, eo_quo, eo_rem, eo_fdv, eo_mn, eo_mx, eo_land, eo_lor, eo_lxor, eo_landn, eo_shl, eo_shr, dvs, flatS, SP.flat, ST.flat, List.map_cons, List.map_nil, List.append_nil, List.cons_append, List.nil_append, ltb_t, ltb_f, leb_t, leb_f, eqb_t, eqb_f, decide_eq_true_eq, decide_eq_false_iff_not, Bool.not_eq_true', Bool.not_eq_false', Bool.and_eq_true, Bool.and_eq_false_imp, beq_iff_eq, beq_eq_false_iff_ne, bne_iff_ne, U64, U32, I64, Big, W, wv, Told, s64, WT, PR, MR, MB, Int.zero_mul, Int.zero_add, Int.add_zero, Int.mul_zero, IntKind.wrap_u64, IntKind.wrap_i64, IntKind.wrap_u32, ne_eq, forall_const, true_implies, show T.rel 13 = R13 from rfl, R13, show T.rel 37 = R37 from rfl, R37, show T.rel 38 = R38 from rfl, R38, show T.rel 47 = R47 from rfl, R47, show T.rel 51 = R51 from rfl, R51, show T.rel 62 = R62 from rfl, R62, show T.rel 73 = R73 from rfl, R73, show T.rel 78 = R78 from rfl, R78, show T.rel 81 = R81 from rfl, R81, show T.rel 101 = R101 from rfl, R101, show T.rel 102 = R102 from rfl, R102, show T.rel 110302 = R110302 from rfl, R110302, show T.rel 110304 = R110304 from rfl, R110304, show T.mu 110302 = M110302 from rfl, M110302, show T.mu 110304 = M110304 from rfl, M110304, show T.pre 13 = Q13 from rfl, Q13, show T.pre 37 = Q37 from rfl, Q37, show T.pre 38 = Q38 from rfl, Q38, show T.pre 47 = Q47 from rfl, Q47, show T.pre 51 = Q51 from rfl, Q51, show T.pre 62 = Q62 from rfl, Q62, show T.pre 73 = Q73 from rfl, Q73, show T.pre 78 = Q78 from rfl, Q78, show T.pre 81 = Q81 from rfl, Q81, show T.pre 101 = Q101 from rfl, Q101, show T.pre 102 = Q102 from rfl, Q102]
  revert hp hl2
  generalize (E.r 0).i 0 = b
  generalize (E.r 0).c 1 = an
  generalize (E.r 0).l 2 = al
  generalize (E.r 0).i 3 = w
  generalize (E.r 0).i 4 = n
  generalize (E.r 65540).c 0 = x4_0
  generalize (E.r 65552).c 0 = x16_0
  generalize (E.r 65552).l 1 = x16_1
  generalize (E.r 65552).i 2 = x16_2
  generalize (E.r 65560).c 0 = x24_0
  generalize (E.r 65564).c 0 = x28_0
  generalize (E.r 65564).l 1 = x28_1
  generalize (E.r 65566).c 0 = x30_0
  generalize (E.r 65566).l 1 = x30_1
  generalize (E.r 65568).i 0 = x32_0
  generalize (E.r 4296998914).c 0 = x4296933378_0
  generalize (E.r 4296998914).l 1 = x4296933378_1
  generalize (E.r 4296998917).c 0 = x4296933381_0
  generalize (E.r 4296998917).l 1 = x4296933381_1
  generalize (E.r 4296998919).i 0 = x4296933383_0
  generalize (E.r 4296998921).c 0 = x4296933385_0
  generalize (E.r 4296998921).l 1 = x4296933385_1
  generalize (E.r 4296998923).c 0 = x4296933387_0
  generalize (E.r 4296998923).l 1 = x4296933387_1
  generalize (E.r 4296998924).i 0 = x4296933388_0
  generalize (E.r 4296998928).c 0 = x4296933392_0
  generalize (E.r 4296998928).l 1 = x4296933392_1
  try simp only [Bg]
  try generalize bval an al = an_v
  try generalize bval x16_0 x16_1 = y16_0
  try generalize bval x28_0 x28_1 = y28_0
  try generalize bval x30_0 x30_1 = y30_0
  try generalize bval x4296933378_0 x4296933378_1 = y4296933378_0
  try generalize bval x4296933381_0 x4296933381_1 = y4296933381_0
  try generalize bval x4296933385_0 x4296933385_1 = y4296933385_0
  try generalize bval x4296933387_0 x4296933387_1 = y4296933387_0
  try generalize bval x4296933392_0 x4296933392_1 = y4296933392_0
  try simp only [mxI, mnI]
  try simp only [ltb, leb, eqb, Int.lt_irrefl, decide_false, Int.le_refl, decide_true]
  intro hl hp
  rw [p2_64]
  have hA : -170141183460469231731687303715884105728 ≤ an_v ∧ an_v < 170141183460469231731687303715884105728 := hp.2.1
  have hw : Mq an_v w n → 0 ≤ w ∧ w ≤ 33554432 ∧ (¬ n = 0 → 0 < w ∧ 0 < n) := by simp only [Mq, MB]; omega
  have e1 : w ≤ 33554432 → (w + 9223372036854775808) % 18446744073709551616 - 9223372036854775808 = w := by omega
  have qb : 0 < w → -1000000000000000000000000000000000000000000000000000000000000000000000000000000000000000000000000 < an_v / w ∧ an_v / w < 1000000000000000000000000000000000000000000000000000000000000000000000000000000000000000000000000 := by
    intro h
    have a : -999999999999999999999999999999999999999999999999999999999999999999999999999999999999999999999999 ≤ an_v / w := by apply Int.le_ediv_of_mul_le (by omega); omega
    exact ⟨by omega, by apply Int.ediv_lt_of_lt_mul (by omega); omega⟩
  by_cases hM : Mq an_v w n
  case neg => exact ⟨fun e => ⟨fun c1 => ⟨⟨fun f => f.elim, fun f => absurd f.1 hM⟩, fun f => f.elim, fun _ => trivial⟩, fun c1 => absurd (e.1 c1) hM⟩, fun n => n ⟨hp.1, by omega, by omega, by omega⟩⟩
  have h := hw hM
  have e2 := e1 h.2.1
  simp only [e2, hM, true_and]
  clear hM hw e1 e2
  obtain ⟨hb0, hb1, hb2⟩ := hp
  repeat' (first | assumption | (intro (h : _ ∧ _); obtain ⟨h1, h2⟩ := h; (first | (subst h1; revert h2) | revert h1 h2)) | (intro h; (first | subst h | skip)) | refine And.intro ?_ ?_)
  all_goals try (show False; refine absurd ?_ ‹¬ _›)
  all_goals repeat' (first | assumption | refine And.intro ?_ ?_)
  all_goals first | omega | grind
end Go.Proofs.YthlcpdjpnbbaeaaGreatDoor.Fn
namespace Go.Proofs.YthlcpdjpnbbaeaaGreatDoor.Fn
open Go Go.RowKit Go.Proofs.YthlcpdjpnbbaeaaGreatDoor.Sy
set_option linter.unusedVariables false
set_option linter.unusedSimpArgs false
set_option maxRecDepth 100000
def t34 : Tr :=
  .br (.f (.is (.eq (.len 0 0) (.n 0)) true) <|
   .ok [.num (.n 0), .tru (.lt (.n 0) (.n 0))])
  (.f (.is (.eq (.len 0 0) (.n 0)) false) <|
   .br (.f (.is (.lt (.n 0) (.len 0 0)) true) <|
    .br (.f (.rel 77 [.num (.at 0 0 (.n 0) 0), .lst 0 0] 65547 [.int .u64, .bool, .list [.int .i64], .int .u64, .int .i64, .bool]) <|
     .br (.f (.is (.v 65547 5) false) <|
      .ok [.num (.n 0), .tru (.lt (.n 0) (.n 0))])
     (.f (.is (.v 65547 5) true) <|
      .br (.f (.rel 78 [.num (.v 65547 0), .tru (.v 65547 1), .lst 65547 2, .num (.v 65547 3), .num (.v 65547 4)] 65557 [.int .u64, .bool]) <|
       .ok [.num (.v 65557 0), .tru (.v 65557 1)])
      (.f (.npre 78 [.num (.v 65547 0), .tru (.v 65547 1), .lst 65547 2, .num (.v 65547 3), .num (.v 65547 4)]) <|
       .bad)))
    (.f (.npre 77 [.num (.at 0 0 (.n 0) 0), .lst 0 0]) <|
     .bad))
   (.f (.is (.lt (.n 0) (.len 0 0)) false) <|
    .bad))
theorem c34 : ConS Tryz.prog T C34 := con_tr (cs := [C77, C78]) (lcs := []) (known := []) (cons_cons c77 (cons_cons c78 (cons_nil _ _))) (Known.nil _) (N := 400) (d := 40) (t := t34) (by kernel_rfl) <| by
  intro E hl hp
  have hl0 := hl 0 _ rfl
  clear hl
  have hp := hp rfl
  simp only [C34, show T.pre 34 = Q34 from rfl, flatS, SP.flat, dvs, List.append_nil, List.cons_append, List.nil_append, Q34, U64, U32, I64, Big, W, wv, s64, WT, PR, MR, MB] at hp
  simp only [t34, C34, Tr.good, Fact.den, LX.den, DX.ls, DV.ls, DX.den, Bx.den, Ex.den, eo_add, eo_sub, eo_mul, eo_quo, eo_rem, eo_fdv, eo_mn, eo_mx, eo_land, eo_lor, eo_lxor, eo_landn, eo_shl, eo_shr, dvs, flatS, SP.flat, ST.flat, List.map_cons, List.map_nil, List.append_nil, List.cons_append, List.nil_append, ltb_t, ltb_f, leb_t, leb_f, eqb_t, eqb_f, decide_eq_true_eq, decide_eq_false_iff_not, Bool.not_eq_true', Bool.not_eq_false', Bool.and_eq_true, Bool.and_eq_false_imp, beq_iff_eq, beq_eq_false_iff_ne, bne_iff_ne, U64, U32, I64, Big, W, wv, Told, s64, WT, PR, MR, MB, Int.zero_mul, Int.zero_add, Int.add_zero, Int.mul_zero, IntKind.wrap_u64, IntKind.wrap_i64, IntKind.wrap_u32, ne_eq, forall_const, true_implies, show T.rel 34 = R34 from rfl, R34, show T.rel 77 = R77 from rfl, R77, show T.rel 78 = R78 from rfl, R78, show T.pre 34 = Q34 from rfl, Q34, show T.pre 77 = Q77 from rfl, Q77, show T.pre 78 = Q78 from rfl, Q78]
  revert hp hl0
  generalize (E.r 0).l 0 = xs
  generalize (E.r 65547).i 0 = x11_0
  generalize (E.r 65547).c 1 = x11_1
  generalize (E.r 65547).l 2 = x11_2
  generalize (E.r 65547).i 3 = x11_3
  generalize (E.r 65547).i 4 = x11_4
  generalize (E.r 65547).c 5 = x11_5
  generalize (E.r 65557).i 0 = x21_0
  generalize (E.r 65557).c 1 = x21_1
  try simp only [Bg]
  try generalize bval x11_1 x11_2 = y11_1
  try simp only [mxI, mnI]
  try simp only [ltb, leb, eqb, Int.lt_irrefl, decide_false, Int.le_refl, decide_true]
  intro hl hp
  obtain ⟨hk, hn⟩ := hp
  have h0 : 0 ≤ Sy.rowAt xs 0 0 ∧ Sy.rowAt xs 0 0 < 18446744073709551616 := (hk 0).1
  refine ⟨fun c => ⟨⟨fun f => f.elim, fun f => by omega⟩, fun f => f.elim, fun _ => trivial⟩, fun c => ⟨fun c2 => ⟨fun ⟨a1, a2, a3, a4⟩ => ⟨fun t => ⟨⟨fun f => f.elim, fun f => ?_⟩, fun f => f.elim, fun _ => trivial⟩, fun t => ?_⟩, fun n => n ⟨h0, hk, hn⟩⟩, fun h => by omega⟩⟩
  · have := a1.2 ⟨f.2.1, f.2.2.1⟩
    rw [t] at this
    cases this
  · obtain ⟨b1, b2, b3, b4⟩ := a2 t
    obtain ⟨n2, ap⟩ := a1.1 t
    have sw := SW_le ap
    have sa := SA_le (b := Sy.rowAt xs 0 0) hk.rk ap
    rw [b1, b2, b3, b4]
    have hm : Mq (SA (Sy.rowAt xs 0 0) xs xs.length) (SW xs xs.length) xs.length := by simp only [Mq, MB]; right; omega
    have hB : Big (SA (Sy.rowAt xs 0 0) xs xs.length) := by simp only [Big]; omega
    exact ⟨fun ⟨d1, d2, d3⟩ => ⟨⟨fun f => ⟨by omega, n2, ap, (d1.1 f).2.2⟩, fun f => d1.2 ⟨hm, by omega, f.2.2.2⟩⟩, d2, d3⟩, fun n => n ⟨a4, hB, h0, by omega, by omega, by omega⟩⟩
end Go.Proofs.YthlcpdjpnbbaeaaGreatDoor.Fn
namespace Go.Proofs.YthlcpdjpnbbaeaaGreatDoor.Fn
open Go Go.RowKit Go.Proofs.YthlcpdjpnbbaeaaGreatDoor.Sy
set_option linter.unusedVariables false
set_option linter.unusedSimpArgs false
set_option maxRecDepth 100000
def t12 : Tr :=
  .ok [.num (.v 0 0), .num (.v 0 1), .num (.v 0 2)]
theorem c12 : ConS Tryz.prog T C12 := con_tr (cs := []) (lcs := []) (known := []) (cons_nil _ _) (Known.nil _) (N := 400) (d := 40) (t := t12) (by kernel_rfl) <| by
  intro E hl hp
  clear hl
  have hp := hp rfl
  simp only [C12, show T.pre 12 = Q12 from rfl, flatS, SP.flat, dvs, List.append_nil, List.cons_append, List.nil_append, Q12, U64, U32, I64, Big, W, wv, s64, WT, PR, MR, MB] at hp
  simp only [t12, C12, Tr.good, Fact.den, LX.den, DX.ls, DV.ls, DX.den, Bx.den, Ex.den, eo_add, eo_sub, eo_mul, eo_quo, eo_rem, eo_fdv, eo_mn, eo_mx, eo_land, eo_lor, eo_lxor, eo_landn, eo_shl, eo_shr, dvs, flatS, SP.flat, ST.flat, List.map_cons, List.map_nil, List.append_nil, List.cons_append, List.nil_append, ltb_t, ltb_f, leb_t, leb_f, eqb_t, eqb_f, decide_eq_true_eq, decide_eq_false_iff_not, Bool.not_eq_true', Bool.not_eq_false', Bool.and_eq_true, Bool.and_eq_false_imp, beq_iff_eq, beq_eq_false_iff_ne, bne_iff_ne, U64, U32, I64, Big, W, wv, Told, s64, WT, PR, MR, MB, Int.zero_mul, Int.zero_add, Int.add_zero, Int.mul_zero, IntKind.wrap_u64, IntKind.wrap_i64, IntKind.wrap_u32, ne_eq, forall_const, true_implies, show T.rel 12 = R12 from rfl, R12, show T.pre 12 = Q12 from rfl, Q12]
  revert hp
  generalize (E.r 0).i 0 = t
  generalize (E.r 0).i 1 = r
  generalize (E.r 0).i 2 = w
  try simp only [mxI, mnI]
  try simp only [ltb, leb, eqb, Int.lt_irrefl, decide_false, Int.le_refl, decide_true]
  repeat' (first | intro _ | refine And.intro ?_ ?_ | refine Iff.intro ?_ ?_)
  all_goals first | omega | (simp_all; done) | (simp_all; omega)
end Go.Proofs.YthlcpdjpnbbaeaaGreatDoor.Fn
namespace Go.Proofs.YthlcpdjpnbbaeaaGreatDoor.Fn
open Go Go.RowKit Go.Proofs.YthlcpdjpnbbaeaaGreatDoor.Sy
set_option linter.unusedVariables false
set_option linter.unusedSimpArgs false
set_option maxRecDepth 100000
def t79 : Tr :=
  .br (.f (.rel 12 [.num (.v 0 0), .num (.v 0 1), .num (.v 0 2)] 65540 [.int .u64, .int .u32, .int .u32]) <|
   .br (.f (.rel 12 [.num (.v 0 4), .num (.v 0 5), .num (.v 0 6)] 65545 [.int .u64, .int .u32, .int .u32]) <|
    .ok [.num (.v 65540 0), .num (.v 65540 1), .num (.v 65540 2), .num (.v 0 3), .num (.v 65545 0), .num (.v 65545 1), .num (.v 65545 2)])
   (.f (.npre 12 [.num (.v 0 4), .num (.v 0 5), .num (.v 0 6)]) <|
    .bad))
  (.f (.npre 12 [.num (.v 0 0), .num (.v 0 1), .num (.v 0 2)]) <|
   .bad)
theorem c79 : ConS Tryz.prog T C79 := con_tr (cs := [C12]) (lcs := []) (known := []) (cons_cons c12 (cons_nil _ _)) (Known.nil _) (N := 400) (d := 40) (t := t79) (by kernel_rfl) <| by
  intro E hl hp
  clear hl
  have hp := hp rfl
  simp only [C79, show T.pre 79 = Q79 from rfl, flatS, SP.flat, dvs, List.append_nil, List.cons_append, List.nil_append, Q79, U64, U32, I64, Big, W, wv, s64, WT, PR, MR, MB] at hp
  simp only [t79, C79, Tr.good, Fact.den, LX.den, DX.ls, DV.ls, DX.den, Bx.den, Ex.den, eo_add, eo_sub, eo_mul, eo_quo, eo_rem, eo_fdv, eo_mn, eo_mx, eo_land, eo_lor, eo_lxor, eo_landn, eo_shl, eo_shr, dvs, flatS, SP.flat, ST.flat, List.map_cons, List.map_nil, List.append_nil, List.cons_append, List.nil_append, ltb_t, ltb_f, leb_t, leb_f, eqb_t, eqb_f, decide_eq_true_eq, decide_eq_false_iff_not, Bool.not_eq_true', Bool.not_eq_false', Bool.and_eq_true, Bool.and_eq_false_imp, beq_iff_eq, beq_eq_false_iff_ne, bne_iff_ne, U64, U32, I64, Big, W, wv, Told, s64, WT, PR, MR, MB, Int.zero_mul, Int.zero_add, Int.add_zero, Int.mul_zero, IntKind.wrap_u64, IntKind.wrap_i64, IntKind.wrap_u32, ne_eq, forall_const, true_implies, show T.rel 12 = R12 from rfl, R12, show T.rel 79 = R79 from rfl, R79, show T.pre 12 = Q12 from rfl, Q12, show T.pre 79 = Q79 from rfl, Q79]
  revert hp
  generalize (E.r 0).i 0 = t
  generalize (E.r 0).i 1 = r
  generalize (E.r 0).i 2 = w
  generalize (E.r 0).i 3 = id
  generalize (E.r 0).i 4 = dt
  generalize (E.r 0).i 5 = dr
  generalize (E.r 0).i 6 = dw
  generalize (E.r 65540).i 0 = x4_0
  generalize (E.r 65540).i 1 = x4_1
  generalize (E.r 65540).i 2 = x4_2
  generalize (E.r 65545).i 0 = x9_0
  generalize (E.r 65545).i 1 = x9_1
  generalize (E.r 65545).i 2 = x9_2
  try simp only [mxI, mnI]
  try simp only [ltb, leb, eqb, Int.lt_irrefl, decide_false, Int.le_refl, decide_true]
  repeat' (first | intro _ | refine And.intro ?_ ?_ | refine Iff.intro ?_ ?_)
  all_goals first | omega | (simp_all; done) | (simp_all; omega)
end Go.Proofs.YthlcpdjpnbbaeaaGreatDoor.Fn
namespace Go.Proofs.YthlcpdjpnbbaeaaGreatDoor.Fn
open Go Go.RowKit Go.Proofs.YthlcpdjpnbbaeaaGreatDoor.Sy
set_option linter.unusedVariables false
set_option linter.unusedSimpArgs false
set_option maxRecDepth 100000
def t35 : Tr :=
  .br (.f (.rel 103503 [.lst 0 0, .rows [], .num (.n 0)] 65541 [.list [.int .u64, .int .u32, .int .u32, .int .i64, .int .u64, .int .u32, .int .u32], .int .i64]) <|
   .br (.f (.is (.lt (.v 65541 1) (.len 0 0)) false) <|
    .ok [.lst 65541 0])
   (.f (.is (.lt (.v 65541 1) (.len 0 0)) true) <|
    .br (.f (.is (.lt (.v 65541 1) (.n 0)) true) <|
     .bad)
    (.f (.is (.lt (.v 65541 1) (.n 0)) false) <|
     .br (.f (.npre 79 [.num (.at 0 0 (.v 65541 1) 0), .num (.at 0 0 (.v 65541 1) 1), .num (.at 0 0 (.v 65541 1) 2), .num (.at 0 0 (.v 65541 1) 3), .num (.at 0 0 (.v 65541 1) 4), .num (.at 0 0 (.v 65541 1) 5), .num (.at 0 0 (.v 65541 1) 6)]) <|
      .bad)
     (.f (.rel 79 [.num (.at 0 0 (.v 65541 1) 0), .num (.at 0 0 (.v 65541 1) 1), .num (.at 0 0 (.v 65541 1) 2), .num (.at 0 0 (.v 65541 1) 3), .num (.at 0 0 (.v 65541 1) 4), .num (.at 0 0 (.v 65541 1) 5), .num (.at 0 0 (.v 65541 1) 6)] 65549 [.int .u64, .int .u32, .int .u32, .int .i64, .int .u64, .int .u32, .int .u32]) <|
      .br (.f (.is (.le (.len 65541 0) (.n 1000000000)) false) <|
       .bad)
      (.f (.is (.le (.len 65541 0) (.n 1000000000)) true) <|
       .f (.lseq 65551 (.app (.lst 65541 0) (.rows [[.v 65549 0, .v 65549 1, .v 65549 2, .v 65549 3, .v 65549 4, .v 65549 5, .v 65549 6]]))) <|
        .br (.f (.nrel 103503 [.lst 0 0, .rows [], .num (.n 0)] [.lst 65551 0, .num (.wrap .i64 (.bin .add (.v 65541 1) (.n 1)))]) <|
         .bad)
        (.f (.ndec 103503 [.lst 0 0, .rows [], .num (.n 0)] [.lst 65541 0, .num (.v 65541 1)] [.lst 65551 0, .num (.wrap .i64 (.bin .add (.v 65541 1) (.n 1)))]) <|
         .bad))))))
  (.f (.nrel 103503 [.lst 0 0, .rows [], .num (.n 0)] [.rows [], .num (.n 0)]) <|
   .bad)
theorem c35 : ConS Tryz.prog T C35 := con_tr (cs := [C79]) (lcs := [L103503]) (known := []) (cons_cons c79 (cons_nil _ _)) (Known.nil _) (N := 400) (d := 40) (t := t35) (by kernel_rfl) <| by
  intro E hl hp
  have hl0 := hl 0 _ rfl
  clear hl
  have hp := hp rfl
  simp only [C35, show T.pre 35 = Q35 from rfl, flatS, SP.flat, dvs, List.append_nil, List.cons_append, List.nil_append, Q35, U64, U32, I64, Big, W, wv, s64, WT, PR, MR, MB] at hp
  simp only [t35, C35, Tr.good, Fact.den, LX.den, DX.ls, DV.ls, DX.den, Bx.den, Ex.den, eo_add, eo_sub, eo_mul, eo_quo, eo_rem, eo_fdv, eo_mn, eo_mx, eo_land, eo_lor, eo_lxor, eo_landn, eo_shl, eo_shr, dvs, flatS, SP.flat, ST.flat, List.map_cons, List.map_nil, List.append_nil, List.cons_append, List.nil_append, ltb_t, ltb_f, leb_t, leb_f, eqb_t, eqb_f, decide_eq_true_eq, decide_eq_false_iff_not, Bool.not_eq_true', Bool.not_eq_false', Bool.and_eq_true, Bool.and_eq_false_imp, beq_iff_eq, beq_eq_false_iff_ne, bne_iff_ne, U64, U32, I64, Big, W, wv, Told, s64, WT, PR, MR, MB, Int.zero_mul, Int.zero_add, Int.add_zero, Int.mul_zero, IntKind.wrap_u64, IntKind.wrap_i64, IntKind.wrap_u32, ne_eq, forall_const, true_implies, show T.rel 35 = R35 from rfl, R35, show T.rel 79 = R79 from rfl, R79, show T.rel 103503 = R103503 from rfl, R103503, show T.mu 103503 = M103503 from rfl, M103503, show T.pre 35 = Q35 from rfl, Q35, show T.pre 79 = Q79 from rfl, Q79]
  revert hp hl0
  generalize (E.r 0).l 0 = xs
  generalize (E.r 65541).l 0 = x5_0
  generalize (E.r 65541).i 1 = x5_1
  generalize (E.r 65549).i 0 = x13_0
  generalize (E.r 65549).i 1 = x13_1
  generalize (E.r 65549).i 2 = x13_2
  generalize (E.r 65549).i 3 = x13_3
  generalize (E.r 65549).i 4 = x13_4
  generalize (E.r 65549).i 5 = x13_5
  generalize (E.r 65549).i 6 = x13_6
  generalize (E.r 65551).l 0 = x15_0
  try simp only [mxI, mnI]
  try simp only [ltb, leb, eqb, Int.lt_irrefl, decide_false, Int.le_refl, decide_true]
  intro hl hp
  have h7 : ∀ x ∈ xs, x.length = 7 := hl.1
  obtain ⟨hk, hn⟩ := hp
  refine ⟨fun ⟨i0, i1, i2⟩ => ?_, fun n => n ⟨trivial, by omega, by simp⟩⟩
  obtain ⟨k, rfl⟩ := Int.eq_ofNat_of_zero_le i0
  have ew : ((k : Int) + 1 + 9223372036854775808) % 18446744073709551616 - 9223372036854775808 = ((k + 1 : Nat) : Int) := by omega
  simp only [Int.toNat_natCast] at i2
  simp only [ew, Int.toNat_natCast]
  have hkk := hk k
  have lt : x5_0.length ≤ 1000 := by rw [i2, List.length_take]; omega
  refine ⟨fun c => ?_, fun c => ⟨by omega, fun _ => ⟨fun n => n hkk, fun ⟨a0, a1, a2, a3, a4, a5, a6⟩ => ⟨fun h => by clear hkk; omega, fun _ e => ⟨fun n => n ⟨by omega, by omega, ?_⟩, fun n => n (by clear hkk; omega)⟩⟩⟩⟩⟩
  · rw [i2]
    exact List.take_of_length_le (by omega)
  · rw [e, a0, a1, a2, a3, a4, a5, a6, i2, take_row h7 (by omega)]
end Go.Proofs.YthlcpdjpnbbaeaaGreatDoor.Fn
