/- What is told of the functions, shown: turnstone/turnstoneref05.Spread, turnstone/turnstoneref13.Within, turnstone/turnstoneref13.Room. -/
import Derived.Test.YthlcpdjpnbbaeaaGreatDoorFm4
namespace Go.Proofs.YthlcpdjpnbbaeaaGreatDoor.Fn
open Go Go.RowKit Go.Proofs.YthlcpdjpnbbaeaaGreatDoor.Sy
set_option linter.unusedVariables false
set_option linter.unusedSimpArgs false
set_option maxRecDepth 100000
set_option maxHeartbeats 8000000
def t80 : Tr :=
  .br (.f (.rel 108003 [.num (.v 0 0), .lst 0 1, .tru (.lt (.n 0) (.n 0)), .rows [], .tru (.lt (.n 0) (.n 0)), .rows [], .num (.n 0)] 65542 [.bool, .list [.int .i64], .bool, .list [.int .i64], .int .i64]) <|
   .br (.f (.is (.lt (.v 65542 4) (.len 0 1)) false) <|
    .br (.f (.rel 51 [.tru (.v 65542 2), .lst 65542 3, .tru (.v 65542 0), .lst 65542 1] 65546 [.bool, .list [.int .i64]]) <|
     .ok [.tru (.v 65546 0), .lst 65546 1])
    (.f (.npre 51 [.tru (.v 65542 2), .lst 65542 3, .tru (.v 65542 0), .lst 65542 1]) <|
     .bad))
   (.f (.is (.lt (.v 65542 4) (.len 0 1)) true) <|
    .br (.f (.is (.lt (.v 65542 4) (.n 0)) true) <|
     .bad)
    (.f (.is (.lt (.v 65542 4) (.n 0)) false) <|
     .br (.f (.npre 89 [.num (.at 0 1 (.v 65542 4) 0), .num (.v 0 0)]) <|
      .bad)
     (.f (.rel 89 [.num (.at 0 1 (.v 65542 4) 0), .num (.v 0 0)] 65554 [.bool, .list [.int .i64]]) <|
      .br (.f (.npre 89 [.num (.at 0 1 (.v 65542 4) 4), .num (.v 0 0)]) <|
       .bad)
      (.f (.rel 89 [.num (.at 0 1 (.v 65542 4) 4), .num (.v 0 0)] 65559 [.bool, .list [.int .i64]]) <|
       .br (.f (.is (.eq (.v 65542 4) (.n 0)) false) <|
        .br (.f (.npre 37 [.tru (.v 65554 0), .lst 65554 1, .tru (.v 65542 0), .lst 65542 1]) <|
         .bad)
        (.f (.rel 37 [.tru (.v 65554 0), .lst 65554 1, .tru (.v 65542 0), .lst 65542 1] 65569 [.int .i64]) <|
         .br (.f (.is (.lt (.v 65569 0) (.n 0)) true) <|
          .br (.f (.npre 37 [.tru (.v 65554 0), .lst 65554 1, .tru (.v 65542 2), .lst 65542 3]) <|
           .bad)
          (.f (.rel 37 [.tru (.v 65554 0), .lst 65554 1, .tru (.v 65542 2), .lst 65542 3] 65579 [.int .i64]) <|
           .br (.f (.is (.lt (.n 0) (.v 65579 0)) true) <|
            .br (.f (.npre 37 [.tru (.v 65559 0), .lst 65559 1, .tru (.v 65554 0), .lst 65554 1]) <|
             .bad)
            (.f (.rel 37 [.tru (.v 65559 0), .lst 65559 1, .tru (.v 65554 0), .lst 65554 1] 65586 [.int .i64]) <|
             .br (.f (.is (.lt (.n 0) (.v 65586 0)) true) <|
              .br (.f (.nrel 108003 [.num (.v 0 0), .lst 0 1, .tru (.lt (.n 0) (.n 0)), .rows [], .tru (.lt (.n 0) (.n 0)), .rows [], .num (.n 0)] [.tru (.v 65554 0), .lst 65554 1, .tru (.v 65559 0), .lst 65559 1, .num (.wrap .i64 (.bin .add (.v 65542 4) (.n 1)))]) <|
               .bad)
              (.f (.ndec 108003 [.num (.v 0 0), .lst 0 1, .tru (.lt (.n 0) (.n 0)), .rows [], .tru (.lt (.n 0) (.n 0)), .rows [], .num (.n 0)] [.tru (.v 65542 0), .lst 65542 1, .tru (.v 65542 2), .lst 65542 3, .num (.v 65542 4)] [.tru (.v 65554 0), .lst 65554 1, .tru (.v 65559 0), .lst 65559 1, .num (.wrap .i64 (.bin .add (.v 65542 4) (.n 1)))]) <|
               .bad))
             (.f (.is (.lt (.n 0) (.v 65586 0)) false) <|
              .br (.f (.nrel 108003 [.num (.v 0 0), .lst 0 1, .tru (.lt (.n 0) (.n 0)), .rows [], .tru (.lt (.n 0) (.n 0)), .rows [], .num (.n 0)] [.tru (.v 65554 0), .lst 65554 1, .tru (.v 65554 0), .lst 65554 1, .num (.wrap .i64 (.bin .add (.v 65542 4) (.n 1)))]) <|
               .bad)
              (.f (.ndec 108003 [.num (.v 0 0), .lst 0 1, .tru (.lt (.n 0) (.n 0)), .rows [], .tru (.lt (.n 0) (.n 0)), .rows [], .num (.n 0)] [.tru (.v 65542 0), .lst 65542 1, .tru (.v 65542 2), .lst 65542 3, .num (.v 65542 4)] [.tru (.v 65554 0), .lst 65554 1, .tru (.v 65554 0), .lst 65554 1, .num (.wrap .i64 (.bin .add (.v 65542 4) (.n 1)))]) <|
               .bad))))
           (.f (.is (.lt (.n 0) (.v 65579 0)) false) <|
            .br (.f (.npre 37 [.tru (.v 65559 0), .lst 65559 1, .tru (.v 65542 2), .lst 65542 3]) <|
             .bad)
            (.f (.rel 37 [.tru (.v 65559 0), .lst 65559 1, .tru (.v 65542 2), .lst 65542 3] 65584 [.int .i64]) <|
             .br (.f (.is (.lt (.n 0) (.v 65584 0)) true) <|
              .br (.f (.nrel 108003 [.num (.v 0 0), .lst 0 1, .tru (.lt (.n 0) (.n 0)), .rows [], .tru (.lt (.n 0) (.n 0)), .rows [], .num (.n 0)] [.tru (.v 65554 0), .lst 65554 1, .tru (.v 65559 0), .lst 65559 1, .num (.wrap .i64 (.bin .add (.v 65542 4) (.n 1)))]) <|
               .bad)
              (.f (.ndec 108003 [.num (.v 0 0), .lst 0 1, .tru (.lt (.n 0) (.n 0)), .rows [], .tru (.lt (.n 0) (.n 0)), .rows [], .num (.n 0)] [.tru (.v 65542 0), .lst 65542 1, .tru (.v 65542 2), .lst 65542 3, .num (.v 65542 4)] [.tru (.v 65554 0), .lst 65554 1, .tru (.v 65559 0), .lst 65559 1, .num (.wrap .i64 (.bin .add (.v 65542 4) (.n 1)))]) <|
               .bad))
             (.f (.is (.lt (.n 0) (.v 65584 0)) false) <|
              .br (.f (.nrel 108003 [.num (.v 0 0), .lst 0 1, .tru (.lt (.n 0) (.n 0)), .rows [], .tru (.lt (.n 0) (.n 0)), .rows [], .num (.n 0)] [.tru (.v 65554 0), .lst 65554 1, .tru (.v 65542 2), .lst 65542 3, .num (.wrap .i64 (.bin .add (.v 65542 4) (.n 1)))]) <|
               .bad)
              (.f (.ndec 108003 [.num (.v 0 0), .lst 0 1, .tru (.lt (.n 0) (.n 0)), .rows [], .tru (.lt (.n 0) (.n 0)), .rows [], .num (.n 0)] [.tru (.v 65542 0), .lst 65542 1, .tru (.v 65542 2), .lst 65542 3, .num (.v 65542 4)] [.tru (.v 65554 0), .lst 65554 1, .tru (.v 65542 2), .lst 65542 3, .num (.wrap .i64 (.bin .add (.v 65542 4) (.n 1)))]) <|
               .bad))))))
         (.f (.is (.lt (.v 65569 0) (.n 0)) false) <|
          .br (.f (.npre 37 [.tru (.v 65554 0), .lst 65554 1, .tru (.v 65542 2), .lst 65542 3]) <|
           .bad)
          (.f (.rel 37 [.tru (.v 65554 0), .lst 65554 1, .tru (.v 65542 2), .lst 65542 3] 65577 [.int .i64]) <|
           .br (.f (.is (.lt (.n 0) (.v 65577 0)) true) <|
            .br (.f (.npre 37 [.tru (.v 65559 0), .lst 65559 1, .tru (.v 65554 0), .lst 65554 1]) <|
             .bad)
            (.f (.rel 37 [.tru (.v 65559 0), .lst 65559 1, .tru (.v 65554 0), .lst 65554 1] 65584 [.int .i64]) <|
             .br (.f (.is (.lt (.n 0) (.v 65584 0)) true) <|
              .br (.f (.nrel 108003 [.num (.v 0 0), .lst 0 1, .tru (.lt (.n 0) (.n 0)), .rows [], .tru (.lt (.n 0) (.n 0)), .rows [], .num (.n 0)] [.tru (.v 65542 0), .lst 65542 1, .tru (.v 65559 0), .lst 65559 1, .num (.wrap .i64 (.bin .add (.v 65542 4) (.n 1)))]) <|
               .bad)
              (.f (.ndec 108003 [.num (.v 0 0), .lst 0 1, .tru (.lt (.n 0) (.n 0)), .rows [], .tru (.lt (.n 0) (.n 0)), .rows [], .num (.n 0)] [.tru (.v 65542 0), .lst 65542 1, .tru (.v 65542 2), .lst 65542 3, .num (.v 65542 4)] [.tru (.v 65542 0), .lst 65542 1, .tru (.v 65559 0), .lst 65559 1, .num (.wrap .i64 (.bin .add (.v 65542 4) (.n 1)))]) <|
               .bad))
             (.f (.is (.lt (.n 0) (.v 65584 0)) false) <|
              .br (.f (.nrel 108003 [.num (.v 0 0), .lst 0 1, .tru (.lt (.n 0) (.n 0)), .rows [], .tru (.lt (.n 0) (.n 0)), .rows [], .num (.n 0)] [.tru (.v 65542 0), .lst 65542 1, .tru (.v 65554 0), .lst 65554 1, .num (.wrap .i64 (.bin .add (.v 65542 4) (.n 1)))]) <|
               .bad)
              (.f (.ndec 108003 [.num (.v 0 0), .lst 0 1, .tru (.lt (.n 0) (.n 0)), .rows [], .tru (.lt (.n 0) (.n 0)), .rows [], .num (.n 0)] [.tru (.v 65542 0), .lst 65542 1, .tru (.v 65542 2), .lst 65542 3, .num (.v 65542 4)] [.tru (.v 65542 0), .lst 65542 1, .tru (.v 65554 0), .lst 65554 1, .num (.wrap .i64 (.bin .add (.v 65542 4) (.n 1)))]) <|
               .bad))))
           (.f (.is (.lt (.n 0) (.v 65577 0)) false) <|
            .br (.f (.npre 37 [.tru (.v 65559 0), .lst 65559 1, .tru (.v 65542 2), .lst 65542 3]) <|
             .bad)
            (.f (.rel 37 [.tru (.v 65559 0), .lst 65559 1, .tru (.v 65542 2), .lst 65542 3] 65582 [.int .i64]) <|
             .br (.f (.is (.lt (.n 0) (.v 65582 0)) true) <|
              .br (.f (.nrel 108003 [.num (.v 0 0), .lst 0 1, .tru (.lt (.n 0) (.n 0)), .rows [], .tru (.lt (.n 0) (.n 0)), .rows [], .num (.n 0)] [.tru (.v 65542 0), .lst 65542 1, .tru (.v 65559 0), .lst 65559 1, .num (.wrap .i64 (.bin .add (.v 65542 4) (.n 1)))]) <|
               .bad)
              (.f (.ndec 108003 [.num (.v 0 0), .lst 0 1, .tru (.lt (.n 0) (.n 0)), .rows [], .tru (.lt (.n 0) (.n 0)), .rows [], .num (.n 0)] [.tru (.v 65542 0), .lst 65542 1, .tru (.v 65542 2), .lst 65542 3, .num (.v 65542 4)] [.tru (.v 65542 0), .lst 65542 1, .tru (.v 65559 0), .lst 65559 1, .num (.wrap .i64 (.bin .add (.v 65542 4) (.n 1)))]) <|
               .bad))
             (.f (.is (.lt (.n 0) (.v 65582 0)) false) <|
              .br (.f (.nrel 108003 [.num (.v 0 0), .lst 0 1, .tru (.lt (.n 0) (.n 0)), .rows [], .tru (.lt (.n 0) (.n 0)), .rows [], .num (.n 0)] [.tru (.v 65542 0), .lst 65542 1, .tru (.v 65542 2), .lst 65542 3, .num (.wrap .i64 (.bin .add (.v 65542 4) (.n 1)))]) <|
               .bad)
              (.f (.ndec 108003 [.num (.v 0 0), .lst 0 1, .tru (.lt (.n 0) (.n 0)), .rows [], .tru (.lt (.n 0) (.n 0)), .rows [], .num (.n 0)] [.tru (.v 65542 0), .lst 65542 1, .tru (.v 65542 2), .lst 65542 3, .num (.v 65542 4)] [.tru (.v 65542 0), .lst 65542 1, .tru (.v 65542 2), .lst 65542 3, .num (.wrap .i64 (.bin .add (.v 65542 4) (.n 1)))]) <|
               .bad))))))))
       (.f (.is (.eq (.v 65542 4) (.n 0)) true) <|
        .br (.f (.npre 37 [.tru (.v 65559 0), .lst 65559 1, .tru (.v 65554 0), .lst 65554 1]) <|
         .bad)
        (.f (.rel 37 [.tru (.v 65559 0), .lst 65559 1, .tru (.v 65554 0), .lst 65554 1] 65586 [.int .i64]) <|
         .br (.f (.is (.lt (.n 0) (.v 65586 0)) true) <|
          .br (.f (.nrel 108003 [.num (.v 0 0), .lst 0 1, .tru (.lt (.n 0) (.n 0)), .rows [], .tru (.lt (.n 0) (.n 0)), .rows [], .num (.n 0)] [.tru (.v 65554 0), .lst 65554 1, .tru (.v 65559 0), .lst 65559 1, .num (.wrap .i64 (.bin .add (.v 65542 4) (.n 1)))]) <|
           .bad)
          (.f (.ndec 108003 [.num (.v 0 0), .lst 0 1, .tru (.lt (.n 0) (.n 0)), .rows [], .tru (.lt (.n 0) (.n 0)), .rows [], .num (.n 0)] [.tru (.v 65542 0), .lst 65542 1, .tru (.v 65542 2), .lst 65542 3, .num (.v 65542 4)] [.tru (.v 65554 0), .lst 65554 1, .tru (.v 65559 0), .lst 65559 1, .num (.wrap .i64 (.bin .add (.v 65542 4) (.n 1)))]) <|
           .bad))
         (.f (.is (.lt (.n 0) (.v 65586 0)) false) <|
          .br (.f (.nrel 108003 [.num (.v 0 0), .lst 0 1, .tru (.lt (.n 0) (.n 0)), .rows [], .tru (.lt (.n 0) (.n 0)), .rows [], .num (.n 0)] [.tru (.v 65554 0), .lst 65554 1, .tru (.v 65554 0), .lst 65554 1, .num (.wrap .i64 (.bin .add (.v 65542 4) (.n 1)))]) <|
           .bad)
          (.f (.ndec 108003 [.num (.v 0 0), .lst 0 1, .tru (.lt (.n 0) (.n 0)), .rows [], .tru (.lt (.n 0) (.n 0)), .rows [], .num (.n 0)] [.tru (.v 65542 0), .lst 65542 1, .tru (.v 65542 2), .lst 65542 3, .num (.v 65542 4)] [.tru (.v 65554 0), .lst 65554 1, .tru (.v 65554 0), .lst 65554 1, .num (.wrap .i64 (.bin .add (.v 65542 4) (.n 1)))]) <|
           .bad)))))))))
  (.f (.nrel 108003 [.num (.v 0 0), .lst 0 1, .tru (.lt (.n 0) (.n 0)), .rows [], .tru (.lt (.n 0) (.n 0)), .rows [], .num (.n 0)] [.tru (.lt (.n 0) (.n 0)), .rows [], .tru (.lt (.n 0) (.n 0)), .rows [], .num (.n 0)]) <|
   .bad)
theorem c80 : ConS Tryz.prog T C80 := con_tr (cs := [C37, C51, C89]) (lcs := [L108003]) (known := []) (cons_cons c37 (cons_cons c51 (cons_cons c89 (cons_nil _ _)))) (Known.nil _) (N := 400) (d := 40) (t := t80) (by kernel_rfl) <| by
  intro E hl hp
  have hl1 := hl 1 _ rfl
  clear hl
  have hp := hp rfl
  simp only [C80, show T.pre 80 = Q80 from rfl, flatS, SP.flat, dvs, List.append_nil, List.cons_append, List.nil_append, Q80, U64, U32, I64, Big, W, wv, s64, WT, PR, MR, MB] at hp
  simp only [t80, C80, Tr.good, Fact.den, LX.den, DX.ls, DV.ls, DX.den, Bx.den, Ex.den, eo_add, eo_sub, eo_mul, eo_quo, eo_rem, eo_fdv, eo_mn, eo_mx, eo_land, eo_lor, eo_lxor, eo_landn, eo_shl, eo_shr, dvs, flatS, SP.flat, ST.flat, List.map_cons, List.map_nil, List.append_nil, List.cons_append, List.nil_append, ltb_t, ltb_f, leb_t, leb_f, eqb_t, eqb_f, decide_eq_true_eq, decide_eq_false_iff_not, Bool.not_eq_true', Bool.not_eq_false', Bool.and_eq_true, Bool.and_eq_false_imp, beq_iff_eq, beq_eq_false_iff_ne, bne_iff_ne, U64, U32, I64, Big, W, wv, Told, s64, WT, PR, MR, MB, Int.zero_mul, Int.zero_add, Int.add_zero, Int.mul_zero, IntKind.wrap_u64, IntKind.wrap_i64, IntKind.wrap_u32, ne_eq, forall_const, true_implies, show T.rel 37 = R37 from rfl, R37, show T.rel 51 = R51 from rfl, R51, show T.rel 80 = R80 from rfl, R80, show T.rel 89 = R89 from rfl, R89, show T.rel 108003 = R108003 from rfl, R108003, show T.mu 108003 = M108003 from rfl, M108003, show T.pre 37 = Q37 from rfl, Q37, show T.pre 51 = Q51 from rfl, Q51, show T.pre 80 = Q80 from rfl, Q80, show T.pre 89 = Q89 from rfl, Q89]
  revert hp hl1
  generalize (E.r 0).i 0 = base
  generalize (E.r 0).l 1 = xs
  generalize (E.r 65542).c 0 = x6_0
  generalize (E.r 65542).l 1 = x6_1
  generalize (E.r 65542).c 2 = x6_2
  generalize (E.r 65542).l 3 = x6_3
  generalize (E.r 65542).i 4 = x6_4
  generalize (E.r 65546).c 0 = x10_0
  generalize (E.r 65546).l 1 = x10_1
  generalize (E.r 65554).c 0 = x18_0
  generalize (E.r 65554).l 1 = x18_1
  generalize (E.r 65559).c 0 = x23_0
  generalize (E.r 65559).l 1 = x23_1
  generalize (E.r 65569).i 0 = x33_0
  generalize (E.r 65577).i 0 = x41_0
  generalize (E.r 65579).i 0 = x43_0
  generalize (E.r 65582).i 0 = x46_0
  generalize (E.r 65584).i 0 = x48_0
  generalize (E.r 65586).i 0 = x50_0
  try simp only [Bg]
  try generalize bval x6_0 x6_1 = y6_0
  try generalize bval x6_2 x6_3 = y6_2
  try generalize bval x10_0 x10_1 = y10_0
  try generalize bval x18_0 x18_1 = y18_0
  try generalize bval x23_0 x23_1 = y23_0
  try simp only [mxI, mnI]
  try simp only [ltb, leb, eqb, Int.lt_irrefl, decide_false, Int.le_refl, decide_true]
  simp only [bval_nil]
  intro hl hp
  obtain ⟨hb, hk, hn⟩ := hp
  have B0 := BOK_nil
  have hS := SPR_le base xs
  refine ⟨fun ⟨i0, i1, i2, i3, i4, i5⟩ => ?_, fun n => n ⟨trivial, by omega, B0, B0, rfl, rfl⟩⟩
  obtain ⟨k, rfl⟩ := Int.eq_ofNat_of_zero_le i0
  have ew : ((k : Int) + 1 + 9223372036854775808) % 18446744073709551616 - 9223372036854775808 = ((k + 1 : Nat) : Int) := by omega
  simp only [Int.toNat_natCast] at i4 i5
  simp only [ew, Int.toNat_natCast]
  have hkk := hk k
  have bl := mnF_bd (f := tf 0 base xs) (tf_le 0 base xs) (by decide) k
  have bh := mxF_bd (f := tg base xs) (tg_le base xs) (by decide) (2 * k)
  have a := mnF_step (tf 0 base xs) k
  have b := mxF_step (tg base xs) (2 * k)
  have c := mxF_step (tg base xs) (2 * k + 1)
  have tp := tf_le 0 base xs k
  have td := tg_le base xs (2 * k + 1)
  have et : (Sy.rowAt xs k 0 - base + 9223372036854775808) % 18446744073709551616 - 9223372036854775808 = tf 0 base xs k := rfl
  have eg : tg base xs (2 * k) = tf 0 base xs k := by simp only [tg, tf, show 2 * k / 2 = k by omega, show 2 * k % 2 = 0 by omega, if_true]
  have ed : (Sy.rowAt xs k 4 - base + 9223372036854775808) % 18446744073709551616 - 9223372036854775808 = tg base xs (2 * k + 1) := by
    simp only [tg, show (2 * k + 1) / 2 = k by omega, show ¬ (2 * k + 1) % 2 = 0 by omega, if_false]
  rw [eg] at b
  rw [← i4] at a bl
  rw [← i5] at b bh
  rw [show 2 * (k + 1) = 2 * k + 1 + 1 by omega]
  simp only [et, ed]
  refine ⟨fun cge => ?_, ?_⟩
  case refine_1 => exact ⟨fun ⟨q1, q2⟩ => ⟨q1, by rw [q2, i4, i5, show k = xs.length by omega]; rfl⟩, fun n => n ⟨⟨i3, by omega, by omega⟩, i2, by omega, by omega⟩⟩
  clear i4 i5 et ed eg ew hS
  generalize tf 0 base xs k = P at *
  generalize tg base xs (2 * k + 1) = D at *
  generalize mnF (tf 0 base xs) (k + 1) = M1 at *
  generalize mxF (tg base xs) (2 * k + 1) = X1 at *
  generalize mxF (tg base xs) (2 * k + 1 + 1) = X2 at *
  repeat' (first | assumption | (intro (h : _ ∧ _); obtain ⟨h1, h2⟩ := h; (first | (subst h1; revert h2) | revert h1 h2)) | (intro h; (first | subst h | skip)) | refine And.intro ?_ ?_)
  all_goals try (show False; refine absurd ?_ ‹¬ _›)
  all_goals repeat' (first | assumption | refine And.intro ?_ ?_)
  all_goals first | omega | grind
end Go.Proofs.YthlcpdjpnbbaeaaGreatDoor.Fn
namespace Go.Proofs.YthlcpdjpnbbaeaaGreatDoor.Fn
open Go Go.RowKit Go.Proofs.YthlcpdjpnbbaeaaGreatDoor.Sy
set_option linter.unusedVariables false
set_option linter.unusedSimpArgs false
set_option maxRecDepth 100000
def t36 : Tr :=
  .br (.f (.rel 80 [.num (.v 0 0), .lst 0 1] 65539 [.bool, .list [.int .i64]]) <|
   .br (.f (.rel 81 [.num (.n 62)] 65540 [.bool, .list [.int .i64]]) <|
    .br (.f (.rel 37 [.tru (.v 65539 0), .lst 65539 1, .tru (.v 65540 0), .lst 65540 1] 65541 [.int .i64]) <|
     .ok [.tru (.le (.v 65541 0) (.n 0))])
    (.f (.npre 37 [.tru (.v 65539 0), .lst 65539 1, .tru (.v 65540 0), .lst 65540 1]) <|
     .bad))
   (.f (.npre 81 [.num (.n 62)]) <|
    .bad))
  (.f (.npre 80 [.num (.v 0 0), .lst 0 1]) <|
   .bad)
theorem c36 : ConS Tryz.prog T C36 := con_tr (cs := [C37, C80, C81]) (lcs := []) (known := []) (cons_cons c37 (cons_cons c80 (cons_cons c81 (cons_nil _ _)))) (Known.nil _) (N := 400) (d := 40) (t := t36) (by kernel_rfl) <| by
  intro E hl hp
  have hl1 := hl 1 _ rfl
  clear hl
  have hp := hp rfl
  simp only [C36, show T.pre 36 = Q36 from rfl, flatS, SP.flat, dvs, List.append_nil, List.cons_append, List.nil_append, Q36, U64, U32, I64, Big, W, wv, s64, WT, PR, MR, MB] at hp
  simp only [t36, C36, Tr.good, Fact.den, LX.den, DX.ls, DV.ls, DX.den, Bx.den, Ex.den, eo_add, eo_sub, eo_mul, eo_quo, eo_rem, eo_fdv, eo_mn, eo_mx, eo_land, eo_lor, eo_lxor, eo_landn, eo_shl, eo_shr, dvs, flatS, SP.flat, ST.flat, List.map_cons, List.map_nil, List.append_nil, List.cons_append, List.nil_append, ltb_t, ltb_f, leb_t, leb_f, eqb_t, eqb_f, decide_eq_true_eq, decide_eq_false_iff_not, Bool.not_eq_true', Bool.not_eq_false', Bool.and_eq_true, Bool.and_eq_false_imp, beq_iff_eq, beq_eq_false_iff_ne, bne_iff_ne, U64, U32, I64, Big, W, wv, Told, s64, WT, PR, MR, MB, Int.zero_mul, Int.zero_add, Int.add_zero, Int.mul_zero, IntKind.wrap_u64, IntKind.wrap_i64, IntKind.wrap_u32, ne_eq, forall_const, true_implies, show T.rel 36 = R36 from rfl, R36, show T.rel 37 = R37 from rfl, R37, show T.rel 80 = R80 from rfl, R80, show T.rel 81 = R81 from rfl, R81, show T.pre 36 = Q36 from rfl, Q36, show T.pre 37 = Q37 from rfl, Q37, show T.pre 80 = Q80 from rfl, Q80, show T.pre 81 = Q81 from rfl, Q81]
  revert hp hl1
  generalize (E.r 0).i 0 = base
  generalize (E.r 0).l 1 = xs
  generalize (E.r 65539).c 0 = x3_0
  generalize (E.r 65539).l 1 = x3_1
  generalize (E.r 65540).c 0 = x4_0
  generalize (E.r 65540).l 1 = x4_1
  generalize (E.r 65541).i 0 = x5_0
  try simp only [Bg]
  try generalize bval x3_0 x3_1 = y3_0
  try generalize bval x4_0 x4_1 = y4_0
  try simp only [mxI, mnI]
  try simp only [ltb, leb, eqb, Int.lt_irrefl, decide_false, Int.le_refl, decide_true]
  intro hl hp
  rw [p2_62]
  have h := SPR_le base xs
  repeat' (first | assumption | (intro (h : _ ∧ _); obtain ⟨h1, h2⟩ := h; (first | (subst h1; revert h2) | revert h1 h2)) | (intro h; (first | subst h | skip)) | refine And.intro ?_ ?_)
  all_goals try (show False; refine absurd ?_ ‹¬ _›)
  all_goals repeat' (first | assumption | refine And.intro ?_ ?_)
  all_goals first | omega | grind
end Go.Proofs.YthlcpdjpnbbaeaaGreatDoor.Fn
namespace Go.Proofs.YthlcpdjpnbbaeaaGreatDoor.Fn
open Go Go.RowKit Go.Proofs.YthlcpdjpnbbaeaaGreatDoor.Sy
set_option linter.unusedVariables false
set_option linter.unusedSimpArgs false
set_option maxRecDepth 100000
def t39 : Tr :=
  .br (.f (.rel 36 [.num (.v 0 0), .lst 0 1] 65539 [.bool]) <|
   .br (.f (.is (.v 65539 0) false) <|
    .ok [.tru (.lt (.n 0) (.n 0)), .rows []])
   (.f (.is (.v 65539 0) true) <|
    .br (.f (.rel 81 [.num (.n 62)] 65541 [.bool, .list [.int .i64]]) <|
     .br (.f (.rel 80 [.num (.v 0 0), .lst 0 1] 65544 [.bool, .list [.int .i64]]) <|
      .br (.f (.rel 51 [.tru (.v 65541 0), .lst 65541 1, .tru (.v 65544 0), .lst 65544 1] 65545 [.bool, .list [.int .i64]]) <|
       .ok [.tru (.v 65545 0), .lst 65545 1])
      (.f (.npre 51 [.tru (.v 65541 0), .lst 65541 1, .tru (.v 65544 0), .lst 65544 1]) <|
       .bad))
     (.f (.npre 80 [.num (.v 0 0), .lst 0 1]) <|
      .bad))
    (.f (.npre 81 [.num (.n 62)]) <|
     .bad)))
  (.f (.npre 36 [.num (.v 0 0), .lst 0 1]) <|
   .bad)
theorem c39 : ConS Tryz.prog T C39 := con_tr (cs := [C36, C51, C80, C81]) (lcs := []) (known := []) (cons_cons c36 (cons_cons c51 (cons_cons c80 (cons_cons c81 (cons_nil _ _))))) (Known.nil _) (N := 400) (d := 40) (t := t39) (by kernel_rfl) <| by
  intro E hl hp
  have hl1 := hl 1 _ rfl
  clear hl
  have hp := hp rfl
  simp only [C39, show T.pre 39 = Q39 from rfl, flatS, SP.flat, dvs, List.append_nil, List.cons_append, List.nil_append, Q39, U64, U32, I64, Big, W, wv, s64, WT, PR, MR, MB] at hp
  simp only [t39, C39, Tr.good, Fact.den, LX.den, DX.ls, DV.ls, DX.den, Bx.den, Ex.den, eo_add, eo_sub, eo_mul, eo_quo, eo_rem, eo_fdv, eo_mn, eo_mx, eo_land, eo_lor, eo_lxor, eo_landn, eo_shl, eo_shr, dvs, flatS, SP.flat, ST.flat, List.map_cons, List.map_nil, List.append_nil, List.cons_append, List.nil_append, ltb_t, ltb_f, leb_t, leb_f, eqb_t, eqb_f, decide_eq_true_eq, decide_eq_false_iff_not, Bool.not_eq_true', Bool.not_eq_false', Bool.and_eq_true, Bool.and_eq_false_imp, beq_iff_eq, beq_eq_false_iff_ne, bne_iff_ne, U64, U32, I64, Big, W, wv, Told, s64, WT, PR, MR, MB, Int.zero_mul, Int.zero_add, Int.add_zero, Int.mul_zero, IntKind.wrap_u64, IntKind.wrap_i64, IntKind.wrap_u32, ne_eq, forall_const, true_implies, show T.rel 36 = R36 from rfl, R36, show T.rel 39 = R39 from rfl, R39, show T.rel 51 = R51 from rfl, R51, show T.rel 80 = R80 from rfl, R80, show T.rel 81 = R81 from rfl, R81, show T.pre 36 = Q36 from rfl, Q36, show T.pre 39 = Q39 from rfl, Q39, show T.pre 51 = Q51 from rfl, Q51, show T.pre 80 = Q80 from rfl, Q80, show T.pre 81 = Q81 from rfl, Q81]
  revert hp hl1
  generalize (E.r 0).i 0 = base
  generalize (E.r 0).l 1 = xs
  generalize (E.r 65539).c 0 = x3_0
  generalize (E.r 65541).c 0 = x5_0
  generalize (E.r 65541).l 1 = x5_1
  generalize (E.r 65544).c 0 = x8_0
  generalize (E.r 65544).l 1 = x8_1
  generalize (E.r 65545).c 0 = x9_0
  generalize (E.r 65545).l 1 = x9_1
  try simp only [Bg]
  try generalize bval x5_0 x5_1 = y5_0
  try generalize bval x8_0 x8_1 = y8_0
  try generalize bval x9_0 x9_1 = y9_0
  try simp only [mxI, mnI]
  try simp only [ltb, leb, eqb, Int.lt_irrefl, decide_false, Int.le_refl, decide_true]
  simp only [bval_nil]
  intro hl hp
  rw [p2_62]
  have B0 := BOK_nil
  have h := SPR_le base xs
  repeat' (first | assumption | (intro (h : _ ∧ _); obtain ⟨h1, h2⟩ := h; (first | (subst h1; revert h2) | revert h1 h2)) | (intro h; (first | subst h | skip)) | refine And.intro ?_ ?_)
  all_goals try (show False; refine absurd ?_ ‹¬ _›)
  all_goals repeat' (first | assumption | refine And.intro ?_ ?_)
  all_goals first | omega | grind
end Go.Proofs.YthlcpdjpnbbaeaaGreatDoor.Fn
