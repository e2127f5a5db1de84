/- What is told of turnstone/turnstonelaw13.SpanBases, shown. -/
import Derived.Test.YthlcpdjpnbbaeaaGreatDoorTab
import Derived.Test.YthlcpdjpnbbaeaaGreatDoorFq2
import Derived.Test.YthlcpdjpnbbaeaaGreatDoorSyAwake5
namespace Go.Proofs.YthlcpdjpnbbaeaaGreatDoor.Fn
open Go Go.RowKit Go.Proofs.YthlcpdjpnbbaeaaGreatDoor.Sy
set_option linter.unusedVariables false
set_option linter.unusedSimpArgs false
set_option maxRecDepth 100000
open Go.Proofs.YthlcpdjpnbbaeaaGreatDoor.Awake
def t8 : Tr :=
  .br (.f (.is (.lt (.n 32) (.len 0 0)) true) <|
   .ok [.tru (.le (.n 0) (.n 0))])
  (.f (.is (.lt (.n 32) (.len 0 0)) false) <|
   .br (.f (.is (.eq (.len 0 0) (.n 0)) true) <|
    .ok [.tru (.le (.n 0) (.n 0))])
   (.f (.is (.eq (.len 0 0) (.n 0)) false) <|
    .br (.f (.is (.lt (.n 0) (.len 0 0)) true) <|
     .br (.f (.rel 100807 [.lst 0 0, .num (.at 0 0 (.n 0) 0), .num (.n 0)] 65556 [.int .u64, .int .i64]) <|
      .br (.f (.is (.lt (.v 65556 1) (.len 0 0)) true) <|
       .br (.f (.is (.lt (.v 65556 1) (.n 0)) false) <|
        .br (.f (.rel 32 [.num (.at 0 0 (.v 65556 1) 0), .num (.at 0 0 (.v 65556 1) 1), .num (.at 0 0 (.v 65556 1) 2), .num (.at 0 0 (.v 65556 1) 3), .num (.at 0 0 (.v 65556 1) 4), .num (.at 0 0 (.v 65556 1) 5), .num (.at 0 0 (.v 65556 1) 6)] 65563 [.bool]) <|
         .br (.f (.is (.v 65563 0) false) <|
          .ok [.tru (.le (.n 0) (.n 0))])
         (.f (.is (.v 65563 0) true) <|
          .f (.rel 14 [.num (.at 0 0 (.v 65556 1) 4), .num (.at 0 0 (.n 0) 0)] 65574 [.int .i64]) <|
           .br (.f (.is (.lt (.v 65574 0) (.n (-4611686018427387904))) true) <|
            .ok [.tru (.le (.n 0) (.n 0))])
           (.f (.is (.lt (.v 65574 0) (.n (-4611686018427387904))) false) <|
            .f (.rel 14 [.num (.at 0 0 (.v 65556 1) 0), .num (.at 0 0 (.n 0) 0)] 65586 [.int .i64]) <|
             .br (.f (.is (.lt (.v 65586 0) (.n (-4611686018427387904))) true) <|
              .ok [.tru (.le (.n 0) (.n 0))])
             (.f (.is (.lt (.v 65586 0) (.n (-4611686018427387904))) false) <|
              .f (.rel 40 [.num (.v 65556 0), .rows [[.at 0 0 (.v 65556 1) 0]]] 65594 [.int .u64]) <|
               .br (.f (.nrel 100807 [.lst 0 0, .num (.at 0 0 (.n 0) 0), .num (.n 0)] [.num (.v 65594 0), .num (.wrap .i64 (.bin .add (.v 65556 1) (.n 1)))]) <|
                .bad)
               (.f (.ndec 100807 [.lst 0 0, .num (.at 0 0 (.n 0) 0), .num (.n 0)] [.num (.v 65556 0), .num (.v 65556 1)] [.num (.v 65594 0), .num (.wrap .i64 (.bin .add (.v 65556 1) (.n 1)))]) <|
                .bad)))))
        (.f (.npre 32 [.num (.at 0 0 (.v 65556 1) 0), .num (.at 0 0 (.v 65556 1) 1), .num (.at 0 0 (.v 65556 1) 2), .num (.at 0 0 (.v 65556 1) 3), .num (.at 0 0 (.v 65556 1) 4), .num (.at 0 0 (.v 65556 1) 5), .num (.at 0 0 (.v 65556 1) 6)]) <|
         .bad))
       (.f (.is (.lt (.v 65556 1) (.n 0)) true) <|
        .bad))
      (.f (.is (.lt (.v 65556 1) (.len 0 0)) false) <|
       .br (.f (.rel 41 [.num (.at 0 0 (.n 0) 0), .lst 0 0] 65564 [.int .u64]) <|
        .br (.f (.rel 31 [.num (.at 0 0 (.n 0) 0), .lst 0 0] 65572 [.bool]) <|
         .br (.f (.is (.v 65572 0) false) <|
          .ok [.tru (.le (.n 0) (.n 0))])
         (.f (.is (.v 65572 0) true) <|
          .br (.f (.rel 33 [.lst 0 0] 65575 [.int .u64, .bool]) <|
           .br (.f (.rel 100819 [.lst 0 0, .num (.v 0 1), .rows [], .num (.n 0)] 65585 [.list [.int .u64, .int .u32, .int .u32, .int .i64, .int .u64, .int .u32, .int .u32], .int .i64]) <|
            .br (.f (.is (.lt (.v 65585 1) (.len 0 0)) true) <|
             .br (.f (.is (.lt (.v 65585 1) (.n 0)) false) <|
              .br (.f (.rel 41 [.num (.at 0 0 (.v 65585 1) 0), .lst 0 0] 65595 [.int .u64]) <|
               .br (.f (.is (.eq (.v 65595 0) (.v 65564 0)) false) <|
                .ok [.tru (.lt (.n 0) (.n 0))])
               (.f (.is (.eq (.v 65595 0) (.v 65564 0)) true) <|
                .f (.rel 42 [.num (.at 0 0 (.v 65585 1) 0), .num (.at 0 0 (.v 65585 1) 1), .num (.at 0 0 (.v 65585 1) 2), .num (.at 0 0 (.v 65585 1) 3), .num (.at 0 0 (.v 65585 1) 4), .num (.at 0 0 (.v 65585 1) 5), .num (.at 0 0 (.v 65585 1) 6), .num (.v 0 1)] 65601 [.int .u64, .int .u32, .int .u32, .int .i64, .int .u64, .int .u32, .int .u32]) <|
                 .br (.f (.is (.le (.len 65585 0) (.n 1000000000)) false) <|
                  .bad)
                 (.f (.is (.le (.len 65585 0) (.n 1000000000)) true) <|
                  .f (.lseq 65603 (.app (.lst 65585 0) (.rows [[.v 65601 0, .v 65601 1, .v 65601 2, .v 65601 3, .v 65601 4, .v 65601 5, .v 65601 6]]))) <|
                   .br (.f (.nrel 100819 [.lst 0 0, .num (.v 0 1), .rows [], .num (.n 0)] [.lst 65603 0, .num (.wrap .i64 (.bin .add (.v 65585 1) (.n 1)))]) <|
                    .bad)
                   (.f (.ndec 100819 [.lst 0 0, .num (.v 0 1), .rows [], .num (.n 0)] [.lst 65585 0, .num (.v 65585 1)] [.lst 65603 0, .num (.wrap .i64 (.bin .add (.v 65585 1) (.n 1)))]) <|
                    .bad))))
              (.f (.npre 41 [.num (.at 0 0 (.v 65585 1) 0), .lst 0 0]) <|
               .bad))
             (.f (.is (.lt (.v 65585 1) (.n 0)) true) <|
              .bad))
            (.f (.is (.lt (.v 65585 1) (.len 0 0)) false) <|
             .br (.f (.rel 33 [.lst 65585 0] 65588 [.int .u64, .bool]) <|
              .br (.f (.is (.v 65575 1) true) <|
               .br (.f (.is (.v 65588 1) true) <|
                .br (.f (.rel 41 [.num (.v 65575 0), .lst 0 0] 65601 [.int .u64]) <|
                 .br (.f (.is (.eq (.v 65601 0) (.v 65564 0)) true) <|
                  .br (.f (.rel 41 [.num (.v 65556 0), .lst 0 0] 65608 [.int .u64]) <|
                   .br (.f (.is (.eq (.v 65608 0) (.v 65564 0)) true) <|
                    .br (.f (.is (.eq (.v 65588 0) (.wrap .u64 (.bin .add (.v 65575 0) (.v 0 1)))) true) <|
                     .br (.f (.rel 41 [.num (.v 65588 0), .lst 65585 0] 65622 [.int .u64]) <|
                      .br (.f (.is (.eq (.v 65622 0) (.v 65564 0)) true) <|
                       .br (.f (.rel 30 [.num (.v 65575 0), .lst 0 0] 65629 [.int .u64]) <|
                        .ok [.tru (.eq (.v 65629 0) (.wrap .u64 (.bin .sub (.n 4611686018427387904) (.v 65564 0))))])
                       (.f (.npre 30 [.num (.v 65575 0), .lst 0 0]) <|
                        .bad))
                      (.f (.is (.eq (.v 65622 0) (.v 65564 0)) false) <|
                       .ok [.tru (.lt (.n 0) (.n 0))]))
                     (.f (.npre 41 [.num (.v 65588 0), .lst 65585 0]) <|
                      .bad))
                    (.f (.is (.eq (.v 65588 0) (.wrap .u64 (.bin .add (.v 65575 0) (.v 0 1)))) false) <|
                     .ok [.tru (.lt (.n 0) (.n 0))]))
                   (.f (.is (.eq (.v 65608 0) (.v 65564 0)) false) <|
                    .ok [.tru (.lt (.n 0) (.n 0))]))
                  (.f (.npre 41 [.num (.v 65556 0), .lst 0 0]) <|
                   .bad))
                 (.f (.is (.eq (.v 65601 0) (.v 65564 0)) false) <|
                  .ok [.tru (.lt (.n 0) (.n 0))]))
                (.f (.npre 41 [.num (.v 65575 0), .lst 0 0]) <|
                 .bad))
               (.f (.is (.v 65588 1) false) <|
                .ok [.tru (.lt (.n 0) (.n 0))]))
              (.f (.is (.v 65575 1) false) <|
               .ok [.tru (.lt (.n 0) (.n 0))]))
             (.f (.npre 33 [.lst 65585 0]) <|
              .bad)))
           (.f (.nrel 100819 [.lst 0 0, .num (.v 0 1), .rows [], .num (.n 0)] [.rows [], .num (.n 0)]) <|
            .bad))
          (.f (.npre 33 [.lst 0 0]) <|
           .bad)))
        (.f (.npre 31 [.num (.at 0 0 (.n 0) 0), .lst 0 0]) <|
         .bad))
       (.f (.npre 41 [.num (.at 0 0 (.n 0) 0), .lst 0 0]) <|
        .bad)))
     (.f (.nrel 100807 [.lst 0 0, .num (.at 0 0 (.n 0) 0), .num (.n 0)] [.num (.at 0 0 (.n 0) 0), .num (.n 0)]) <|
      .bad))
    (.f (.is (.lt (.n 0) (.len 0 0)) false) <|
     .bad)))
theorem c8 : ConS Tryz.prog T C8 := con_tr (cs := [C14, C30, C31, C32, C33, C40, C41, C42]) (lcs := [L100807, L100819]) (known := [29, 75, 22, 65, 104, 115, 19, 55, 9, 44, 85, 110, 120, 131, 140, 130, 139, 150, 161, 179, 182, 178, 181, 190, 191]) (cons_cons c14 (cons_cons c30 (cons_cons c31 (cons_cons c32 (cons_cons c33 (cons_cons c40 (cons_cons c41 (cons_cons c42 (cons_nil _ _))))))))) known29 (N := 400) (d := 40) (t := t8) (by kernel_rfl) <| by
  intro E hl hp
  have hl0 := hl 0 _ rfl
  clear hl
  have hp := hp rfl
  simp only [C8, show T.pre 8 = Q8 from rfl, flatS, SP.flat, dvs, List.append_nil, List.cons_append, List.nil_append, Q8, U64, U32, I64, Big, W, wv, s64, WT, PR, MR, MB] at hp
  simp only [t8, C8, Tr.good, Fact.den, LX.den, DX.ls, DV.ls, DX.den, Bx.den, Ex.den, eo_add, eo_sub, eo_mul, eo_quo, eo_rem, eo_fdv, eo_mn, eo_mx, eo_land, eo_lor, eo_lxor, eo_landn, eo_shl, eo_shr, dvs, flatS, SP.flat, ST.flat, List.map_cons, List.map_nil, List.append_nil, List.cons_append, List.nil_append, ltb_t, ltb_f, leb_t, leb_f, eqb_t, eqb_f, decide_eq_true_eq, decide_eq_false_iff_not, Bool.not_eq_true', Bool.not_eq_false', Bool.and_eq_true, Bool.and_eq_false_imp, beq_iff_eq, beq_eq_false_iff_ne, bne_iff_ne, U64, U32, I64, Big, W, wv, Told, s64, WT, PR, MR, MB, Int.zero_mul, Int.zero_add, Int.add_zero, Int.mul_zero, IntKind.wrap_u64, IntKind.wrap_i64, IntKind.wrap_u32, ne_eq, forall_const, true_implies, show T.rel 8 = R8 from rfl, R8, show T.rel 14 = R14 from rfl, R14, show T.rel 30 = R30 from rfl, R30, show T.rel 31 = R31 from rfl, R31, show T.rel 32 = R32 from rfl, R32, show T.rel 33 = R33 from rfl, R33, show T.rel 40 = R40 from rfl, R40, show T.rel 41 = R41 from rfl, R41, show T.rel 42 = R42 from rfl, R42, show T.rel 100807 = R100807 from rfl, R100807, show T.rel 100819 = R100819 from rfl, R100819, show T.mu 100807 = M100807 from rfl, M100807, show T.mu 100819 = M100819 from rfl, M100819, show T.pre 8 = Q8 from rfl, Q8, show T.pre 30 = Q30 from rfl, Q30, show T.pre 31 = Q31 from rfl, Q31, show T.pre 32 = Q32 from rfl, Q32, show T.pre 33 = Q33 from rfl, Q33, show T.pre 41 = Q41 from rfl, Q41]
  revert hp hl0
  generalize (E.r 0).l 0 = xs
  generalize (E.r 0).i 1 = y
  generalize (E.r 65556).i 0 = x20_0
  generalize (E.r 65556).i 1 = x20_1
  generalize (E.r 65563).c 0 = x27_0
  generalize (E.r 65564).i 0 = x28_0
  generalize (E.r 65572).c 0 = x36_0
  generalize (E.r 65574).i 0 = x38_0
  generalize (E.r 65575).i 0 = x39_0
  generalize (E.r 65575).c 1 = x39_1
  generalize (E.r 65585).l 0 = x49_0
  generalize (E.r 65585).i 1 = x49_1
  generalize (E.r 65586).i 0 = x50_0
  generalize (E.r 65588).i 0 = x52_0
  generalize (E.r 65588).c 1 = x52_1
  generalize (E.r 65594).i 0 = x58_0
  generalize (E.r 65595).i 0 = x59_0
  generalize (E.r 65601).i 0 = x65_0
  generalize (E.r 65601).i 1 = x65_1
  generalize (E.r 65601).i 2 = x65_2
  generalize (E.r 65601).i 3 = x65_3
  generalize (E.r 65601).i 4 = x65_4
  generalize (E.r 65601).i 5 = x65_5
  generalize (E.r 65601).i 6 = x65_6
  generalize (E.r 65603).l 0 = x67_0
  generalize (E.r 65608).i 0 = x72_0
  generalize (E.r 65622).i 0 = x86_0
  generalize (E.r 65629).i 0 = x93_0
  try simp only [mxI, mnI]
  try simp only [ltb, leb, eqb, Int.lt_irrefl, decide_false, Int.le_refl, decide_true]
  intro hl hp
  obtain ⟨hk, hy⟩ := hp
  refine ⟨fun _ => trivial, fun c1 => ⟨fun _ => trivial, fun c2 => ⟨fun c3 => ⟨fun ⟨i0, i1, i2, i3⟩ => ⟨fun c4 => ⟨fun _ => ⟨fun e27 => ⟨fun _ => trivial, fun t27 e38 => ⟨fun _ => trivial, fun c5 e50 => ⟨fun _ => trivial, fun c6 e58 => ?_⟩⟩⟩, fun n => n ?_⟩, fun h => by omega⟩, fun c4 => ?_⟩, fun n => n ⟨trivial, by omega, ⟨0, by omega, rfl⟩, IRR.nil _⟩⟩, fun h => by omega⟩⟩⟩
  · obtain ⟨k, rfl⟩ := Int.eq_ofNat_of_zero_le i0
    have ew : ((k : Int) + 1 + 9223372036854775808) % 18446744073709551616 - 9223372036854775808 = ((k + 1 : Nat) : Int) := by omega
    simp only [Int.toNat_natCast] at i3
    simp only [ew, Int.toNat_natCast]
    obtain ⟨j, hj, ej⟩ := i2
    have r := e27.1 t27
    rw [e50] at c6
    have e : x58_0 = if s64 (Sy.rowAt xs k 0 - x20_0) < 0 then Sy.rowAt xs k 0 else x20_0 := e58
    refine ⟨fun n => n ⟨by omega, by omega, ?_, IRR.succ.2 ⟨i3, r.1, r.2.2.2.2.1, r.2.2.2.2.2, c6⟩⟩, by omega⟩
    rw [e]
    split
    · exact ⟨k, by omega, rfl⟩
    · exact ⟨j, hj, ej⟩
  · obtain ⟨k, rfl⟩ := Int.eq_ofNat_of_zero_le i0
    exact hk k
  · have hI : IRR xs xs.length := by
      have e : x20_1.toNat = xs.length := by omega
      rw [e] at i3
      exact i3
    obtain ⟨j0, hj0, ej0⟩ := i2
    refine ⟨fun e28 => ⟨fun e36 => ⟨fun _ => trivial, fun t36 => ?_⟩, fun n => n (by omega)⟩, fun n => n (by omega)⟩
    have hS := e36.1 t36
    obtain ⟨hN, hr, lo0, hi0, lo1⟩ := NR_of hI (by omega) hS
    have apx := hI.ap
    have sw := SW_le apx
    have mid := SA_mid (b := Sy.rowAt xs 0 0) (lo := MNI (Sy.rowAt xs 0 0) xs) (hi := MXI (Sy.rowAt xs 0 0) xs) hk.rk apx (fun j hj => ⟨(hN j hj).1, (hN j hj).2.1⟩)
    have base : ∀ j : Nat, j < xs.length → SPR (Sy.rowAt xs j 0) xs = SPR (Sy.rowAt xs 0 0) xs := fun j hj => SPR_base (by omega) hr hN (hN j hj).1 (hN j hj).2.1
    have q0 : MNI (Sy.rowAt xs 0 0) xs ≤ SA (Sy.rowAt xs 0 0) xs xs.length / SW xs xs.length := by
      apply Int.le_ediv_of_mul_le (by omega)
      exact mid.1
    have q1 : SA (Sy.rowAt xs 0 0) xs xs.length / SW xs xs.length ≤ MXI (Sy.rowAt xs 0 0) xs := by
      have : SA (Sy.rowAt xs 0 0) xs xs.length / SW xs xs.length < MXI (Sy.rowAt xs 0 0) xs + 1 := by
        apply Int.ediv_lt_of_lt_mul (by omega)
        omega
      omega
    have hb := SPR_le (Sy.rowAt xs 0 0) xs
    refine ⟨fun ⟨a1, a2, a3⟩ => ⟨fun ⟨l0, l1, l2, l3⟩ => ⟨fun c7 => ⟨fun _ => ⟨fun e59 => ⟨fun ne => ne ?_, fun _ ⟨b0, b1, b2, b3, b4, b5, b6⟩ => ⟨fun h => by omega, fun _ e67 => ?_⟩⟩, fun n => n (by omega)⟩, fun h => by omega⟩, fun c7 => ⟨fun ⟨d1, d2, d3⟩ => ?_, fun n => n ⟨l3.ri hk, by omega⟩⟩⟩, fun n => n ⟨trivial, by omega, rfl, SH.nil _ _⟩⟩, fun n => n ⟨hk, by omega⟩⟩
    · obtain ⟨k, rfl⟩ := Int.eq_ofNat_of_zero_le l0
      rw [e59, e28]
      exact base k (by omega)
    · obtain ⟨k, rfl⟩ := Int.eq_ofNat_of_zero_le l0
      have ew : ((k : Int) + 1 + 9223372036854775808) % 18446744073709551616 - 9223372036854775808 = ((k + 1 : Nat) : Int) := by omega
      simp only [ew]
      have lm : x49_0.length = k := by omega
      subst e67
      exact ⟨fun n => n ⟨by omega, by omega, by simp [lm], SH.snoc l3 lm ⟨b0, b1, b2, b4, b5, b6⟩⟩, by omega⟩
    · have lm : x49_0.length = xs.length := by omega
      have sa := l3.sa (b := Sy.rowAt xs 0 0) (k := x49_0.length) (Nat.le_refl _)
      have ap2 := l3.ap (Nat.le_refl x49_0.length)
      have r0 : Sy.rowAt x49_0 0 0 = (Sy.rowAt xs 0 0 + y) % 18446744073709551616 := (l3 0 (by omega)).1
      rw [r0, sa.1, sa.2, ap2, lm] at d1
      rw [r0, sa.1, sa.2, lm] at d2
      have t39 : x39_1 = true := a1.2 ⟨by omega, by omega, apx, by omega, by omega⟩
      have t52 : x52_1 = true := d1.2 ⟨by omega, by omega, apx, by omega, by omega⟩
      have v39 := a2 t39
      have v52 := d2 t52
      clear mid a1 a2 a3 d1 d2 d3
      generalize SA (Sy.rowAt xs 0 0) xs xs.length / SW xs xs.length = q at *
      have h0 : 0 ≤ Sy.rowAt xs 0 0 ∧ Sy.rowAt xs 0 0 < 18446744073709551616 := (hk 0).1
      have dq : s64 (x39_0 - Sy.rowAt xs 0 0) = q := by
        rw [v39]
        simp only [s64]
        omega
      have S1 : SPR x39_0 xs = SPR (Sy.rowAt xs 0 0) xs := SPR_base (by omega) hr hN (by rw [dq]; exact q0) (by rw [dq]; exact q1)
      have S2 : SPR x20_0 xs = SPR (Sy.rowAt xs 0 0) xs := by rw [ej0]; exact base j0 hj0
      have e52 : x52_0 = (x39_0 + y) % 18446744073709551616 := by
        rw [v39, v52]
        omega
      have S3 : SPR x52_0 x49_0 = SPR (Sy.rowAt xs 0 0) xs := by rw [e52, l3.spr lm]; exact S1
      refine ⟨fun _ => ⟨fun _ => ⟨fun e65 => ⟨fun _ => ⟨fun e72 => ⟨fun _ => ⟨fun _ => ⟨fun e86 => ⟨fun _ => ⟨fun ⟨w1, w2⟩ => ?_, fun n => n (by omega)⟩, fun n => n (by rw [e86, e28]; exact S3)⟩, fun n => n (by omega)⟩, fun n => n e52⟩, fun n => n (by rw [e72, e28]; exact S2)⟩, fun n => n (by omega)⟩, fun n => n (by rw [e65, e28]; exact S1)⟩, fun n => n (by omega)⟩, fun f => absurd (t52.symm.trans f) (by simp)⟩, fun f => absurd (t39.symm.trans f) (by simp)⟩
      rw [S1] at w1
      have := w1 hS
      omega
end Go.Proofs.YthlcpdjpnbbaeaaGreatDoor.Fn
