/- What is told of the functions, shown: (turnstone/pos.Pos).Distance, (turnstone/mean.Mean).Add, turnstone/mean.Of, math/bits.Len64, math/bits.LeadingZeros64, math/bits.Div64. -/
import Derived.Test.YthlcpdjpnbbaeaaGreatDoorFq0
namespace Go.Proofs.YthlcpdjpnbbaeaaGreatDoor.Fn
open Go Go.RowKit Go.Proofs.YthlcpdjpnbbaeaaGreatDoor.Sy
set_option linter.unusedVariables false
set_option linter.unusedSimpArgs false
set_option maxRecDepth 100000
def t91 : Tr :=
  .f (.rel 112 [.num (.wrap .u64 (.v 0 2))] 65541 [.int .i64, .int .u64]) <|
   .f (.rel 14 [.num (.v 0 0), .num (.v 0 3)] 65545 [.int .i64]) <|
    .br (.f (.rel 57 [.num (.v 65541 0), .num (.v 65541 1), .num (.v 65545 0)] 65546 [.int .i64, .int .u64, .bool]) <|
     .f (.rel 112 [.num (.wrap .u64 (.v 0 1))] 65557 [.int .i64, .int .u64]) <|
      .br (.f (.rel 90 [.num (.v 65546 0), .num (.v 65546 1), .num (.v 65557 0), .num (.v 65557 1)] 65558 [.int .i64, .int .u64, .bool]) <|
       .ok [.num (.v 65558 0), .num (.v 65558 1)])
      (.f (.npre 90 [.num (.v 65546 0), .num (.v 65546 1), .num (.v 65557 0), .num (.v 65557 1)]) <|
       .bad))
    (.f (.npre 57 [.num (.v 65541 0), .num (.v 65541 1), .num (.v 65545 0)]) <|
     .bad)
theorem c91 : ConS Tryz.prog T C91 := con_tr (cs := [C14, C57, C90, C112]) (lcs := []) (known := []) (cons_cons c14 (cons_cons c57 (cons_cons c90 (cons_cons c112 (cons_nil _ _))))) (Known.nil _) (N := 400) (d := 40) (t := t91) (by kernel_rfl) <| by
  intro E hl hp
  clear hl
  have hp := hp rfl
  simp only [C91, show T.pre 91 = Q91 from rfl, flatS, SP.flat, dvs, List.append_nil, List.cons_append, List.nil_append, Q91, U64, U32, I64, Big, W, wv, s64, WT, PR, MR, MB] at hp
  simp only [t91, C91, Tr.good, Fact.den, LX.den, DX.ls, DV.ls, DX.den, Bx.den, Ex.den, eo_add, eo_sub, eo_mul, eo_quo, eo_rem, eo_fdv, eo_mn, eo_mx, eo_land, eo_lor, eo_lxor, eo_landn, eo_shl, eo_shr, dvs, flatS, SP.flat, ST.flat, List.map_cons, List.map_nil, List.append_nil, List.cons_append, List.nil_append, ltb_t, ltb_f, leb_t, leb_f, eqb_t, eqb_f, decide_eq_true_eq, decide_eq_false_iff_not, Bool.not_eq_true', Bool.not_eq_false', Bool.and_eq_true, Bool.and_eq_false_imp, beq_iff_eq, beq_eq_false_iff_ne, bne_iff_ne, U64, U32, I64, Big, W, wv, Told, s64, WT, PR, MR, MB, Int.zero_mul, Int.zero_add, Int.add_zero, Int.mul_zero, IntKind.wrap_u64, IntKind.wrap_i64, IntKind.wrap_u32, ne_eq, forall_const, true_implies, show T.rel 14 = R14 from rfl, R14, show T.rel 57 = R57 from rfl, R57, show T.rel 90 = R90 from rfl, R90, show T.rel 91 = R91 from rfl, R91, show T.rel 112 = R112 from rfl, R112, show T.pre 57 = Q57 from rfl, Q57, show T.pre 90 = Q90 from rfl, Q90, show T.pre 91 = Q91 from rfl, Q91]
  revert hp
  generalize (E.r 0).i 0 = t
  generalize (E.r 0).i 1 = r
  generalize (E.r 0).i 2 = w
  generalize (E.r 0).i 3 = base
  generalize (E.r 65541).i 0 = x5_0
  generalize (E.r 65541).i 1 = x5_1
  generalize (E.r 65545).i 0 = x9_0
  generalize (E.r 65546).i 0 = x10_0
  generalize (E.r 65546).i 1 = x10_1
  generalize (E.r 65546).c 2 = x10_2
  generalize (E.r 65557).i 0 = x21_0
  generalize (E.r 65557).i 1 = x21_1
  generalize (E.r 65558).i 0 = x22_0
  generalize (E.r 65558).i 1 = x22_1
  generalize (E.r 65558).c 2 = x22_2
  try simp only [mxI, mnI]
  try simp only [ltb, leb, eqb, Int.lt_irrefl, decide_false, Int.le_refl, decide_true]
  intro hp
  have e1 : w % 18446744073709551616 = w := by omega
  have e2 : r % 18446744073709551616 = r := by omega
  simp only [e1, e2]
  have s := mul_abs (w := w) (s := (t - base + 9223372036854775808) % 18446744073709551616 - 9223372036854775808) (A := 4294967295) (by omega) (by omega) (by omega) (by omega)
  rintro ⟨rfl, rfl⟩ rfl
  simp only [Int.zero_mul, Int.zero_add]
  cases x10_2 <;> cases x22_2 <;> simp only [reduceCtorEq, false_imp_iff, true_imp_iff, true_and, and_true]
  all_goals generalize hz : x5_1 * ((t - base + 9223372036854775808) % 18446744073709551616 - 9223372036854775808) = z at *
  repeat' (first | intro _ | refine And.intro ?_ ?_ | refine Iff.intro ?_ ?_)
  all_goals first | omega | (simp_all; done) | (simp_all; omega)
end Go.Proofs.YthlcpdjpnbbaeaaGreatDoor.Fn
namespace Go.Proofs.YthlcpdjpnbbaeaaGreatDoor.Fn
open Go Go.RowKit Go.Proofs.YthlcpdjpnbbaeaaGreatDoor.Sy
set_option linter.unusedVariables false
set_option linter.unusedSimpArgs false
set_option maxRecDepth 100000
def t54 : Tr :=
  .br (.f (.rel 56 [.num (.v 0 0), .num (.v 0 1), .num (.v 0 2), .num (.v 0 3), .num (.v 0 4)] 65541 [.bool]) <|
   .br (.f (.is (.v 65541 0) false) <|
    .ok [.num (.n 0), .num (.n 0), .num (.n 0), .num (.n 0), .num (.n 0), .tru (.lt (.n 0) (.n 0))])
   (.f (.is (.v 65541 0) true) <|
    .f (.rel 15 [.num (.v 0 5), .num (.v 0 6), .num (.v 0 7)] 65545 [.bool]) <|
     .br (.f (.is (.v 65545 0) false) <|
      .ok [.num (.n 0), .num (.n 0), .num (.n 0), .num (.n 0), .num (.n 0), .tru (.lt (.n 0) (.n 0))])
     (.f (.is (.v 65545 0) true) <|
      .br (.f (.is (.eq (.v 0 4) (.n 32)) true) <|
       .ok [.num (.n 0), .num (.n 0), .num (.n 0), .num (.n 0), .num (.n 0), .tru (.lt (.n 0) (.n 0))])
      (.f (.is (.eq (.v 0 4) (.n 32)) false) <|
       .br (.f (.rel 91 [.num (.v 0 5), .num (.v 0 6), .num (.v 0 7), .num (.v 0 0)] 65558 [.int .i64, .int .u64]) <|
        .br (.f (.rel 90 [.num (.v 0 1), .num (.v 0 2), .num (.v 65558 0), .num (.v 65558 1)] 65559 [.int .i64, .int .u64, .bool]) <|
         .br (.f (.is (.v 65559 2) false) <|
          .ok [.num (.n 0), .num (.n 0), .num (.n 0), .num (.n 0), .num (.n 0), .tru (.lt (.n 0) (.n 0))])
         (.f (.is (.v 65559 2) true) <|
          .ok [.num (.v 0 0), .num (.v 65559 0), .num (.v 65559 1), .num (.wrap .u64 (.bin .add (.v 0 3) (.wrap .u64 (.v 0 7)))), .num (.wrap .i64 (.bin .add (.v 0 4) (.n 1))), .tru (.le (.n 0) (.n 0))]))
        (.f (.npre 90 [.num (.v 0 1), .num (.v 0 2), .num (.v 65558 0), .num (.v 65558 1)]) <|
         .bad))
       (.f (.npre 91 [.num (.v 0 5), .num (.v 0 6), .num (.v 0 7), .num (.v 0 0)]) <|
        .bad)))))
  (.f (.npre 56 [.num (.v 0 0), .num (.v 0 1), .num (.v 0 2), .num (.v 0 3), .num (.v 0 4)]) <|
   .bad)
theorem c54 : ConS Tryz.prog T C54 := con_tr (cs := [C15, C56, C90, C91]) (lcs := []) (known := []) (cons_cons c15 (cons_cons c56 (cons_cons c90 (cons_cons c91 (cons_nil _ _))))) (Known.nil _) (N := 400) (d := 40) (t := t54) (by kernel_rfl) <| by
  intro E hl hp
  clear hl
  have hp := hp rfl
  simp only [C54, show T.pre 54 = Q54 from rfl, flatS, SP.flat, dvs, List.append_nil, List.cons_append, List.nil_append, Q54, U64, U32, I64, Big, W, wv, s64, WT, PR, MR, MB] at hp
  simp only [t54, C54, Tr.good, Fact.den, LX.den, DX.ls, DV.ls, DX.den, Bx.den, Ex.den, eo_add, eo_sub, eo_mul, eo_quo, eo_rem, eo_fdv, eo_mn, eo_mx, eo_land, eo_lor, eo_lxor, eo_landn, eo_shl, eo_shr, dvs, flatS, SP.flat, ST.flat, List.map_cons, List.map_nil, List.append_nil, List.cons_append, List.nil_append, ltb_t, ltb_f, leb_t, leb_f, eqb_t, eqb_f, decide_eq_true_eq, decide_eq_false_iff_not, Bool.not_eq_true', Bool.not_eq_false', Bool.and_eq_true, Bool.and_eq_false_imp, beq_iff_eq, beq_eq_false_iff_ne, bne_iff_ne, U64, U32, I64, Big, W, wv, Told, s64, WT, PR, MR, MB, Int.zero_mul, Int.zero_add, Int.add_zero, Int.mul_zero, IntKind.wrap_u64, IntKind.wrap_i64, IntKind.wrap_u32, ne_eq, forall_const, true_implies, show T.rel 15 = R15 from rfl, R15, show T.rel 54 = R54 from rfl, R54, show T.rel 56 = R56 from rfl, R56, show T.rel 90 = R90 from rfl, R90, show T.rel 91 = R91 from rfl, R91, show T.pre 54 = Q54 from rfl, Q54, show T.pre 56 = Q56 from rfl, Q56, show T.pre 90 = Q90 from rfl, Q90, show T.pre 91 = Q91 from rfl, Q91]
  revert hp
  generalize (E.r 0).i 0 = b
  generalize (E.r 0).i 1 = h
  generalize (E.r 0).i 2 = l
  generalize (E.r 0).i 3 = w
  generalize (E.r 0).i 4 = n
  generalize (E.r 0).i 5 = t
  generalize (E.r 0).i 6 = r
  generalize (E.r 0).i 7 = v
  generalize (E.r 65541).c 0 = x5_0
  generalize (E.r 65545).c 0 = x9_0
  generalize (E.r 65558).i 0 = x22_0
  generalize (E.r 65558).i 1 = x22_1
  generalize (E.r 65559).i 0 = x23_0
  generalize (E.r 65559).i 1 = x23_1
  generalize (E.r 65559).c 2 = x23_2
  try simp only [mxI, mnI]
  try simp only [ltb, leb, eqb, Int.lt_irrefl, decide_false, Int.le_refl, decide_true]
  repeat' (first | intro _ | refine And.intro ?_ ?_ | refine Iff.intro ?_ ?_)
  all_goals first | omega | (simp_all; done) | (simp_all; omega)
end Go.Proofs.YthlcpdjpnbbaeaaGreatDoor.Fn
namespace Go.Proofs.YthlcpdjpnbbaeaaGreatDoor.Fn
open Go Go.RowKit Go.Proofs.YthlcpdjpnbbaeaaGreatDoor.Sy
set_option linter.unusedVariables false
set_option linter.unusedSimpArgs false
set_option maxRecDepth 100000
def t16 : Tr :=
  .br (.f (.rel 101603 [.num (.v 0 0), .lst 0 1, .num (.n 0), .num (.v 0 0), .num (.n 0), .num (.n 0), .num (.n 0), .num (.n 0)] 65545 [.int .i64, .int .u64, .int .i64, .int .u64, .int .u64, .int .i64]) <|
   .br (.f (.is (.lt (.v 65545 0) (.len 0 1)) true) <|
    .br (.f (.is (.lt (.v 65545 0) (.n 0)) false) <|
     .br (.f (.rel 54 [.num (.v 65545 1), .num (.v 65545 2), .num (.v 65545 3), .num (.v 65545 4), .num (.v 65545 5), .num (.at 0 1 (.v 65545 0) 0), .num (.at 0 1 (.v 65545 0) 1), .num (.at 0 1 (.v 65545 0) 2)] 65553 [.int .u64, .int .i64, .int .u64, .int .u64, .int .i64, .bool]) <|
      .br (.f (.is (.v 65553 5) false) <|
       .ok [.num (.n 0), .num (.n 0), .num (.n 0), .num (.n 0), .num (.n 0), .tru (.lt (.n 0) (.n 0))])
      (.f (.is (.v 65553 5) true) <|
       .br (.f (.nrel 101603 [.num (.v 0 0), .lst 0 1, .num (.n 0), .num (.v 0 0), .num (.n 0), .num (.n 0), .num (.n 0), .num (.n 0)] [.num (.wrap .i64 (.bin .add (.v 65545 0) (.n 1))), .num (.v 65553 0), .num (.v 65553 1), .num (.v 65553 2), .num (.v 65553 3), .num (.v 65553 4)]) <|
        .bad)
       (.f (.ndec 101603 [.num (.v 0 0), .lst 0 1, .num (.n 0), .num (.v 0 0), .num (.n 0), .num (.n 0), .num (.n 0), .num (.n 0)] [.num (.v 65545 0), .num (.v 65545 1), .num (.v 65545 2), .num (.v 65545 3), .num (.v 65545 4), .num (.v 65545 5)] [.num (.wrap .i64 (.bin .add (.v 65545 0) (.n 1))), .num (.v 65553 0), .num (.v 65553 1), .num (.v 65553 2), .num (.v 65553 3), .num (.v 65553 4)]) <|
        .bad)))
     (.f (.npre 54 [.num (.v 65545 1), .num (.v 65545 2), .num (.v 65545 3), .num (.v 65545 4), .num (.v 65545 5), .num (.at 0 1 (.v 65545 0) 0), .num (.at 0 1 (.v 65545 0) 1), .num (.at 0 1 (.v 65545 0) 2)]) <|
      .bad))
    (.f (.is (.lt (.v 65545 0) (.n 0)) true) <|
     .bad))
   (.f (.is (.lt (.v 65545 0) (.len 0 1)) false) <|
    .ok [.num (.v 65545 1), .num (.v 65545 2), .num (.v 65545 3), .num (.v 65545 4), .num (.v 65545 5), .tru (.le (.n 0) (.n 0))]))
  (.f (.nrel 101603 [.num (.v 0 0), .lst 0 1, .num (.n 0), .num (.v 0 0), .num (.n 0), .num (.n 0), .num (.n 0), .num (.n 0)] [.num (.n 0), .num (.v 0 0), .num (.n 0), .num (.n 0), .num (.n 0), .num (.n 0)]) <|
   .bad)
theorem c16 : ConS Tryz.prog T C16 := con_tr (cs := [C54]) (lcs := [L101603]) (known := []) (cons_cons c54 (cons_nil _ _)) (Known.nil _) (N := 400) (d := 40) (t := t16) (by kernel_rfl) <| by
  intro E hl hp
  have hl1 := hl 1 _ rfl
  clear hl
  have hp := hp rfl
  simp only [C16, show T.pre 16 = Q16 from rfl, flatS, SP.flat, dvs, List.append_nil, List.cons_append, List.nil_append, Q16, U64, U32, I64, s64, WT, PR, MB] at hp
  simp only [t16, C16, Tr.good, Fact.den, LX.den, DX.ls, DV.ls, DX.den, Bx.den, Ex.den, eo_add, eo_sub, eo_mul, eo_quo, eo_rem, eo_fdv, eo_mn, eo_mx, eo_land, eo_lor, eo_lxor, eo_landn, eo_shl, eo_shr, dvs, flatS, SP.flat, ST.flat, List.map_cons, List.map_nil, List.append_nil, List.cons_append, List.nil_append, ltb_t, ltb_f, leb_t, leb_f, eqb_t, eqb_f, decide_eq_true_eq, decide_eq_false_iff_not, Bool.not_eq_true', Bool.not_eq_false', Bool.and_eq_true, Bool.and_eq_false_imp, beq_iff_eq, beq_eq_false_iff_ne, bne_iff_ne, U64, U32, I64, Told, s64, WT, PR, MB, Int.zero_mul, Int.zero_add, Int.add_zero, Int.mul_zero, IntKind.wrap_u64, IntKind.wrap_i64, IntKind.wrap_u32, ne_eq, forall_const, true_implies, show T.rel 16 = R16 from rfl, R16, show T.rel 54 = R54 from rfl, R54, show T.rel 101603 = R101603 from rfl, R101603, show T.mu 101603 = M101603 from rfl, M101603, show T.pre 16 = Q16 from rfl, Q16, show T.pre 54 = Q54 from rfl, Q54]
  revert hp hl1
  generalize (E.r 0).i 0 = b
  generalize (E.r 0).l 1 = xs
  generalize (E.r 65545).i 0 = x9_0
  generalize (E.r 65545).i 1 = x9_1
  generalize (E.r 65545).i 2 = x9_2
  generalize (E.r 65545).i 3 = x9_3
  generalize (E.r 65545).i 4 = x9_4
  generalize (E.r 65545).i 5 = x9_5
  generalize (E.r 65553).i 0 = x17_0
  generalize (E.r 65553).i 1 = x17_1
  generalize (E.r 65553).i 2 = x17_2
  generalize (E.r 65553).i 3 = x17_3
  generalize (E.r 65553).i 4 = x17_4
  generalize (E.r 65553).c 5 = x17_5
  try simp only [mxI, mnI]
  try simp only [ltb, leb, eqb, Int.lt_irrefl, decide_false, Int.le_refl, decide_true]
  intro hl hk
  have W0 : W 0 0 := by omega
  refine ⟨fun ⟨l0, l1, l2, l3, l4, l5, l6, l7, l8⟩ => ?_, fun n => n ⟨trivial, by omega, by omega, trivial, W0, trivial, rfl, rfl, fun j hj => absurd hj (by simp)⟩⟩
  obtain ⟨k, rfl⟩ := Int.eq_ofNat_of_zero_le l0
  simp only [Int.toNat_natCast] at l6 l7 l8
  subst l3 l5 l6
  have sa := SA_le (b := x9_1) hk l8
  have sw := SW_le l8
  have kk := hk k
  have hm : MR x9_2 x9_3 (SW xs k) k := by
    cases k with
    | zero => simp only [SA, wv] at l7; exact Or.inl ⟨rfl, rfl, by omega, by omega⟩
    | succ k => right; omega
  refine ⟨fun hlt => ⟨fun h0 => ⟨fun ⟨f1, f2, f3⟩ => ?_, fun n => n ⟨l4, by omega, by omega, by omega, by omega⟩⟩, fun h => by omega⟩, fun hge => ?_⟩
  · have e : ((k : Int) + 1 + 9223372036854775808) % 18446744073709551616 - 9223372036854775808 = ((k + 1 : Nat) : Int) := by omega
    simp only [e, Int.toNat_natCast]
    have hS : AP xs (k + 1) ↔ AP xs k ∧ PR (Sy.rowAt xs k 1) (Sy.rowAt xs k 2) := AP.succ
    cases x17_5 with
    | true =>
      obtain ⟨g1, g2, g3, g4⟩ := f1.1 rfl
      obtain ⟨q1, q2, q3, q4, q5⟩ := f2 rfl
      have e1 : SW xs (k + 1) = SW xs k + Sy.rowAt xs k 2 := rfl
      have e2 : SA x9_1 xs (k + 1) = SA x9_1 xs k + rdist x9_1 xs k := rfl
      simp only [reduceCtorEq, false_imp_iff, true_imp_iff, true_and]
      refine ⟨fun n => n ⟨by omega, by omega, by omega, q1, q2, by omega, by omega, ?_, hS.2 ⟨l8, g2⟩⟩, by omega⟩
      rw [q3, e2, l7]
    | false =>
      simp only [reduceCtorEq, false_imp_iff, true_imp_iff, true_and, and_true, false_iff]
      rintro ⟨a1, a2⟩
      have hp := a2 k (by omega)
      have d := rdist_le (b := x9_1) hk hp
      simp only [rdist, s64] at d
      have := f1.2 ⟨hm, hp, by omega, by rw [l7]; omega⟩
      cases this
  · have ek : k = xs.length := by omega
    subst ek
    simp only [true_imp_iff, true_and, and_true, true_iff, false_imp_iff]
    exact ⟨⟨by omega, l8⟩, l4, l7⟩
end Go.Proofs.YthlcpdjpnbbaeaaGreatDoor.Fn
namespace Go.Proofs.YthlcpdjpnbbaeaaGreatDoor.Fn
open Go Go.RowKit Go.Proofs.YthlcpdjpnbbaeaaGreatDoor.Sy
set_option linter.unusedVariables false
set_option linter.unusedSimpArgs false
set_option maxRecDepth 100000

set_option maxHeartbeats 4000000 in
set_option maxRecDepth 100000 in
theorem calls123 (x : Int) (w : World) (h0 : 0 ≤ x) (h1 : x ≤ 18446744073709551615) :
    Calls Tryz.prog 123 #[.int .u64 x] w fun e w' => e = .returned (.int .i64 (Lib.bitLen x.toNat)) ∧ w' = w := by
  go_enter Tryz.func123, Tryz.ntmps123
  go_wp2
  all_goals (go_ret; refine ⟨congrArg Ending.returned (congrArg (Value.int IntKind.i64) ?_), rfl⟩)
  all_goals first
    | (rw [Lib.len8_of (x / 4294967296 / 65536 / 256 % 256) (by omega) (by omega)]
       have e : (x / 4294967296 / 65536 / 256 % 256).toNat = x.toNat / 72057594037927936 := by omega
       have l := Lib.bitLen_le8' (x / 4294967296 / 65536 / 256 % 256) (by omega) (by omega)
       have s := Lib.bitLen_shift56 x.toNat (by omega) (by omega)
       rw [e] at l ⊢
       omega)
    | (rw [Lib.len8_of (x / 4294967296 / 65536 % 256) (by omega) (by omega)]
       have e : (x / 4294967296 / 65536 % 256).toNat = x.toNat / 281474976710656 := by omega
       have l := Lib.bitLen_le8' (x / 4294967296 / 65536 % 256) (by omega) (by omega)
       have s := Lib.bitLen_shift48 x.toNat (by omega) (by omega)
       rw [e] at l ⊢
       omega)
    | (rw [Lib.len8_of (x / 4294967296 / 256 % 256) (by omega) (by omega)]
       have e : (x / 4294967296 / 256 % 256).toNat = x.toNat / 1099511627776 := by omega
       have l := Lib.bitLen_le8' (x / 4294967296 / 256 % 256) (by omega) (by omega)
       have s := Lib.bitLen_shift40 x.toNat (by omega) (by omega)
       rw [e] at l ⊢
       omega)
    | (rw [Lib.len8_of (x / 4294967296 % 256) (by omega) (by omega)]
       have e : (x / 4294967296 % 256).toNat = x.toNat / 4294967296 := by omega
       have l := Lib.bitLen_le8' (x / 4294967296 % 256) (by omega) (by omega)
       have s := Lib.bitLen_shift32 x.toNat (by omega) (by omega)
       rw [e] at l ⊢
       omega)
    | (rw [Lib.len8_of (x / 65536 / 256 % 256) (by omega) (by omega)]
       have e : (x / 65536 / 256 % 256).toNat = x.toNat / 16777216 := by omega
       have l := Lib.bitLen_le8' (x / 65536 / 256 % 256) (by omega) (by omega)
       have s := Lib.bitLen_shift24 x.toNat (by omega) (by omega)
       rw [e] at l ⊢
       omega)
    | (rw [Lib.len8_of (x / 65536 % 256) (by omega) (by omega)]
       have e : (x / 65536 % 256).toNat = x.toNat / 65536 := by omega
       have l := Lib.bitLen_le8' (x / 65536 % 256) (by omega) (by omega)
       have s := Lib.bitLen_shift16 x.toNat (by omega) (by omega)
       rw [e] at l ⊢
       omega)
    | (rw [Lib.len8_of (x / 256 % 256) (by omega) (by omega)]
       have e : (x / 256 % 256).toNat = x.toNat / 256 := by omega
       have l := Lib.bitLen_le8' (x / 256 % 256) (by omega) (by omega)
       have s := Lib.bitLen_shift8 x.toNat (by omega) (by omega)
       rw [e] at l ⊢
       omega)
    | (rw [Lib.len8_of (x % 256) (by omega) (by omega)]
       have e : (x % 256).toNat = x.toNat := by omega
       have l := Lib.bitLen_le8' (x % 256) (by omega) (by omega)
       rw [e] at l ⊢
       omega)
theorem c123 : ConS Tryz.prog T C123 := by
  intro r w _ hp
  have hp : U64 (r.i 0) := hp rfl
  unfold Invoked
  rw [if_pos (by kernel_rfl)]
  refine (calls123 (r.i 0) w hp.1 (by have := hp.2; omega)).mono ?_
  rintro e w' ⟨rfl, rfl⟩
  exact ⟨⟨fun _ => (Lib.bitLen (r.i 0).toNat : Int), fun _ => false, fun _ => [], fun _ => none, fun _ => 0, fun _ => undef⟩, rfl, rfl, Below.refl _ _, fun j ks hj => by match j, hj with | 0, hj => cases hj | _ + 1, hj => cases hj⟩
end Go.Proofs.YthlcpdjpnbbaeaaGreatDoor.Fn
namespace Go.Proofs.YthlcpdjpnbbaeaaGreatDoor.Fn
open Go Go.RowKit Go.Proofs.YthlcpdjpnbbaeaaGreatDoor.Sy
set_option linter.unusedVariables false
set_option linter.unusedSimpArgs false
set_option maxRecDepth 100000
def t113 : Tr :=
  .br (.f (.rel 123 [.num (.v 0 0)] 65538 [.int .i64]) <|
   .ok [.num (.wrap .i64 (.bin .sub (.n 64) (.v 65538 0)))])
  (.f (.npre 123 [.num (.v 0 0)]) <|
   .bad)
theorem c113 : ConS Tryz.prog T C113 := con_tr (cs := [C123]) (lcs := []) (known := []) (cons_cons c123 (cons_nil _ _)) (Known.nil _) (N := 400) (d := 40) (t := t113) (by kernel_rfl) <| by
  intro E hl hp
  clear hl
  have hp := hp rfl
  simp only [C113, show T.pre 113 = Q113 from rfl, flatS, SP.flat, dvs, List.append_nil, List.cons_append, List.nil_append, Q113, U64, U32, I64, Big, W, wv, s64, WT, PR, MR, MB] at hp
  simp only [t113, C113, Tr.good, Fact.den, LX.den, DX.ls, DV.ls, DX.den, Bx.den, Ex.den, eo_add, eo_sub, eo_mul, eo_quo, eo_rem, eo_fdv, eo_mn, eo_mx, eo_land, eo_lor, eo_lxor, eo_landn, eo_shl, eo_shr, dvs, flatS, SP.flat, ST.flat, List.map_cons, List.map_nil, List.append_nil, List.cons_append, List.nil_append, ltb_t, ltb_f, leb_t, leb_f, eqb_t, eqb_f, decide_eq_true_eq, decide_eq_false_iff_not, Bool.not_eq_true', Bool.not_eq_false', Bool.and_eq_true, Bool.and_eq_false_imp, beq_iff_eq, beq_eq_false_iff_ne, bne_iff_ne, U64, U32, I64, Big, W, wv, Told, s64, WT, PR, MR, MB, Int.zero_mul, Int.zero_add, Int.add_zero, Int.mul_zero, IntKind.wrap_u64, IntKind.wrap_i64, IntKind.wrap_u32, ne_eq, forall_const, true_implies, show T.rel 113 = R113 from rfl, R113, show T.rel 123 = R123 from rfl, R123, show T.pre 113 = Q113 from rfl, Q113, show T.pre 123 = Q123 from rfl, Q123]
  revert hp
  generalize (E.r 0).i 0 = x
  generalize (E.r 65538).i 0 = x2_0
  try simp only [mxI, mnI]
  try simp only [ltb, leb, eqb, Int.lt_irrefl, decide_false, Int.le_refl, decide_true]
  intro hp
  refine ⟨fun h => ?_, fun h => h hp⟩
  have := Lib.bitLen_le x.toNat 64 (by omega) (by omega)
  omega
end Go.Proofs.YthlcpdjpnbbaeaaGreatDoor.Fn
namespace Go.Proofs.YthlcpdjpnbbaeaaGreatDoor.Fn
open Go Go.RowKit Go.Proofs.YthlcpdjpnbbaeaaGreatDoor.Sy
set_option linter.unusedVariables false
set_option linter.unusedSimpArgs false
set_option maxRecDepth 100000
def t97 : Tr :=
  .br (.f (.is (.eq (.v 0 2) (.n 0)) false) <|
   .br (.f (.is (.le (.v 0 2) (.v 0 0)) false) <|
    .br (.f (.is (.eq (.v 0 0) (.n 0)) true) <|
     .ok [.num (.wrap .u64 (.bin .quo (.v 0 1) (.v 0 2))), .num (.bin .rem (.v 0 1) (.v 0 2))])
    (.f (.is (.eq (.v 0 0) (.n 0)) false) <|
     .br (.f (.rel 113 [.num (.v 0 2)] 65546 [.int .i64]) <|
      .br (.f (.is (.lt (.wrap .u64 (.v 65546 0)) (.n 0)) false) <|
       .f (.is (.eq (.v 65556 0) (.bin .fdv (.wrap .u64 (.bin (.shl .u64) (.v 0 2) (.wrap .u64 (.v 65546 0)))) (.n 4294967296))) true) <|
        .f (.is (.eq (.v 65560 0) (.bin (.land .u64) (.wrap .u64 (.bin (.shl .u64) (.v 0 2) (.wrap .u64 (.v 65546 0)))) (.n 4294967295))) true) <|
         .br (.f (.is (.lt (.wrap .u64 (.bin .sub (.n 64) (.wrap .u64 (.v 65546 0)))) (.n 0)) false) <|
          .f (.is (.eq (.v 65570 0) (.bin (.shr .u64) (.v 0 1) (.wrap .u64 (.bin .sub (.n 64) (.wrap .u64 (.v 65546 0)))))) true) <|
           .f (.is (.eq (.v 65571 0) (.bin (.lor .u64) (.wrap .u64 (.bin (.shl .u64) (.v 0 0) (.wrap .u64 (.v 65546 0)))) (.v 65570 0))) true) <|
            .f (.is (.eq (.v 65579 0) (.bin .fdv (.wrap .u64 (.bin (.shl .u64) (.v 0 1) (.wrap .u64 (.v 65546 0)))) (.n 4294967296))) true) <|
             .f (.is (.eq (.v 65583 0) (.bin (.land .u64) (.wrap .u64 (.bin (.shl .u64) (.v 0 1) (.wrap .u64 (.v 65546 0)))) (.n 4294967295))) true) <|
              .br (.f (.is (.eq (.v 65556 0) (.n 0)) false) <|
               .f (.is (.eq (.v 65594 0) (.wrap .u64 (.bin .mul (.wrap .u64 (.bin .quo (.v 65571 0) (.v 65556 0))) (.v 65556 0)))) true) <|
                .br (.f (.rel 109717 [.num (.v 65556 0), .num (.v 65560 0), .num (.v 65571 0), .num (.v 65579 0), .num (.wrap .u64 (.bin .quo (.v 65571 0) (.v 65556 0))), .num (.wrap .u64 (.bin .sub (.v 65571 0) (.v 65594 0)))] 65595 [.int .u64, .int .u64]) <|
                 .br (.f (.is (.le (.n 4294967296) (.v 65595 0)) true) <|
                  .br (.f (.is (.le (.n 4294967296) (.wrap .u64 (.bin .add (.v 65595 1) (.v 65556 0)))) true) <|
                   .f (.is (.eq (.v 65626 0) (.wrap .u64 (.bin .add (.wrap .u64 (.bin .mul (.v 65571 0) (.n 4294967296))) (.v 65579 0)))) true) <|
                    .f (.is (.eq (.v 65627 0) (.wrap .u64 (.bin .mul (.wrap .u64 (.bin .sub (.v 65595 0) (.n 1))) (.wrap .u64 (.bin (.shl .u64) (.v 0 2) (.wrap .u64 (.v 65546 0))))))) true) <|
                     .f (.is (.eq (.v 65632 0) (.wrap .u64 (.bin .quo (.wrap .u64 (.bin .sub (.v 65626 0) (.v 65627 0))) (.v 65556 0)))) true) <|
                      .f (.is (.eq (.v 65639 0) (.wrap .u64 (.bin .sub (.wrap .u64 (.bin .sub (.v 65626 0) (.v 65627 0))) (.wrap .u64 (.bin .mul (.v 65632 0) (.v 65556 0)))))) true) <|
                       .br (.f (.rel 109724 [.num (.v 65556 0), .num (.v 65560 0), .num (.wrap .u64 (.bin .sub (.v 65626 0) (.v 65627 0))), .num (.v 65583 0), .num (.v 65632 0), .num (.v 65639 0)] 65640 [.int .u64, .int .u64]) <|
                        .br (.f (.is (.le (.n 4294967296) (.v 65640 0)) true) <|
                         .br (.f (.is (.le (.n 4294967296) (.wrap .u64 (.bin .add (.v 65640 1) (.v 65556 0)))) true) <|
                          .f (.is (.eq (.v 65678 0) (.wrap .u64 (.bin .mul (.wrap .u64 (.bin .sub (.v 65595 0) (.n 1))) (.n 4294967296)))) true) <|
                           .f (.is (.eq (.v 65679 0) (.wrap .u64 (.bin .add (.v 65678 0) (.wrap .u64 (.bin .sub (.v 65640 0) (.n 1)))))) true) <|
                            .f (.is (.eq (.v 65680 0) (.wrap .u64 (.bin .mul (.wrap .u64 (.bin .sub (.v 65626 0) (.v 65627 0))) (.n 4294967296)))) true) <|
                             .f (.is (.eq (.v 65681 0) (.wrap .u64 (.bin .mul (.wrap .u64 (.bin .sub (.v 65640 0) (.n 1))) (.wrap .u64 (.bin (.shl .u64) (.v 0 2) (.wrap .u64 (.v 65546 0))))))) true) <|
                              .f (.is (.eq (.v 65682 0) (.wrap .u64 (.bin .sub (.wrap .u64 (.bin .add (.v 65680 0) (.v 65583 0))) (.v 65681 0)))) true) <|
                               .ok [.num (.v 65679 0), .num (.bin (.shr .u64) (.v 65682 0) (.wrap .u64 (.v 65546 0)))])
                         (.f (.is (.le (.n 4294967296) (.wrap .u64 (.bin .add (.v 65640 1) (.v 65556 0)))) false) <|
                          .br (.f (.nrel 109724 [.num (.v 65556 0), .num (.v 65560 0), .num (.wrap .u64 (.bin .sub (.v 65626 0) (.v 65627 0))), .num (.v 65583 0), .num (.v 65632 0), .num (.v 65639 0)] [.num (.wrap .u64 (.bin .sub (.v 65640 0) (.n 1))), .num (.wrap .u64 (.bin .add (.v 65640 1) (.v 65556 0)))]) <|
                           .bad)
                          (.f (.ndec 109724 [.num (.v 65556 0), .num (.v 65560 0), .num (.wrap .u64 (.bin .sub (.v 65626 0) (.v 65627 0))), .num (.v 65583 0), .num (.v 65632 0), .num (.v 65639 0)] [.num (.v 65640 0), .num (.v 65640 1)] [.num (.wrap .u64 (.bin .sub (.v 65640 0) (.n 1))), .num (.wrap .u64 (.bin .add (.v 65640 1) (.v 65556 0)))]) <|
                           .bad)))
                        (.f (.is (.le (.n 4294967296) (.v 65640 0)) false) <|
                         .f (.is (.eq (.v 65653 0) (.wrap .u64 (.bin .add (.wrap .u64 (.bin .mul (.n 4294967296) (.v 65640 1))) (.v 65583 0)))) true) <|
                          .br (.f (.is (.lt (.v 65653 0) (.wrap .u64 (.bin .mul (.v 65640 0) (.v 65560 0)))) true) <|
                           .br (.f (.is (.le (.n 4294967296) (.wrap .u64 (.bin .add (.v 65640 1) (.v 65556 0)))) true) <|
                            .f (.is (.eq (.v 65679 0) (.wrap .u64 (.bin .mul (.wrap .u64 (.bin .sub (.v 65595 0) (.n 1))) (.n 4294967296)))) true) <|
                             .f (.is (.eq (.v 65680 0) (.wrap .u64 (.bin .add (.v 65679 0) (.wrap .u64 (.bin .sub (.v 65640 0) (.n 1)))))) true) <|
                              .f (.is (.eq (.v 65681 0) (.wrap .u64 (.bin .mul (.wrap .u64 (.bin .sub (.v 65626 0) (.v 65627 0))) (.n 4294967296)))) true) <|
                               .f (.is (.eq (.v 65682 0) (.wrap .u64 (.bin .mul (.wrap .u64 (.bin .sub (.v 65640 0) (.n 1))) (.wrap .u64 (.bin (.shl .u64) (.v 0 2) (.wrap .u64 (.v 65546 0))))))) true) <|
                                .f (.is (.eq (.v 65683 0) (.wrap .u64 (.bin .sub (.wrap .u64 (.bin .add (.v 65681 0) (.v 65583 0))) (.v 65682 0)))) true) <|
                                 .ok [.num (.v 65680 0), .num (.bin (.shr .u64) (.v 65683 0) (.wrap .u64 (.v 65546 0)))])
                           (.f (.is (.le (.n 4294967296) (.wrap .u64 (.bin .add (.v 65640 1) (.v 65556 0)))) false) <|
                            .br (.f (.nrel 109724 [.num (.v 65556 0), .num (.v 65560 0), .num (.wrap .u64 (.bin .sub (.v 65626 0) (.v 65627 0))), .num (.v 65583 0), .num (.v 65632 0), .num (.v 65639 0)] [.num (.wrap .u64 (.bin .sub (.v 65640 0) (.n 1))), .num (.wrap .u64 (.bin .add (.v 65640 1) (.v 65556 0)))]) <|
                             .bad)
                            (.f (.ndec 109724 [.num (.v 65556 0), .num (.v 65560 0), .num (.wrap .u64 (.bin .sub (.v 65626 0) (.v 65627 0))), .num (.v 65583 0), .num (.v 65632 0), .num (.v 65639 0)] [.num (.v 65640 0), .num (.v 65640 1)] [.num (.wrap .u64 (.bin .sub (.v 65640 0) (.n 1))), .num (.wrap .u64 (.bin .add (.v 65640 1) (.v 65556 0)))]) <|
                             .bad)))
                          (.f (.is (.lt (.v 65653 0) (.wrap .u64 (.bin .mul (.v 65640 0) (.v 65560 0)))) false) <|
                           .f (.is (.eq (.v 65670 0) (.wrap .u64 (.bin .mul (.wrap .u64 (.bin .sub (.v 65595 0) (.n 1))) (.n 4294967296)))) true) <|
                            .f (.is (.eq (.v 65671 0) (.wrap .u64 (.bin .mul (.wrap .u64 (.bin .sub (.v 65626 0) (.v 65627 0))) (.n 4294967296)))) true) <|
                             .f (.is (.eq (.v 65672 0) (.wrap .u64 (.bin .mul (.v 65640 0) (.wrap .u64 (.bin (.shl .u64) (.v 0 2) (.wrap .u64 (.v 65546 0))))))) true) <|
                              .f (.is (.eq (.v 65673 0) (.wrap .u64 (.bin .sub (.wrap .u64 (.bin .add (.v 65671 0) (.v 65583 0))) (.v 65672 0)))) true) <|
                               .ok [.num (.wrap .u64 (.bin .add (.v 65670 0) (.v 65640 0))), .num (.bin (.shr .u64) (.v 65673 0) (.wrap .u64 (.v 65546 0)))])))
                       (.f (.nrel 109724 [.num (.v 65556 0), .num (.v 65560 0), .num (.wrap .u64 (.bin .sub (.v 65626 0) (.v 65627 0))), .num (.v 65583 0), .num (.v 65632 0), .num (.v 65639 0)] [.num (.v 65632 0), .num (.v 65639 0)]) <|
                        .bad))
                  (.f (.is (.le (.n 4294967296) (.wrap .u64 (.bin .add (.v 65595 1) (.v 65556 0)))) false) <|
                   .br (.f (.nrel 109717 [.num (.v 65556 0), .num (.v 65560 0), .num (.v 65571 0), .num (.v 65579 0), .num (.wrap .u64 (.bin .quo (.v 65571 0) (.v 65556 0))), .num (.wrap .u64 (.bin .sub (.v 65571 0) (.v 65594 0)))] [.num (.wrap .u64 (.bin .sub (.v 65595 0) (.n 1))), .num (.wrap .u64 (.bin .add (.v 65595 1) (.v 65556 0)))]) <|
                    .bad)
                   (.f (.ndec 109717 [.num (.v 65556 0), .num (.v 65560 0), .num (.v 65571 0), .num (.v 65579 0), .num (.wrap .u64 (.bin .quo (.v 65571 0) (.v 65556 0))), .num (.wrap .u64 (.bin .sub (.v 65571 0) (.v 65594 0)))] [.num (.v 65595 0), .num (.v 65595 1)] [.num (.wrap .u64 (.bin .sub (.v 65595 0) (.n 1))), .num (.wrap .u64 (.bin .add (.v 65595 1) (.v 65556 0)))]) <|
                    .bad)))
                 (.f (.is (.le (.n 4294967296) (.v 65595 0)) false) <|
                  .f (.is (.eq (.v 65608 0) (.wrap .u64 (.bin .add (.wrap .u64 (.bin .mul (.n 4294967296) (.v 65595 1))) (.v 65579 0)))) true) <|
                   .br (.f (.is (.lt (.v 65608 0) (.wrap .u64 (.bin .mul (.v 65595 0) (.v 65560 0)))) true) <|
                    .br (.f (.is (.le (.n 4294967296) (.wrap .u64 (.bin .add (.v 65595 1) (.v 65556 0)))) true) <|
                     .f (.is (.eq (.v 65627 0) (.wrap .u64 (.bin .add (.wrap .u64 (.bin .mul (.v 65571 0) (.n 4294967296))) (.v 65579 0)))) true) <|
                      .f (.is (.eq (.v 65628 0) (.wrap .u64 (.bin .mul (.wrap .u64 (.bin .sub (.v 65595 0) (.n 1))) (.wrap .u64 (.bin (.shl .u64) (.v 0 2) (.wrap .u64 (.v 65546 0))))))) true) <|
                       .f (.is (.eq (.v 65633 0) (.wrap .u64 (.bin .quo (.wrap .u64 (.bin .sub (.v 65627 0) (.v 65628 0))) (.v 65556 0)))) true) <|
                        .f (.is (.eq (.v 65640 0) (.wrap .u64 (.bin .sub (.wrap .u64 (.bin .sub (.v 65627 0) (.v 65628 0))) (.wrap .u64 (.bin .mul (.v 65633 0) (.v 65556 0)))))) true) <|
                         .br (.f (.rel 109724 [.num (.v 65556 0), .num (.v 65560 0), .num (.wrap .u64 (.bin .sub (.v 65627 0) (.v 65628 0))), .num (.v 65583 0), .num (.v 65633 0), .num (.v 65640 0)] 65641 [.int .u64, .int .u64]) <|
                          .br (.f (.is (.le (.n 4294967296) (.v 65641 0)) true) <|
                           .br (.f (.is (.le (.n 4294967296) (.wrap .u64 (.bin .add (.v 65641 1) (.v 65556 0)))) true) <|
                            .f (.is (.eq (.v 65679 0) (.wrap .u64 (.bin .mul (.wrap .u64 (.bin .sub (.v 65595 0) (.n 1))) (.n 4294967296)))) true) <|
                             .f (.is (.eq (.v 65680 0) (.wrap .u64 (.bin .add (.v 65679 0) (.wrap .u64 (.bin .sub (.v 65641 0) (.n 1)))))) true) <|
                              .f (.is (.eq (.v 65681 0) (.wrap .u64 (.bin .mul (.wrap .u64 (.bin .sub (.v 65627 0) (.v 65628 0))) (.n 4294967296)))) true) <|
                               .f (.is (.eq (.v 65682 0) (.wrap .u64 (.bin .mul (.wrap .u64 (.bin .sub (.v 65641 0) (.n 1))) (.wrap .u64 (.bin (.shl .u64) (.v 0 2) (.wrap .u64 (.v 65546 0))))))) true) <|
                                .f (.is (.eq (.v 65683 0) (.wrap .u64 (.bin .sub (.wrap .u64 (.bin .add (.v 65681 0) (.v 65583 0))) (.v 65682 0)))) true) <|
                                 .ok [.num (.v 65680 0), .num (.bin (.shr .u64) (.v 65683 0) (.wrap .u64 (.v 65546 0)))])
                           (.f (.is (.le (.n 4294967296) (.wrap .u64 (.bin .add (.v 65641 1) (.v 65556 0)))) false) <|
                            .br (.f (.nrel 109724 [.num (.v 65556 0), .num (.v 65560 0), .num (.wrap .u64 (.bin .sub (.v 65627 0) (.v 65628 0))), .num (.v 65583 0), .num (.v 65633 0), .num (.v 65640 0)] [.num (.wrap .u64 (.bin .sub (.v 65641 0) (.n 1))), .num (.wrap .u64 (.bin .add (.v 65641 1) (.v 65556 0)))]) <|
                             .bad)
                            (.f (.ndec 109724 [.num (.v 65556 0), .num (.v 65560 0), .num (.wrap .u64 (.bin .sub (.v 65627 0) (.v 65628 0))), .num (.v 65583 0), .num (.v 65633 0), .num (.v 65640 0)] [.num (.v 65641 0), .num (.v 65641 1)] [.num (.wrap .u64 (.bin .sub (.v 65641 0) (.n 1))), .num (.wrap .u64 (.bin .add (.v 65641 1) (.v 65556 0)))]) <|
                             .bad)))
                          (.f (.is (.le (.n 4294967296) (.v 65641 0)) false) <|
                           .f (.is (.eq (.v 65654 0) (.wrap .u64 (.bin .add (.wrap .u64 (.bin .mul (.n 4294967296) (.v 65641 1))) (.v 65583 0)))) true) <|
                            .br (.f (.is (.lt (.v 65654 0) (.wrap .u64 (.bin .mul (.v 65641 0) (.v 65560 0)))) true) <|
                             .br (.f (.is (.le (.n 4294967296) (.wrap .u64 (.bin .add (.v 65641 1) (.v 65556 0)))) true) <|
                              .f (.is (.eq (.v 65680 0) (.wrap .u64 (.bin .mul (.wrap .u64 (.bin .sub (.v 65595 0) (.n 1))) (.n 4294967296)))) true) <|
                               .f (.is (.eq (.v 65681 0) (.wrap .u64 (.bin .add (.v 65680 0) (.wrap .u64 (.bin .sub (.v 65641 0) (.n 1)))))) true) <|
                                .f (.is (.eq (.v 65682 0) (.wrap .u64 (.bin .mul (.wrap .u64 (.bin .sub (.v 65627 0) (.v 65628 0))) (.n 4294967296)))) true) <|
                                 .f (.is (.eq (.v 65683 0) (.wrap .u64 (.bin .mul (.wrap .u64 (.bin .sub (.v 65641 0) (.n 1))) (.wrap .u64 (.bin (.shl .u64) (.v 0 2) (.wrap .u64 (.v 65546 0))))))) true) <|
                                  .f (.is (.eq (.v 65684 0) (.wrap .u64 (.bin .sub (.wrap .u64 (.bin .add (.v 65682 0) (.v 65583 0))) (.v 65683 0)))) true) <|
                                   .ok [.num (.v 65681 0), .num (.bin (.shr .u64) (.v 65684 0) (.wrap .u64 (.v 65546 0)))])
                             (.f (.is (.le (.n 4294967296) (.wrap .u64 (.bin .add (.v 65641 1) (.v 65556 0)))) false) <|
                              .br (.f (.nrel 109724 [.num (.v 65556 0), .num (.v 65560 0), .num (.wrap .u64 (.bin .sub (.v 65627 0) (.v 65628 0))), .num (.v 65583 0), .num (.v 65633 0), .num (.v 65640 0)] [.num (.wrap .u64 (.bin .sub (.v 65641 0) (.n 1))), .num (.wrap .u64 (.bin .add (.v 65641 1) (.v 65556 0)))]) <|
                               .bad)
                              (.f (.ndec 109724 [.num (.v 65556 0), .num (.v 65560 0), .num (.wrap .u64 (.bin .sub (.v 65627 0) (.v 65628 0))), .num (.v 65583 0), .num (.v 65633 0), .num (.v 65640 0)] [.num (.v 65641 0), .num (.v 65641 1)] [.num (.wrap .u64 (.bin .sub (.v 65641 0) (.n 1))), .num (.wrap .u64 (.bin .add (.v 65641 1) (.v 65556 0)))]) <|
                               .bad)))
                            (.f (.is (.lt (.v 65654 0) (.wrap .u64 (.bin .mul (.v 65641 0) (.v 65560 0)))) false) <|
                             .f (.is (.eq (.v 65671 0) (.wrap .u64 (.bin .mul (.wrap .u64 (.bin .sub (.v 65595 0) (.n 1))) (.n 4294967296)))) true) <|
                              .f (.is (.eq (.v 65672 0) (.wrap .u64 (.bin .mul (.wrap .u64 (.bin .sub (.v 65627 0) (.v 65628 0))) (.n 4294967296)))) true) <|
                               .f (.is (.eq (.v 65673 0) (.wrap .u64 (.bin .mul (.v 65641 0) (.wrap .u64 (.bin (.shl .u64) (.v 0 2) (.wrap .u64 (.v 65546 0))))))) true) <|
                                .f (.is (.eq (.v 65674 0) (.wrap .u64 (.bin .sub (.wrap .u64 (.bin .add (.v 65672 0) (.v 65583 0))) (.v 65673 0)))) true) <|
                                 .ok [.num (.wrap .u64 (.bin .add (.v 65671 0) (.v 65641 0))), .num (.bin (.shr .u64) (.v 65674 0) (.wrap .u64 (.v 65546 0)))])))
                         (.f (.nrel 109724 [.num (.v 65556 0), .num (.v 65560 0), .num (.wrap .u64 (.bin .sub (.v 65627 0) (.v 65628 0))), .num (.v 65583 0), .num (.v 65633 0), .num (.v 65640 0)] [.num (.v 65633 0), .num (.v 65640 0)]) <|
                          .bad))
                    (.f (.is (.le (.n 4294967296) (.wrap .u64 (.bin .add (.v 65595 1) (.v 65556 0)))) false) <|
                     .br (.f (.nrel 109717 [.num (.v 65556 0), .num (.v 65560 0), .num (.v 65571 0), .num (.v 65579 0), .num (.wrap .u64 (.bin .quo (.v 65571 0) (.v 65556 0))), .num (.wrap .u64 (.bin .sub (.v 65571 0) (.v 65594 0)))] [.num (.wrap .u64 (.bin .sub (.v 65595 0) (.n 1))), .num (.wrap .u64 (.bin .add (.v 65595 1) (.v 65556 0)))]) <|
                      .bad)
                     (.f (.ndec 109717 [.num (.v 65556 0), .num (.v 65560 0), .num (.v 65571 0), .num (.v 65579 0), .num (.wrap .u64 (.bin .quo (.v 65571 0) (.v 65556 0))), .num (.wrap .u64 (.bin .sub (.v 65571 0) (.v 65594 0)))] [.num (.v 65595 0), .num (.v 65595 1)] [.num (.wrap .u64 (.bin .sub (.v 65595 0) (.n 1))), .num (.wrap .u64 (.bin .add (.v 65595 1) (.v 65556 0)))]) <|
                      .bad)))
                   (.f (.is (.lt (.v 65608 0) (.wrap .u64 (.bin .mul (.v 65595 0) (.v 65560 0)))) false) <|
                    .f (.is (.eq (.v 65618 0) (.wrap .u64 (.bin .add (.wrap .u64 (.bin .mul (.v 65571 0) (.n 4294967296))) (.v 65579 0)))) true) <|
                     .f (.is (.eq (.v 65619 0) (.wrap .u64 (.bin .mul (.v 65595 0) (.wrap .u64 (.bin (.shl .u64) (.v 0 2) (.wrap .u64 (.v 65546 0))))))) true) <|
                      .f (.is (.eq (.v 65624 0) (.wrap .u64 (.bin .quo (.wrap .u64 (.bin .sub (.v 65618 0) (.v 65619 0))) (.v 65556 0)))) true) <|
                       .f (.is (.eq (.v 65631 0) (.wrap .u64 (.bin .sub (.wrap .u64 (.bin .sub (.v 65618 0) (.v 65619 0))) (.wrap .u64 (.bin .mul (.v 65624 0) (.v 65556 0)))))) true) <|
                        .br (.f (.rel 109724 [.num (.v 65556 0), .num (.v 65560 0), .num (.wrap .u64 (.bin .sub (.v 65618 0) (.v 65619 0))), .num (.v 65583 0), .num (.v 65624 0), .num (.v 65631 0)] 65632 [.int .u64, .int .u64]) <|
                         .br (.f (.is (.le (.n 4294967296) (.v 65632 0)) true) <|
                          .br (.f (.is (.le (.n 4294967296) (.wrap .u64 (.bin .add (.v 65632 1) (.v 65556 0)))) true) <|
                           .f (.is (.eq (.v 65670 0) (.wrap .u64 (.bin .add (.wrap .u64 (.bin .mul (.v 65595 0) (.n 4294967296))) (.wrap .u64 (.bin .sub (.v 65632 0) (.n 1)))))) true) <|
                            .f (.is (.eq (.v 65671 0) (.wrap .u64 (.bin .mul (.wrap .u64 (.bin .sub (.v 65618 0) (.v 65619 0))) (.n 4294967296)))) true) <|
                             .f (.is (.eq (.v 65672 0) (.wrap .u64 (.bin .mul (.wrap .u64 (.bin .sub (.v 65632 0) (.n 1))) (.wrap .u64 (.bin (.shl .u64) (.v 0 2) (.wrap .u64 (.v 65546 0))))))) true) <|
                              .f (.is (.eq (.v 65673 0) (.wrap .u64 (.bin .sub (.wrap .u64 (.bin .add (.v 65671 0) (.v 65583 0))) (.v 65672 0)))) true) <|
                               .ok [.num (.v 65670 0), .num (.bin (.shr .u64) (.v 65673 0) (.wrap .u64 (.v 65546 0)))])
                          (.f (.is (.le (.n 4294967296) (.wrap .u64 (.bin .add (.v 65632 1) (.v 65556 0)))) false) <|
                           .br (.f (.nrel 109724 [.num (.v 65556 0), .num (.v 65560 0), .num (.wrap .u64 (.bin .sub (.v 65618 0) (.v 65619 0))), .num (.v 65583 0), .num (.v 65624 0), .num (.v 65631 0)] [.num (.wrap .u64 (.bin .sub (.v 65632 0) (.n 1))), .num (.wrap .u64 (.bin .add (.v 65632 1) (.v 65556 0)))]) <|
                            .bad)
                           (.f (.ndec 109724 [.num (.v 65556 0), .num (.v 65560 0), .num (.wrap .u64 (.bin .sub (.v 65618 0) (.v 65619 0))), .num (.v 65583 0), .num (.v 65624 0), .num (.v 65631 0)] [.num (.v 65632 0), .num (.v 65632 1)] [.num (.wrap .u64 (.bin .sub (.v 65632 0) (.n 1))), .num (.wrap .u64 (.bin .add (.v 65632 1) (.v 65556 0)))]) <|
                            .bad)))
                         (.f (.is (.le (.n 4294967296) (.v 65632 0)) false) <|
                          .f (.is (.eq (.v 65645 0) (.wrap .u64 (.bin .add (.wrap .u64 (.bin .mul (.n 4294967296) (.v 65632 1))) (.v 65583 0)))) true) <|
                           .br (.f (.is (.lt (.v 65645 0) (.wrap .u64 (.bin .mul (.v 65632 0) (.v 65560 0)))) true) <|
                            .br (.f (.is (.le (.n 4294967296) (.wrap .u64 (.bin .add (.v 65632 1) (.v 65556 0)))) true) <|
                             .f (.is (.eq (.v 65671 0) (.wrap .u64 (.bin .add (.wrap .u64 (.bin .mul (.v 65595 0) (.n 4294967296))) (.wrap .u64 (.bin .sub (.v 65632 0) (.n 1)))))) true) <|
                              .f (.is (.eq (.v 65672 0) (.wrap .u64 (.bin .mul (.wrap .u64 (.bin .sub (.v 65618 0) (.v 65619 0))) (.n 4294967296)))) true) <|
                               .f (.is (.eq (.v 65673 0) (.wrap .u64 (.bin .mul (.wrap .u64 (.bin .sub (.v 65632 0) (.n 1))) (.wrap .u64 (.bin (.shl .u64) (.v 0 2) (.wrap .u64 (.v 65546 0))))))) true) <|
                                .f (.is (.eq (.v 65674 0) (.wrap .u64 (.bin .sub (.wrap .u64 (.bin .add (.v 65672 0) (.v 65583 0))) (.v 65673 0)))) true) <|
                                 .ok [.num (.v 65671 0), .num (.bin (.shr .u64) (.v 65674 0) (.wrap .u64 (.v 65546 0)))])
                            (.f (.is (.le (.n 4294967296) (.wrap .u64 (.bin .add (.v 65632 1) (.v 65556 0)))) false) <|
                             .br (.f (.nrel 109724 [.num (.v 65556 0), .num (.v 65560 0), .num (.wrap .u64 (.bin .sub (.v 65618 0) (.v 65619 0))), .num (.v 65583 0), .num (.v 65624 0), .num (.v 65631 0)] [.num (.wrap .u64 (.bin .sub (.v 65632 0) (.n 1))), .num (.wrap .u64 (.bin .add (.v 65632 1) (.v 65556 0)))]) <|
                              .bad)
                             (.f (.ndec 109724 [.num (.v 65556 0), .num (.v 65560 0), .num (.wrap .u64 (.bin .sub (.v 65618 0) (.v 65619 0))), .num (.v 65583 0), .num (.v 65624 0), .num (.v 65631 0)] [.num (.v 65632 0), .num (.v 65632 1)] [.num (.wrap .u64 (.bin .sub (.v 65632 0) (.n 1))), .num (.wrap .u64 (.bin .add (.v 65632 1) (.v 65556 0)))]) <|
                              .bad)))
                           (.f (.is (.lt (.v 65645 0) (.wrap .u64 (.bin .mul (.v 65632 0) (.v 65560 0)))) false) <|
                            .f (.is (.eq (.v 65662 0) (.wrap .u64 (.bin .add (.wrap .u64 (.bin .mul (.v 65595 0) (.n 4294967296))) (.v 65632 0)))) true) <|
                             .f (.is (.eq (.v 65663 0) (.wrap .u64 (.bin .mul (.wrap .u64 (.bin .sub (.v 65618 0) (.v 65619 0))) (.n 4294967296)))) true) <|
                              .f (.is (.eq (.v 65664 0) (.wrap .u64 (.bin .mul (.v 65632 0) (.wrap .u64 (.bin (.shl .u64) (.v 0 2) (.wrap .u64 (.v 65546 0))))))) true) <|
                               .f (.is (.eq (.v 65665 0) (.wrap .u64 (.bin .sub (.wrap .u64 (.bin .add (.v 65663 0) (.v 65583 0))) (.v 65664 0)))) true) <|
                                .ok [.num (.v 65662 0), .num (.bin (.shr .u64) (.v 65665 0) (.wrap .u64 (.v 65546 0)))])))
                        (.f (.nrel 109724 [.num (.v 65556 0), .num (.v 65560 0), .num (.wrap .u64 (.bin .sub (.v 65618 0) (.v 65619 0))), .num (.v 65583 0), .num (.v 65624 0), .num (.v 65631 0)] [.num (.v 65624 0), .num (.v 65631 0)]) <|
                         .bad))))
                (.f (.nrel 109717 [.num (.v 65556 0), .num (.v 65560 0), .num (.v 65571 0), .num (.v 65579 0), .num (.wrap .u64 (.bin .quo (.v 65571 0) (.v 65556 0))), .num (.wrap .u64 (.bin .sub (.v 65571 0) (.v 65594 0)))] [.num (.wrap .u64 (.bin .quo (.v 65571 0) (.v 65556 0))), .num (.wrap .u64 (.bin .sub (.v 65571 0) (.v 65594 0)))]) <|
                 .bad))
              (.f (.is (.eq (.v 65556 0) (.n 0)) true) <|
               .bad))
         (.f (.is (.lt (.wrap .u64 (.bin .sub (.n 64) (.wrap .u64 (.v 65546 0)))) (.n 0)) true) <|
          .bad))
      (.f (.is (.lt (.wrap .u64 (.v 65546 0)) (.n 0)) true) <|
       .bad))
     (.f (.npre 113 [.num (.v 0 2)]) <|
      .bad)))
   (.f (.is (.le (.v 0 2) (.v 0 0)) true) <|
    .bad))
  (.f (.is (.eq (.v 0 2) (.n 0)) true) <|
   .bad)
theorem c97 : ConS Tryz.prog T C97 := con_tr (cs := [C113]) (lcs := [L109717, L109724]) (known := []) (cons_cons c113 (cons_nil _ _)) (Known.nil _) (N := 400) (d := 40) (t := t97) (by kernel_rfl) <| by
  intro E hl hp
  clear hl
  have hp := hp rfl
  simp only [C97, show T.pre 97 = Q97 from rfl, flatS, SP.flat, dvs, List.append_nil, List.cons_append, List.nil_append, Q97, U64, U32, I64, Big, W, wv, s64, WT, PR, MR, MB] at hp
  simp only [t97, C97, Tr.good, Fact.den, LX.den, DX.ls, DV.ls, DX.den, Bx.den, Ex.den, eo_add, eo_sub, eo_mul, eo_quo, eo_rem, eo_fdv, eo_mn, eo_mx, eo_land, eo_lor, eo_lxor, eo_landn, eo_shl, eo_shr, dvs, flatS, SP.flat, ST.flat, List.map_cons, List.map_nil, List.append_nil, List.cons_append, List.nil_append, ltb_t, ltb_f, leb_t, leb_f, eqb_t, eqb_f, decide_eq_true_eq, decide_eq_false_iff_not, Bool.not_eq_true', Bool.not_eq_false', Bool.and_eq_true, Bool.and_eq_false_imp, beq_iff_eq, beq_eq_false_iff_ne, bne_iff_ne, U64, U32, I64, Big, W, wv, Told, s64, WT, PR, MR, MB, Int.zero_mul, Int.zero_add, Int.add_zero, Int.mul_zero, IntKind.wrap_u64, IntKind.wrap_i64, IntKind.wrap_u32, ne_eq, forall_const, true_implies, show T.rel 97 = R97 from rfl, R97, show T.rel 113 = R113 from rfl, R113, show T.rel 109717 = R109717 from rfl, R109717, show T.rel 109724 = R109724 from rfl, R109724, show T.mu 109717 = M109717 from rfl, M109717, show T.mu 109724 = M109724 from rfl, M109724, show T.pre 97 = Q97 from rfl, Q97, show T.pre 113 = Q113 from rfl, Q113]
  revert hp
  generalize (E.r 0).i 0 = hi
  generalize (E.r 0).i 1 = lo
  generalize (E.r 0).i 2 = y
  generalize (E.r 65546).i 0 = x10_0
  generalize (E.r 65556).i 0 = x20_0
  generalize (E.r 65560).i 0 = x24_0
  generalize (E.r 65570).i 0 = x34_0
  generalize (E.r 65571).i 0 = x35_0
  generalize (E.r 65579).i 0 = x43_0
  generalize (E.r 65583).i 0 = x47_0
  generalize (E.r 65594).i 0 = x58_0
  generalize (E.r 65595).i 0 = x59_0
  generalize (E.r 65595).i 1 = x59_1
  generalize (E.r 65608).i 0 = x72_0
  generalize (E.r 65618).i 0 = x82_0
  generalize (E.r 65619).i 0 = x83_0
  generalize (E.r 65624).i 0 = x88_0
  generalize (E.r 65626).i 0 = x90_0
  generalize (E.r 65627).i 0 = x91_0
  generalize (E.r 65628).i 0 = x92_0
  generalize (E.r 65631).i 0 = x95_0
  generalize (E.r 65632).i 0 = x96_0
  generalize (E.r 65632).i 1 = x96_1
  generalize (E.r 65633).i 0 = x97_0
  generalize (E.r 65639).i 0 = x103_0
  generalize (E.r 65640).i 0 = x104_0
  generalize (E.r 65640).i 1 = x104_1
  generalize (E.r 65641).i 0 = x105_0
  generalize (E.r 65641).i 1 = x105_1
  generalize (E.r 65645).i 0 = x109_0
  generalize (E.r 65653).i 0 = x117_0
  generalize (E.r 65654).i 0 = x118_0
  generalize (E.r 65662).i 0 = x126_0
  generalize (E.r 65663).i 0 = x127_0
  generalize (E.r 65664).i 0 = x128_0
  generalize (E.r 65665).i 0 = x129_0
  generalize (E.r 65670).i 0 = x134_0
  generalize (E.r 65671).i 0 = x135_0
  generalize (E.r 65672).i 0 = x136_0
  generalize (E.r 65673).i 0 = x137_0
  generalize (E.r 65674).i 0 = x138_0
  generalize (E.r 65678).i 0 = x142_0
  generalize (E.r 65679).i 0 = x143_0
  generalize (E.r 65680).i 0 = x144_0
  generalize (E.r 65681).i 0 = x145_0
  generalize (E.r 65682).i 0 = x146_0
  generalize (E.r 65683).i 0 = x147_0
  generalize (E.r 65684).i 0 = x148_0
  try simp only [mxI, mnI]
  try simp only [ltb, leb, eqb, Int.lt_irrefl, decide_false, Int.le_refl, decide_true]
  intro hp
  obtain ⟨⟨hi0, hi1⟩, ⟨lo0, lo1⟩, ⟨y0, y1⟩, hlt⟩ := hp
  refine ⟨fun hy0 => ⟨fun _ => ⟨fun hz => ?_, fun hz => ⟨fun e10 => ⟨fun s0 e20 e24 => ⟨fun s1 e34 e35 e43 e47 => ⟨fun n20 e58 => ⟨fun D1 => ?_, ?_⟩, ?_⟩, ?_⟩, ?_⟩, ?_⟩⟩, ?_⟩, ?_⟩
  · subst hz
    rw [Int.tdiv_eq_ediv_of_nonneg lo0, Int.tmod_eq_emod_of_nonneg lo0]
    have a := Int.ediv_nonneg lo0 (show 0 ≤ y by omega)
    have b := Int.ediv_le_self y lo0
    simp only [Int.zero_mul, Int.zero_add, and_true]
    omega
  · have F := df_of hi0 hlt lo0 lo1 y1 e10 e20 e24 e34 e35 e43 e47
    refine ⟨fun g1 => ⟨fun g2 => ?_, fun g2 => ⟨fun n => n ((dl_step D1 (Or.inl g1)).2 g2).1, fun n => n ((dl_step D1 (Or.inl g1)).2 g2).2⟩⟩, fun g1 e72 => ⟨fun g6 => ⟨fun g2 => ?_, fun g2 => ⟨fun n => n ((dl_step D1 (Or.inr (by have := dl_test D1 g1 e72; omega))).2 g2).1, fun n => n ((dl_step D1 (Or.inr (by have := dl_test D1 g1 e72; omega))).2 g2).2⟩⟩, fun g6 => ?_⟩⟩
    · intro e90 e91 e96 e103
      have hu := dl_left F.db ((dl_step D1 (Or.inl g1)).1 g2) F.hY e90 e91
      have D2' := dl_next F.db F.w0 F.w1
      rw [← hu] at D2'
      refine ⟨fun D2 => ⟨fun g3 => ⟨fun g4 => ?_, fun g4 => ⟨fun n => n ((dl_step D2 (Or.inl g3)).2 g4).1, fun n => n ((dl_step D2 (Or.inl g3)).2 g4).2⟩⟩, fun g3 e9 => ⟨fun g5 => ⟨fun g4 => ?_, fun g4 => ⟨fun n => n ((dl_step D2 (Or.inr (by have := dl_test D2 g3 e9; omega))).2 g4).1, fun n => n ((dl_step D2 (Or.inr (by have := dl_test D2 g3 e9; omega))).2 g4).2⟩⟩, fun g5 => ?_⟩⟩, fun n => n (by rw [e103]; exact dl_init D2' rfl e96)⟩
      · first
          | (intro a1 a2 a3 a4 a5; rw [a2, a1]; exact dl_last F ((dl_step D1 (Or.inl g1)).1 g2) hu ((dl_step D2 (Or.inl g3)).1 g4) a3 a4 a5)
          | (intro a1 a3 a4 a5; rw [a1]; exact dl_last F ((dl_step D1 (Or.inl g1)).1 g2) hu ((dl_step D2 (Or.inl g3)).1 g4) a3 a4 a5)
          | (intro a3 a4 a5; exact dl_last F ((dl_step D1 (Or.inl g1)).1 g2) hu ((dl_step D2 (Or.inl g3)).1 g4) a3 a4 a5)
      · first
          | (intro a1 a2 a3 a4 a5; rw [a2, a1]; exact dl_last F ((dl_step D1 (Or.inl g1)).1 g2) hu ((dl_step D2 (Or.inr (by have := dl_test D2 g3 e9; omega))).1 g4) a3 a4 a5)
          | (intro a1 a3 a4 a5; rw [a1]; exact dl_last F ((dl_step D1 (Or.inl g1)).1 g2) hu ((dl_step D2 (Or.inr (by have := dl_test D2 g3 e9; omega))).1 g4) a3 a4 a5)
          | (intro a3 a4 a5; exact dl_last F ((dl_step D1 (Or.inl g1)).1 g2) hu ((dl_step D2 (Or.inr (by have := dl_test D2 g3 e9; omega))).1 g4) a3 a4 a5)
      · first
          | (intro a1 a2 a3 a4 a5; rw [a2, a1]; exact dl_last F ((dl_step D1 (Or.inl g1)).1 g2) hu (dl_stop D2 g3 e9 g5) a3 a4 a5)
          | (intro a1 a3 a4 a5; rw [a1]; exact dl_last F ((dl_step D1 (Or.inl g1)).1 g2) hu (dl_stop D2 g3 e9 g5) a3 a4 a5)
          | (intro a3 a4 a5; exact dl_last F ((dl_step D1 (Or.inl g1)).1 g2) hu (dl_stop D2 g3 e9 g5) a3 a4 a5)
    · intro e90 e91 e96 e103
      have hu := dl_left F.db ((dl_step D1 (Or.inr (by have := dl_test D1 g1 e72; omega))).1 g2) F.hY e90 e91
      have D2' := dl_next F.db F.w0 F.w1
      rw [← hu] at D2'
      refine ⟨fun D2 => ⟨fun g3 => ⟨fun g4 => ?_, fun g4 => ⟨fun n => n ((dl_step D2 (Or.inl g3)).2 g4).1, fun n => n ((dl_step D2 (Or.inl g3)).2 g4).2⟩⟩, fun g3 e9 => ⟨fun g5 => ⟨fun g4 => ?_, fun g4 => ⟨fun n => n ((dl_step D2 (Or.inr (by have := dl_test D2 g3 e9; omega))).2 g4).1, fun n => n ((dl_step D2 (Or.inr (by have := dl_test D2 g3 e9; omega))).2 g4).2⟩⟩, fun g5 => ?_⟩⟩, fun n => n (by rw [e103]; exact dl_init D2' rfl e96)⟩
      · first
          | (intro a1 a2 a3 a4 a5; rw [a2, a1]; exact dl_last F ((dl_step D1 (Or.inr (by have := dl_test D1 g1 e72; omega))).1 g2) hu ((dl_step D2 (Or.inl g3)).1 g4) a3 a4 a5)
          | (intro a1 a3 a4 a5; rw [a1]; exact dl_last F ((dl_step D1 (Or.inr (by have := dl_test D1 g1 e72; omega))).1 g2) hu ((dl_step D2 (Or.inl g3)).1 g4) a3 a4 a5)
          | (intro a3 a4 a5; exact dl_last F ((dl_step D1 (Or.inr (by have := dl_test D1 g1 e72; omega))).1 g2) hu ((dl_step D2 (Or.inl g3)).1 g4) a3 a4 a5)
      · first
          | (intro a1 a2 a3 a4 a5; rw [a2, a1]; exact dl_last F ((dl_step D1 (Or.inr (by have := dl_test D1 g1 e72; omega))).1 g2) hu ((dl_step D2 (Or.inr (by have := dl_test D2 g3 e9; omega))).1 g4) a3 a4 a5)
          | (intro a1 a3 a4 a5; rw [a1]; exact dl_last F ((dl_step D1 (Or.inr (by have := dl_test D1 g1 e72; omega))).1 g2) hu ((dl_step D2 (Or.inr (by have := dl_test D2 g3 e9; omega))).1 g4) a3 a4 a5)
          | (intro a3 a4 a5; exact dl_last F ((dl_step D1 (Or.inr (by have := dl_test D1 g1 e72; omega))).1 g2) hu ((dl_step D2 (Or.inr (by have := dl_test D2 g3 e9; omega))).1 g4) a3 a4 a5)
      · first
          | (intro a1 a2 a3 a4 a5; rw [a2, a1]; exact dl_last F ((dl_step D1 (Or.inr (by have := dl_test D1 g1 e72; omega))).1 g2) hu (dl_stop D2 g3 e9 g5) a3 a4 a5)
          | (intro a1 a3 a4 a5; rw [a1]; exact dl_last F ((dl_step D1 (Or.inr (by have := dl_test D1 g1 e72; omega))).1 g2) hu (dl_stop D2 g3 e9 g5) a3 a4 a5)
          | (intro a3 a4 a5; exact dl_last F ((dl_step D1 (Or.inr (by have := dl_test D1 g1 e72; omega))).1 g2) hu (dl_stop D2 g3 e9 g5) a3 a4 a5)
    · intro e90 e91 e96 e103
      have hu := dl_left F.db (dl_stop D1 g1 e72 g6) F.hY e90 e91
      have D2' := dl_next F.db F.w0 F.w1
      rw [← hu] at D2'
      refine ⟨fun D2 => ⟨fun g3 => ⟨fun g4 => ?_, fun g4 => ⟨fun n => n ((dl_step D2 (Or.inl g3)).2 g4).1, fun n => n ((dl_step D2 (Or.inl g3)).2 g4).2⟩⟩, fun g3 e9 => ⟨fun g5 => ⟨fun g4 => ?_, fun g4 => ⟨fun n => n ((dl_step D2 (Or.inr (by have := dl_test D2 g3 e9; omega))).2 g4).1, fun n => n ((dl_step D2 (Or.inr (by have := dl_test D2 g3 e9; omega))).2 g4).2⟩⟩, fun g5 => ?_⟩⟩, fun n => n (by rw [e103]; exact dl_init D2' rfl e96)⟩
      · first
          | (intro a1 a2 a3 a4 a5; rw [a2, a1]; exact dl_last F (dl_stop D1 g1 e72 g6) hu ((dl_step D2 (Or.inl g3)).1 g4) a3 a4 a5)
          | (intro a1 a3 a4 a5; rw [a1]; exact dl_last F (dl_stop D1 g1 e72 g6) hu ((dl_step D2 (Or.inl g3)).1 g4) a3 a4 a5)
          | (intro a3 a4 a5; exact dl_last F (dl_stop D1 g1 e72 g6) hu ((dl_step D2 (Or.inl g3)).1 g4) a3 a4 a5)
      · first
          | (intro a1 a2 a3 a4 a5; rw [a2, a1]; exact dl_last F (dl_stop D1 g1 e72 g6) hu ((dl_step D2 (Or.inr (by have := dl_test D2 g3 e9; omega))).1 g4) a3 a4 a5)
          | (intro a1 a3 a4 a5; rw [a1]; exact dl_last F (dl_stop D1 g1 e72 g6) hu ((dl_step D2 (Or.inr (by have := dl_test D2 g3 e9; omega))).1 g4) a3 a4 a5)
          | (intro a3 a4 a5; exact dl_last F (dl_stop D1 g1 e72 g6) hu ((dl_step D2 (Or.inr (by have := dl_test D2 g3 e9; omega))).1 g4) a3 a4 a5)
      · first
          | (intro a1 a2 a3 a4 a5; rw [a2, a1]; exact dl_last F (dl_stop D1 g1 e72 g6) hu (dl_stop D2 g3 e9 g5) a3 a4 a5)
          | (intro a1 a3 a4 a5; rw [a1]; exact dl_last F (dl_stop D1 g1 e72 g6) hu (dl_stop D2 g3 e9 g5) a3 a4 a5)
          | (intro a3 a4 a5; exact dl_last F (dl_stop D1 g1 e72 g6) hu (dl_stop D2 g3 e9 g5) a3 a4 a5)
  · exact fun n => n (dl_init (df_of hi0 hlt lo0 lo1 y1 e10 e20 e24 e34 e35 e43 e47).db e58 rfl)
  all_goals try omega
  all_goals
    have F := df_of hi0 hlt lo0 lo1 y1 e10 e20 e24 e34 e35 e43 e47
    have := F.db.a0
    omega
end Go.Proofs.YthlcpdjpnbbaeaaGreatDoor.Fn
