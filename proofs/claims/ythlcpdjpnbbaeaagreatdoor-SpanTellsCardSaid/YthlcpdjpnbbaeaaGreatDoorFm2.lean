/- What is told of the functions, shown: (turnstone/wide.Int).Small, (turnstone/vtime.Time).Add, (turnstone/mean.Mean).Floor, turnstone/span.Anchor, turnstone/turnstoneref01.Sign, turnstone/turnstoneref08.Right, turnstone/turnstoneref04.Right, turnstone/turnstoneref01.U, turnstone/turnstoneref01.digit, turnstone/turnstoneref01.trim, turnstone/turnstoneref01.Mul, turnstone/turnstoneref01.plus. -/
import Derived.Test.YthlcpdjpnbbaeaaGreatDoorFm1
namespace Go.Proofs.YthlcpdjpnbbaeaaGreatDoor.Fn
open Go Go.RowKit Go.Proofs.YthlcpdjpnbbaeaaGreatDoor.Sy
set_option linter.unusedVariables false
set_option linter.unusedSimpArgs false
set_option maxRecDepth 100000
def t99 : Tr :=
  .br (.f (.rel 45 [.num (.wrap .i64 (.v 0 1))] 65544 [.int .i64, .int .u64]) <|
   .br (.f (.is (.and (.eq (.v 65544 0) (.v 0 0)) (.and (.eq (.v 65544 1) (.v 0 1)) (.le (.n 0) (.n 0)))) false) <|
    .ok [.num (.n 0), .tru (.lt (.n 0) (.n 0))])
   (.f (.is (.and (.eq (.v 65544 0) (.v 0 0)) (.and (.eq (.v 65544 1) (.v 0 1)) (.le (.n 0) (.n 0)))) true) <|
    .ok [.num (.wrap .i64 (.v 0 1)), .tru (.le (.n 0) (.n 0))]))
  (.f (.npre 45 [.num (.wrap .i64 (.v 0 1))]) <|
   .bad)
theorem c99 : ConS Tryz.prog T C99 := con_tr (cs := [C45]) (lcs := []) (known := []) (cons_cons c45 (cons_nil _ _)) (Known.nil _) (N := 400) (d := 40) (t := t99) (by kernel_rfl) <| by
  intro E hl hp
  clear hl
  have hp := hp rfl
  simp only [C99, show T.pre 99 = Q99 from rfl, flatS, SP.flat, dvs, List.append_nil, List.cons_append, List.nil_append, Q99, U64, U32, I64, Big, W, wv, s64, WT, PR, MR, MB] at hp
  simp only [t99, C99, Tr.good, Fact.den, LX.den, DX.ls, DV.ls, DX.den, Bx.den, Ex.den, eo_add, eo_sub, eo_mul, eo_quo, eo_rem, eo_fdv, eo_mn, eo_mx, eo_land, eo_lor, eo_lxor, eo_landn, eo_shl, eo_shr, dvs, flatS, SP.flat, ST.flat, List.map_cons, List.map_nil, List.append_nil, List.cons_append, List.nil_append, ltb_t, ltb_f, leb_t, leb_f, eqb_t, eqb_f, decide_eq_true_eq, decide_eq_false_iff_not, Bool.not_eq_true', Bool.not_eq_false', Bool.and_eq_true, Bool.and_eq_false_imp, beq_iff_eq, beq_eq_false_iff_ne, bne_iff_ne, U64, U32, I64, Big, W, wv, Told, s64, WT, PR, MR, MB, Int.zero_mul, Int.zero_add, Int.add_zero, Int.mul_zero, IntKind.wrap_u64, IntKind.wrap_i64, IntKind.wrap_u32, ne_eq, forall_const, true_implies, show T.rel 45 = R45 from rfl, R45, show T.rel 99 = R99 from rfl, R99, show T.pre 45 = Q45 from rfl, Q45, show T.pre 99 = Q99 from rfl, Q99]
  revert hp
  generalize (E.r 0).i 0 = h
  generalize (E.r 0).i 1 = l
  generalize (E.r 65544).i 0 = x8_0
  generalize (E.r 65544).i 1 = x8_1
  try simp only [mxI, mnI]
  try simp only [ltb, leb, eqb, Int.lt_irrefl, decide_false, Int.le_refl, decide_true]
  repeat' (first | intro _ | refine And.intro ?_ ?_ | refine Iff.intro ?_ ?_)
  all_goals first | omega | (simp_all; done) | (simp_all; omega)
end Go.Proofs.YthlcpdjpnbbaeaaGreatDoor.Fn
namespace Go.Proofs.YthlcpdjpnbbaeaaGreatDoor.Fn
open Go Go.RowKit Go.Proofs.YthlcpdjpnbbaeaaGreatDoor.Sy
set_option linter.unusedVariables false
set_option linter.unusedSimpArgs false
set_option maxRecDepth 100000
def t100 : Tr :=
  .ok [.num (.wrap .u64 (.bin .add (.v 0 0) (.wrap .u64 (.v 0 1))))]
theorem c100 : ConS Tryz.prog T C100 := con_tr (cs := []) (lcs := []) (known := []) (cons_nil _ _) (Known.nil _) (N := 400) (d := 40) (t := t100) (by kernel_rfl) <| by
  intro E hl hp
  clear hl
  clear hp
  simp only [t100, C100, Tr.good, Fact.den, LX.den, DX.ls, DV.ls, DX.den, Bx.den, Ex.den, eo_add, eo_sub, eo_mul, eo_quo, eo_rem, eo_fdv, eo_mn, eo_mx, eo_land, eo_lor, eo_lxor, eo_landn, eo_shl, eo_shr, dvs, flatS, SP.flat, ST.flat, List.map_cons, List.map_nil, List.append_nil, List.cons_append, List.nil_append, ltb_t, ltb_f, leb_t, leb_f, eqb_t, eqb_f, decide_eq_true_eq, decide_eq_false_iff_not, Bool.not_eq_true', Bool.not_eq_false', Bool.and_eq_true, Bool.and_eq_false_imp, beq_iff_eq, beq_eq_false_iff_ne, bne_iff_ne, U64, U32, I64, Big, W, wv, Told, s64, WT, PR, MR, MB, Int.zero_mul, Int.zero_add, Int.add_zero, Int.mul_zero, IntKind.wrap_u64, IntKind.wrap_i64, IntKind.wrap_u32, ne_eq, forall_const, true_implies, show T.rel 100 = R100 from rfl, R100]
  generalize (E.r 0).i 0 = t
  generalize (E.r 0).i 1 = d
  try simp only [mxI, mnI]
  try simp only [ltb, leb, eqb, Int.lt_irrefl, decide_false, Int.le_refl, decide_true]
  repeat' (first | intro _ | refine And.intro ?_ ?_ | refine Iff.intro ?_ ?_)
  all_goals first | omega | (simp_all; done) | (simp_all; omega)
end Go.Proofs.YthlcpdjpnbbaeaaGreatDoor.Fn
namespace Go.Proofs.YthlcpdjpnbbaeaaGreatDoor.Fn
open Go Go.RowKit Go.Proofs.YthlcpdjpnbbaeaaGreatDoor.Sy
set_option linter.unusedVariables false
set_option linter.unusedSimpArgs false
set_option maxRecDepth 100000
def t76 : Tr :=
  .br (.f (.rel 56 [.num (.v 0 0), .num (.v 0 1), .num (.v 0 2), .num (.v 0 3), .num (.v 0 4)] 65540 [.bool]) <|
   .br (.f (.is (.v 65540 0) false) <|
    .ok [.num (.n 0), .tru (.lt (.n 0) (.n 0))])
   (.f (.is (.v 65540 0) true) <|
    .br (.f (.is (.eq (.v 0 4) (.n 0)) true) <|
     .ok [.num (.n 0), .tru (.lt (.n 0) (.n 0))])
    (.f (.is (.eq (.v 0 4) (.n 0)) false) <|
     .br (.f (.rel 59 [.num (.v 0 1), .num (.v 0 2), .num (.v 0 3)] 65551 [.int .i64, .int .u64, .int .u64, .bool]) <|
      .br (.f (.rel 99 [.num (.v 65551 0), .num (.v 65551 1)] 65561 [.int .i64, .bool]) <|
       .br (.f (.is (.v 65561 1) false) <|
        .ok [.num (.n 0), .tru (.lt (.n 0) (.n 0))])
       (.f (.is (.v 65561 1) true) <|
        .f (.rel 100 [.num (.v 0 0), .num (.v 65561 0)] 65572 [.int .u64]) <|
         .ok [.num (.v 65572 0), .tru (.le (.n 0) (.n 0))]))
      (.f (.npre 99 [.num (.v 65551 0), .num (.v 65551 1)]) <|
       .bad))
     (.f (.npre 59 [.num (.v 0 1), .num (.v 0 2), .num (.v 0 3)]) <|
      .bad))))
  (.f (.npre 56 [.num (.v 0 0), .num (.v 0 1), .num (.v 0 2), .num (.v 0 3), .num (.v 0 4)]) <|
   .bad)
theorem c76 : ConS Tryz.prog T C76 := con_tr (cs := [C56, C59, C99, C100]) (lcs := []) (known := []) (cons_cons c56 (cons_cons c59 (cons_cons c99 (cons_cons c100 (cons_nil _ _))))) (Known.nil _) (N := 400) (d := 40) (t := t76) (by kernel_rfl) <| by
  intro E hl hp
  clear hl
  have hp := hp rfl
  simp only [C76, show T.pre 76 = Q76 from rfl, flatS, SP.flat, dvs, List.append_nil, List.cons_append, List.nil_append, Q76, U64, U32, I64, Big, W, wv, s64, WT, PR, MR, MB] at hp
  simp only [t76, C76, Tr.good, Fact.den, LX.den, DX.ls, DV.ls, DX.den, Bx.den, Ex.den, eo_add, eo_sub, eo_mul, eo_quo, eo_rem, eo_fdv, eo_mn, eo_mx, eo_land, eo_lor, eo_lxor, eo_landn, eo_shl, eo_shr, dvs, flatS, SP.flat, ST.flat, List.map_cons, List.map_nil, List.append_nil, List.cons_append, List.nil_append, ltb_t, ltb_f, leb_t, leb_f, eqb_t, eqb_f, decide_eq_true_eq, decide_eq_false_iff_not, Bool.not_eq_true', Bool.not_eq_false', Bool.and_eq_true, Bool.and_eq_false_imp, beq_iff_eq, beq_eq_false_iff_ne, bne_iff_ne, U64, U32, I64, Big, W, wv, Told, s64, WT, PR, MR, MB, Int.zero_mul, Int.zero_add, Int.add_zero, Int.mul_zero, IntKind.wrap_u64, IntKind.wrap_i64, IntKind.wrap_u32, ne_eq, forall_const, true_implies, show T.rel 56 = R56 from rfl, R56, show T.rel 59 = R59 from rfl, R59, show T.rel 76 = R76 from rfl, R76, show T.rel 99 = R99 from rfl, R99, show T.rel 100 = R100 from rfl, R100, show T.pre 56 = Q56 from rfl, Q56, show T.pre 59 = Q59 from rfl, Q59, show T.pre 76 = Q76 from rfl, Q76, show T.pre 99 = Q99 from rfl, Q99]
  revert hp
  generalize (E.r 0).i 0 = b
  generalize (E.r 0).i 1 = h
  generalize (E.r 0).i 2 = l
  generalize (E.r 0).i 3 = w
  generalize (E.r 0).i 4 = n
  generalize (E.r 65540).c 0 = x4_0
  generalize (E.r 65551).i 0 = x15_0
  generalize (E.r 65551).i 1 = x15_1
  generalize (E.r 65551).i 2 = x15_2
  generalize (E.r 65551).c 3 = x15_3
  generalize (E.r 65561).i 0 = x25_0
  generalize (E.r 65561).c 1 = x25_1
  generalize (E.r 65572).i 0 = x36_0
  try simp only [mxI, mnI]
  try simp only [ltb, leb, eqb, Int.lt_irrefl, decide_false, Int.le_refl, decide_true]
  repeat' (first | intro _ | refine And.intro ?_ ?_ | refine Iff.intro ?_ ?_)
  all_goals first | omega | (simp_all; done) | (simp_all; omega)
end Go.Proofs.YthlcpdjpnbbaeaaGreatDoor.Fn
namespace Go.Proofs.YthlcpdjpnbbaeaaGreatDoor.Fn
open Go Go.RowKit Go.Proofs.YthlcpdjpnbbaeaaGreatDoor.Sy
set_option linter.unusedVariables false
set_option linter.unusedSimpArgs false
set_option maxRecDepth 100000
def t33 : Tr :=
  .br (.f (.is (.eq (.len 0 0) (.n 0)) true) <|
   .ok [.num (.n 0), .tru (.lt (.n 0) (.n 0))])
  (.f (.is (.eq (.len 0 0) (.n 0)) false) <|
   .br (.f (.rel 103305 [.lst 0 0, .rows [], .num (.n 0)] 65545 [.list [.int .u64, .int .u32, .int .u32], .int .i64]) <|
    .br (.f (.is (.lt (.v 65545 1) (.len 0 0)) false) <|
     .br (.f (.is (.lt (.n 0) (.len 0 0)) true) <|
      .br (.f (.rel 16 [.num (.at 0 0 (.n 0) 0), .lst 65545 0] 65553 [.int .u64, .int .i64, .int .u64, .int .u64, .int .i64, .bool]) <|
       .br (.f (.is (.v 65553 5) false) <|
        .ok [.num (.n 0), .tru (.lt (.n 0) (.n 0))])
       (.f (.is (.v 65553 5) true) <|
        .br (.f (.rel 76 [.num (.v 65553 0), .num (.v 65553 1), .num (.v 65553 2), .num (.v 65553 3), .num (.v 65553 4)] 65563 [.int .u64, .bool]) <|
         .ok [.num (.v 65563 0), .tru (.v 65563 1)])
        (.f (.npre 76 [.num (.v 65553 0), .num (.v 65553 1), .num (.v 65553 2), .num (.v 65553 3), .num (.v 65553 4)]) <|
         .bad)))
      (.f (.npre 16 [.num (.at 0 0 (.n 0) 0), .lst 65545 0]) <|
       .bad))
     (.f (.is (.lt (.n 0) (.len 0 0)) false) <|
      .bad))
    (.f (.is (.lt (.v 65545 1) (.len 0 0)) true) <|
     .br (.f (.is (.lt (.v 65545 1) (.n 0)) true) <|
      .bad)
     (.f (.is (.lt (.v 65545 1) (.n 0)) false) <|
      .br (.f (.is (.le (.len 65545 0) (.n 1000000000)) false) <|
       .bad)
      (.f (.is (.le (.len 65545 0) (.n 1000000000)) true) <|
       .f (.lseq 65555 (.app (.lst 65545 0) (.rows [[.at 0 0 (.v 65545 1) 0, .at 0 0 (.v 65545 1) 1, .at 0 0 (.v 65545 1) 2]]))) <|
        .br (.f (.nrel 103305 [.lst 0 0, .rows [], .num (.n 0)] [.lst 65555 0, .num (.wrap .i64 (.bin .add (.v 65545 1) (.n 1)))]) <|
         .bad)
        (.f (.ndec 103305 [.lst 0 0, .rows [], .num (.n 0)] [.lst 65545 0, .num (.v 65545 1)] [.lst 65555 0, .num (.wrap .i64 (.bin .add (.v 65545 1) (.n 1)))]) <|
         .bad)))))
   (.f (.nrel 103305 [.lst 0 0, .rows [], .num (.n 0)] [.rows [], .num (.n 0)]) <|
    .bad))
theorem c33 : ConS Tryz.prog T C33 := con_tr (cs := [C16, C76]) (lcs := [L103305]) (known := []) (cons_cons c16 (cons_cons c76 (cons_nil _ _))) (Known.nil _) (N := 400) (d := 40) (t := t33) (by kernel_rfl) <| by
  intro E hl hp
  have hl0 := hl 0 _ rfl
  clear hl
  have hp := hp rfl
  simp only [C33, show T.pre 33 = Q33 from rfl, flatS, SP.flat, dvs, List.append_nil, List.cons_append, List.nil_append, Q33, U64, U32, I64, s64, WT, PR, MB] at hp
  simp only [t33, C33, Tr.good, Fact.den, LX.den, DX.ls, DV.ls, DX.den, Bx.den, Ex.den, eo_add, eo_sub, eo_mul, eo_quo, eo_rem, eo_fdv, eo_mn, eo_mx, eo_land, eo_lor, eo_lxor, eo_landn, eo_shl, eo_shr, dvs, flatS, SP.flat, ST.flat, List.map_cons, List.map_nil, List.append_nil, List.cons_append, List.nil_append, ltb_t, ltb_f, leb_t, leb_f, eqb_t, eqb_f, decide_eq_true_eq, decide_eq_false_iff_not, Bool.not_eq_true', Bool.not_eq_false', Bool.and_eq_true, Bool.and_eq_false_imp, beq_iff_eq, beq_eq_false_iff_ne, bne_iff_ne, U64, U32, I64, Told, s64, WT, PR, MB, Int.zero_mul, Int.zero_add, Int.add_zero, Int.mul_zero, IntKind.wrap_u64, IntKind.wrap_i64, IntKind.wrap_u32, ne_eq, forall_const, true_implies, show T.rel 16 = R16 from rfl, R16, show T.rel 33 = R33 from rfl, R33, show T.rel 76 = R76 from rfl, R76, show T.rel 103305 = R103305 from rfl, R103305, show T.mu 103305 = M103305 from rfl, M103305, show T.pre 16 = Q16 from rfl, Q16, show T.pre 33 = Q33 from rfl, Q33, show T.pre 76 = Q76 from rfl, Q76]
  revert hp hl0
  generalize (E.r 0).l 0 = xs
  generalize (E.r 65545).l 0 = x9_0
  generalize (E.r 65545).i 1 = x9_1
  generalize (E.r 65553).i 0 = x17_0
  generalize (E.r 65553).i 1 = x17_1
  generalize (E.r 65553).i 2 = x17_2
  generalize (E.r 65553).i 3 = x17_3
  generalize (E.r 65553).i 4 = x17_4
  generalize (E.r 65553).c 5 = x17_5
  generalize (E.r 65555).l 0 = x19_0
  generalize (E.r 65563).i 0 = x27_0
  generalize (E.r 65563).c 1 = x27_1
  try simp only [mxI, mnI]
  try simp only [ltb, leb, eqb, Int.lt_irrefl, decide_false, Int.le_refl, decide_true]
  intro hl hp
  obtain ⟨hk, hn⟩ := hp
  refine ⟨fun c => ⟨⟨fun f => f.elim, fun f => by omega⟩, fun f => f.elim, fun _ => trivial⟩, fun c => ⟨fun ⟨i0, i1, i2, i3⟩ => ?_, fun n => n ⟨trivial, by omega, rfl, PQ.nil _⟩⟩⟩
  obtain ⟨k, rfl⟩ := Int.eq_ofNat_of_zero_le i0
  have ew : ((k : Int) + 1 + 9223372036854775808) % 18446744073709551616 - 9223372036854775808 = ((k + 1 : Nat) : Int) := by omega
  simp only [ew]
  have l0 : x9_0.length = k := by omega
  refine ⟨fun c1 => ⟨fun c2 => ?_, fun h => by omega⟩, fun c1 => ⟨by omega, fun _ => ⟨by omega, fun _ e => ?_⟩⟩⟩
  · have e1 : x9_0.length = xs.length := by omega
    have s := PQ.sa (b := Sy.rowAt xs 0 0) i3 (k := x9_0.length) (Nat.le_refl _)
    have ap := PQ.ap i3 (k := x9_0.length) (Nat.le_refl _)
    rw [s.1, s.2, ap, e1]
    refine ⟨fun ⟨a1, a2, a3⟩ => ⟨fun t => ⟨⟨fun f => f.elim, fun f => ?_⟩, fun f => f.elim, fun _ => trivial⟩, fun t => ?_⟩, fun n => n (PQ.rk i3 hk.rk)⟩
    · have := a1.2 ⟨f.2.1, f.2.2.1⟩
      rw [t] at this
      cases this
    · obtain ⟨b1, b2, b3, b4, b5⟩ := a2 t
      obtain ⟨n2, ap⟩ := a1.1 t
      have sw := SW_le ap
      have hm : MR x17_1 x17_2 (SW xs xs.length) xs.length := by simp only [MR]; right; omega
      rw [b1, b3, b4, b5]
      exact ⟨fun ⟨d1, d2, d3⟩ => ⟨⟨fun f => ⟨by omega, n2, ap, (d1.1 f).2.2⟩, fun f => d1.2 ⟨hm, by omega, f.2.2.2⟩⟩, d2, d3⟩, fun n => n ⟨b2, by omega, by omega⟩⟩
  · subst e
    exact ⟨fun n => n ⟨by omega, by omega, by simp [l0], PQ.snoc i3 l0 (fun c hc => by rcases (show c = 0 ∨ c = 1 ∨ c = 2 by omega) with rfl | rfl | rfl <;> rfl)⟩, by omega⟩
end Go.Proofs.YthlcpdjpnbbaeaaGreatDoor.Fn
namespace Go.Proofs.YthlcpdjpnbbaeaaGreatDoor.Fn
open Go Go.RowKit Go.Proofs.YthlcpdjpnbbaeaaGreatDoor.Sy
set_option linter.unusedVariables false
set_option linter.unusedSimpArgs false
set_option maxRecDepth 100000
def t13 : Tr :=
  .br (.f (.is (.eq (.len 0 1) (.n 0)) true) <|
   .ok [.num (.n 0)])
  (.f (.is (.eq (.len 0 1) (.n 0)) false) <|
   .br (.f (.is (.v 0 0) true) <|
    .ok [.num (.n (-1))])
   (.f (.is (.v 0 0) false) <|
    .ok [.num (.n 1)]))
theorem c13 : ConS Tryz.prog T C13 := con_tr (cs := []) (lcs := []) (known := []) (cons_nil _ _) (Known.nil _) (N := 400) (d := 40) (t := t13) (by kernel_rfl) <| by
  intro E hl hp
  have hl1 := hl 1 _ rfl
  clear hl
  have hp := hp rfl
  simp only [C13, show T.pre 13 = Q13 from rfl, flatS, SP.flat, dvs, List.append_nil, List.cons_append, List.nil_append, Q13, U64, U32, I64, Big, W, wv, s64, WT, PR, MR, MB] at hp
  simp only [t13, C13, Tr.good, Fact.den, LX.den, DX.ls, DV.ls, DX.den, Bx.den, Ex.den, eo_add, eo_sub, eo_mul, eo_quo, eo_rem, eo_fdv, eo_mn, eo_mx, eo_land, eo_lor, eo_lxor, eo_landn, eo_shl, eo_shr, dvs, flatS, SP.flat, ST.flat, List.map_cons, List.map_nil, List.append_nil, List.cons_append, List.nil_append, ltb_t, ltb_f, leb_t, leb_f, eqb_t, eqb_f, decide_eq_true_eq, decide_eq_false_iff_not, Bool.not_eq_true', Bool.not_eq_false', Bool.and_eq_true, Bool.and_eq_false_imp, beq_iff_eq, beq_eq_false_iff_ne, bne_iff_ne, U64, U32, I64, Big, W, wv, Told, s64, WT, PR, MR, MB, Int.zero_mul, Int.zero_add, Int.add_zero, Int.mul_zero, IntKind.wrap_u64, IntKind.wrap_i64, IntKind.wrap_u32, ne_eq, forall_const, true_implies, show T.rel 13 = R13 from rfl, R13, show T.pre 13 = Q13 from rfl, Q13]
  revert hp hl1
  generalize (E.r 0).c 0 = n
  generalize (E.r 0).l 1 = l
  try simp only [mxI, mnI]
  try simp only [ltb, leb, eqb, Int.lt_irrefl, decide_false, Int.le_refl, decide_true]
  intro hl hp
  have z := hp.zero
  have q := hp.pos
  refine ⟨fun h => ?_, fun h => ⟨fun h2 => ?_, fun h2 => ?_⟩⟩
  · have := z.2 (by omega)
    exact ⟨by omega, fun _ => trivial, by omega⟩
  · have := q.2.2 ⟨by omega, h2⟩
    exact ⟨fun _ => trivial, by omega, by omega⟩
  · have := q.1.2 ⟨by omega, h2⟩
    exact ⟨by omega, by omega, fun _ => trivial⟩
end Go.Proofs.YthlcpdjpnbbaeaaGreatDoor.Fn
namespace Go.Proofs.YthlcpdjpnbbaeaaGreatDoor.Fn
open Go Go.RowKit Go.Proofs.YthlcpdjpnbbaeaaGreatDoor.Sy
set_option linter.unusedVariables false
set_option linter.unusedSimpArgs false
set_option maxRecDepth 100000
def t47 : Tr :=
  .br (.f (.is (.eq (.v 0 4) (.n 0)) true) <|
   .br (.f (.is (.eq (.v 0 3) (.n 0)) true) <|
    .br (.f (.rel 13 [.tru (.v 0 1), .lst 0 2] 65547 [.int .i64]) <|
     .ok [.tru (.eq (.v 65547 0) (.n 0))])
    (.f (.npre 13 [.tru (.v 0 1), .lst 0 2]) <|
     .bad))
   (.f (.is (.eq (.v 0 3) (.n 0)) false) <|
    .ok [.tru (.lt (.n 0) (.n 0))]))
  (.f (.is (.eq (.v 0 4) (.n 0)) false) <|
   .br (.f (.is (.le (.n 1) (.v 0 4)) true) <|
    .br (.f (.is (.le (.v 0 4) (.n 32)) true) <|
     .br (.f (.is (.le (.wrap .u64 (.v 0 4)) (.v 0 3)) true) <|
      .ok [.tru (.le (.v 0 3) (.wrap .u64 (.bin .mul (.wrap .u64 (.v 0 4)) (.n 1048576))))])
     (.f (.is (.le (.wrap .u64 (.v 0 4)) (.v 0 3)) false) <|
      .ok [.tru (.lt (.n 0) (.n 0))]))
    (.f (.is (.le (.v 0 4) (.n 32)) false) <|
     .ok [.tru (.lt (.n 0) (.n 0))]))
   (.f (.is (.le (.n 1) (.v 0 4)) false) <|
    .ok [.tru (.lt (.n 0) (.n 0))]))
theorem c47 : ConS Tryz.prog T C47 := con_tr (cs := [C13]) (lcs := []) (known := []) (cons_cons c13 (cons_nil _ _)) (Known.nil _) (N := 400) (d := 40) (t := t47) (by kernel_rfl) <| by
  intro E hl hp
  have hl2 := hl 2 _ rfl
  clear hl
  have hp := hp rfl
  simp only [C47, show T.pre 47 = Q47 from rfl, flatS, SP.flat, dvs, List.append_nil, List.cons_append, List.nil_append, Q47, U64, U32, I64, Big, W, wv, s64, WT, PR, MR, MB] at hp
  simp only [t47, C47, Tr.good, Fact.den, LX.den, DX.ls, DV.ls, DX.den, Bx.den, Ex.den, eo_add, eo_sub, eo_mul, eo_quo, eo_rem, eo_fdv, eo_mn, eo_mx, eo_land, eo_lor, eo_lxor, eo_landn, eo_shl, eo_shr, dvs, flatS, SP.flat, ST.flat, List.map_cons, List.map_nil, List.append_nil, List.cons_append, List.nil_append, ltb_t, ltb_f, leb_t, leb_f, eqb_t, eqb_f, decide_eq_true_eq, decide_eq_false_iff_not, Bool.not_eq_true', Bool.not_eq_false', Bool.and_eq_true, Bool.and_eq_false_imp, beq_iff_eq, beq_eq_false_iff_ne, bne_iff_ne, U64, U32, I64, Big, W, wv, Told, s64, WT, PR, MR, MB, Int.zero_mul, Int.zero_add, Int.add_zero, Int.mul_zero, IntKind.wrap_u64, IntKind.wrap_i64, IntKind.wrap_u32, ne_eq, forall_const, true_implies, show T.rel 13 = R13 from rfl, R13, show T.rel 47 = R47 from rfl, R47, show T.pre 13 = Q13 from rfl, Q13, show T.pre 47 = Q47 from rfl, Q47]
  revert hp hl2
  generalize (E.r 0).i 0 = b
  generalize (E.r 0).c 1 = an
  generalize (E.r 0).l 2 = al
  generalize (E.r 0).i 3 = w
  generalize (E.r 0).i 4 = n
  generalize (E.r 65547).i 0 = x11_0
  try simp only [mxI, mnI]
  try simp only [ltb, leb, eqb, Int.lt_irrefl, decide_false, Int.le_refl, decide_true]
  intro hl hp
  simp only [Mq, MB]
  refine ⟨fun c => ⟨fun c2 => ⟨fun e => ?_, fun n => n hp.1⟩, fun c2 => ?_⟩, fun c => ⟨fun c2 => ⟨fun c3 => ⟨fun c4 => ?_, fun c4 => ?_⟩, fun c3 => ?_⟩, fun c2 => ?_⟩⟩
  · omega
  · refine ⟨fun h => h.elim, fun h => by omega⟩
  · have := hp.2
    omega
  all_goals refine ⟨fun h => h.elim, fun h => by have := hp.2; omega⟩
end Go.Proofs.YthlcpdjpnbbaeaaGreatDoor.Fn
namespace Go.Proofs.YthlcpdjpnbbaeaaGreatDoor.Fn
open Go Go.RowKit Go.Proofs.YthlcpdjpnbbaeaaGreatDoor.Sy
set_option linter.unusedVariables false
set_option linter.unusedSimpArgs false
set_option maxRecDepth 100000
def t48 : Tr :=
  .br (.f (.is (.le (.n 1) (.v 0 2)) true) <|
   .br (.f (.is (.le (.v 0 2) (.n 1048576)) true) <|
    .ok [.tru (.lt (.v 0 1) (.v 0 2))])
   (.f (.is (.le (.v 0 2) (.n 1048576)) false) <|
    .ok [.tru (.lt (.n 0) (.n 0))]))
  (.f (.is (.le (.n 1) (.v 0 2)) false) <|
   .ok [.tru (.lt (.n 0) (.n 0))])
theorem c48 : ConS Tryz.prog T C48 := con_tr (cs := []) (lcs := []) (known := []) (cons_nil _ _) (Known.nil _) (N := 400) (d := 40) (t := t48) (by kernel_rfl) <| by
  intro E hl hp
  clear hl
  clear hp
  simp only [t48, C48, Tr.good, Fact.den, LX.den, DX.ls, DV.ls, DX.den, Bx.den, Ex.den, eo_add, eo_sub, eo_mul, eo_quo, eo_rem, eo_fdv, eo_mn, eo_mx, eo_land, eo_lor, eo_lxor, eo_landn, eo_shl, eo_shr, dvs, flatS, SP.flat, ST.flat, List.map_cons, List.map_nil, List.append_nil, List.cons_append, List.nil_append, ltb_t, ltb_f, leb_t, leb_f, eqb_t, eqb_f, decide_eq_true_eq, decide_eq_false_iff_not, Bool.not_eq_true', Bool.not_eq_false', Bool.and_eq_true, Bool.and_eq_false_imp, beq_iff_eq, beq_eq_false_iff_ne, bne_iff_ne, U64, U32, I64, Big, W, wv, Told, s64, WT, PR, MR, MB, Int.zero_mul, Int.zero_add, Int.add_zero, Int.mul_zero, IntKind.wrap_u64, IntKind.wrap_i64, IntKind.wrap_u32, ne_eq, forall_const, true_implies, show T.rel 48 = R48 from rfl, R48]
  generalize (E.r 0).i 0 = t
  generalize (E.r 0).i 1 = r
  generalize (E.r 0).i 2 = w
  try simp only [mxI, mnI]
  try simp only [ltb, leb, eqb, Int.lt_irrefl, decide_false, Int.le_refl, decide_true]
  simp only [Pq, PR]
  repeat' (first | intro _ | refine And.intro ?_ ?_ | refine Iff.intro ?_ ?_)
  all_goals first | omega | (simp_all; done) | (simp_all; omega)
end Go.Proofs.YthlcpdjpnbbaeaaGreatDoor.Fn
namespace Go.Proofs.YthlcpdjpnbbaeaaGreatDoor.Fn
open Go Go.RowKit Go.Proofs.YthlcpdjpnbbaeaaGreatDoor.Sy
set_option linter.unusedVariables false
set_option linter.unusedSimpArgs false
set_option maxRecDepth 100000
def t38 : Tr :=
  .br (.f (.rel 103802 [.num (.v 0 0), .rows []] 65538 [.int .u64, .list [.int .i64]]) <|
   .br (.f (.is (.lt (.n 0) (.v 65538 0)) false) <|
    .ok [.tru (.lt (.n 0) (.n 0)), .lst 65538 1])
   (.f (.is (.lt (.n 0) (.v 65538 0)) true) <|
    .br (.f (.is (.le (.len 65538 1) (.n 1000000000)) false) <|
     .bad)
    (.f (.is (.le (.len 65538 1) (.n 1000000000)) true) <|
     .f (.lseq 65547 (.app (.lst 65538 1) (.rows [[.wrap .i64 (.bin .rem (.v 65538 0) (.n 10000))]]))) <|
      .br (.f (.nrel 103802 [.num (.v 0 0), .rows []] [.num (.wrap .u64 (.bin .quo (.v 65538 0) (.n 10000))), .lst 65547 0]) <|
       .bad)
      (.f (.ndec 103802 [.num (.v 0 0), .rows []] [.num (.v 65538 0), .lst 65538 1] [.num (.wrap .u64 (.bin .quo (.v 65538 0) (.n 10000))), .lst 65547 0]) <|
       .bad))))
  (.f (.nrel 103802 [.num (.v 0 0), .rows []] [.num (.v 0 0), .rows []]) <|
   .bad)
theorem c38 : ConS Tryz.prog T C38 := con_tr (cs := []) (lcs := [L103802]) (known := []) (cons_nil _ _) (Known.nil _) (N := 400) (d := 40) (t := t38) (by kernel_rfl) <| by
  intro E hl hp
  clear hl
  have hp := hp rfl
  simp only [C38, show T.pre 38 = Q38 from rfl, flatS, SP.flat, dvs, List.append_nil, List.cons_append, List.nil_append, Q38, U64, U32, I64, Big, W, wv, s64, WT, PR, MR, MB] at hp
  simp only [t38, C38, Tr.good, Fact.den, LX.den, DX.ls, DV.ls, DX.den, Bx.den, Ex.den, eo_add, eo_sub, eo_mul, eo_quo, eo_rem, eo_fdv, eo_mn, eo_mx, eo_land, eo_lor, eo_lxor, eo_landn, eo_shl, eo_shr, dvs, flatS, SP.flat, ST.flat, List.map_cons, List.map_nil, List.append_nil, List.cons_append, List.nil_append, ltb_t, ltb_f, leb_t, leb_f, eqb_t, eqb_f, decide_eq_true_eq, decide_eq_false_iff_not, Bool.not_eq_true', Bool.not_eq_false', Bool.and_eq_true, Bool.and_eq_false_imp, beq_iff_eq, beq_eq_false_iff_ne, bne_iff_ne, U64, U32, I64, Big, W, wv, Told, s64, WT, PR, MR, MB, Int.zero_mul, Int.zero_add, Int.add_zero, Int.mul_zero, IntKind.wrap_u64, IntKind.wrap_i64, IntKind.wrap_u32, ne_eq, forall_const, true_implies, show T.rel 38 = R38 from rfl, R38, show T.rel 103802 = R103802 from rfl, R103802, show T.mu 103802 = M103802 from rfl, M103802, show T.pre 38 = Q38 from rfl, Q38]
  revert hp
  generalize (E.r 0).i 0 = x
  generalize (E.r 65538).i 0 = x2_0
  generalize (E.r 65538).l 1 = x2_1
  generalize (E.r 65547).l 0 = x11_0
  try simp only [mxI, mnI]
  try simp only [ltb, leb, eqb, Int.lt_irrefl, decide_false, Int.le_refl, decide_true]
  intro hp
  refine ⟨fun ⟨i0, i1, i2, i3⟩ => ?_, fun n => n ⟨hp.1, dig_nil, by simp [dval, P4], by simp⟩⟩
  simp only [dval, Int.add_zero] at i2
  have p := P4_pos x2_1.length
  have d0 := dval_nonneg i1
  refine ⟨fun h => ?_, fun h => ?_⟩
  · have e : x2_0 = 0 := by omega
    rw [e, Int.mul_zero, Int.add_zero] at i2
    exact ⟨⟨i1, fun h => i3 e (by omega), by simp⟩, by simp only [bval, cond_false]; exact i2⟩
  · have l5 : x2_1.length < 5 := by
      refine Classical.byContradiction fun hn => ?_
      have a := P4_mono (show 5 ≤ x2_1.length by omega)
      have b : P4 5 = 100000000000000000000 := by decide
      have c := Int.mul_le_mul_of_nonneg_left (show 1 ≤ x2_0 by omega) (show 0 ≤ P4 x2_1.length by omega)
      omega
    have r0 := Int.emod_nonneg x2_0 (show (10000 : Int) ≠ 0 by omega)
    have r1 := Int.emod_lt_of_pos x2_0 (show (0 : Int) < 10000 by omega)
    have bnd : x2_0 < 18446744073709551616 := by
      have c := Int.mul_le_mul_of_nonneg_right (show 1 ≤ P4 x2_1.length by omega) (show 0 ≤ x2_0 by omega)
      omega
    rw [Int.tmod_eq_emod_of_nonneg i0, Int.tdiv_eq_ediv_of_nonneg i0]
    have e1 : (x2_0 % 10000 + 9223372036854775808) % 18446744073709551616 - 9223372036854775808 = x2_0 % 10000 := by omega
    have e2 : x2_0 / 10000 % 18446744073709551616 = x2_0 / 10000 := by omega
    simp only [e1, e2]
    refine ⟨by omega, fun _ e => ?_⟩
    subst e
    refine ⟨fun n => n ⟨by omega, dig_snoc i1 r0 r1, ?_, fun h5 _ => ?_⟩, by omega⟩
    · rw [dval_snoc, List.length_append, List.length_singleton, P4_add]
      simp only [P4, dval]
      have em : x2_0 = 10000 * (x2_0 / 10000) + x2_0 % 10000 := by omega
      generalize x2_0 / 10000 = q at *
      generalize x2_0 % 10000 = r at *
      subst em
      grind
    · rw [List.length_append, List.length_singleton, show ((x2_1.length + 1 : Nat) : Int) - 1 = x2_1.length by omega, rowAt_snoc]
      omega
end Go.Proofs.YthlcpdjpnbbaeaaGreatDoor.Fn
namespace Go.Proofs.YthlcpdjpnbbaeaaGreatDoor.Fn
open Go Go.RowKit Go.Proofs.YthlcpdjpnbbaeaaGreatDoor.Sy
set_option linter.unusedVariables false
set_option linter.unusedSimpArgs false
set_option maxRecDepth 100000
def t87 : Tr :=
  .br (.f (.is (.lt (.v 0 2) (.len 0 1)) true) <|
   .br (.f (.is (.lt (.v 0 2) (.n 0)) false) <|
    .ok [.num (.at 0 1 (.v 0 2) 0)])
   (.f (.is (.lt (.v 0 2) (.n 0)) true) <|
    .bad))
  (.f (.is (.lt (.v 0 2) (.len 0 1)) false) <|
   .ok [.num (.n 0)])
theorem c87 : ConS Tryz.prog T C87 := con_tr (cs := []) (lcs := []) (known := []) (cons_nil _ _) (Known.nil _) (N := 400) (d := 40) (t := t87) (by kernel_rfl) <| by
  intro E hl hp
  have hl1 := hl 1 _ rfl
  clear hl
  have hp := hp rfl
  simp only [C87, show T.pre 87 = Q87 from rfl, flatS, SP.flat, dvs, List.append_nil, List.cons_append, List.nil_append, Q87, U64, U32, I64, Big, W, wv, s64, WT, PR, MR, MB] at hp
  simp only [t87, C87, Tr.good, Fact.den, LX.den, DX.ls, DV.ls, DX.den, Bx.den, Ex.den, eo_add, eo_sub, eo_mul, eo_quo, eo_rem, eo_fdv, eo_mn, eo_mx, eo_land, eo_lor, eo_lxor, eo_landn, eo_shl, eo_shr, dvs, flatS, SP.flat, ST.flat, List.map_cons, List.map_nil, List.append_nil, List.cons_append, List.nil_append, ltb_t, ltb_f, leb_t, leb_f, eqb_t, eqb_f, decide_eq_true_eq, decide_eq_false_iff_not, Bool.not_eq_true', Bool.not_eq_false', Bool.and_eq_true, Bool.and_eq_false_imp, beq_iff_eq, beq_eq_false_iff_ne, bne_iff_ne, U64, U32, I64, Big, W, wv, Told, s64, WT, PR, MR, MB, Int.zero_mul, Int.zero_add, Int.add_zero, Int.mul_zero, IntKind.wrap_u64, IntKind.wrap_i64, IntKind.wrap_u32, ne_eq, forall_const, true_implies, show T.rel 87 = R87 from rfl, R87, show T.pre 87 = Q87 from rfl, Q87]
  revert hp hl1
  generalize (E.r 0).c 0 = n
  generalize (E.r 0).l 1 = l
  generalize (E.r 0).i 2 = i
  try simp only [mxI, mnI]
  try simp only [ltb, leb, eqb, Int.lt_irrefl, decide_false, Int.le_refl, decide_true]
  intro hl hp
  refine ⟨fun h => ⟨fun _ => trivial, by omega⟩, fun h => ?_⟩
  exact (rowAt_out (by omega) 0).symm
end Go.Proofs.YthlcpdjpnbbaeaaGreatDoor.Fn
namespace Go.Proofs.YthlcpdjpnbbaeaaGreatDoor.Fn
open Go Go.RowKit Go.Proofs.YthlcpdjpnbbaeaaGreatDoor.Sy
set_option linter.unusedVariables false
set_option linter.unusedSimpArgs false
set_option maxRecDepth 100000
def t88 : Tr :=
  .br (.f (.rel 108801 [.lst 0 1] 65538 [.list [.int .i64]]) <|
   .br (.f (.is (.lt (.n 0) (.len 65538 0)) true) <|
    .br (.f (.is (.lt (.wrap .i64 (.bin .sub (.len 65538 0) (.n 1))) (.n 0)) false) <|
     .br (.f (.is (.lt (.wrap .i64 (.bin .sub (.len 65538 0) (.n 1))) (.len 65538 0)) true) <|
      .br (.f (.is (.eq (.at 65538 0 (.wrap .i64 (.bin .sub (.len 65538 0) (.n 1))) 0) (.n 0)) false) <|
       .br (.f (.is (.eq (.len 65538 0) (.n 0)) true) <|
        .ok [.tru (.lt (.n 0) (.n 0)), .rows []])
       (.f (.is (.eq (.len 65538 0) (.n 0)) false) <|
        .ok [.tru (.v 0 0), .lst 65538 0]))
      (.f (.is (.eq (.at 65538 0 (.wrap .i64 (.bin .sub (.len 65538 0) (.n 1))) 0) (.n 0)) true) <|
       .br (.f (.is (.le (.wrap .i64 (.bin .sub (.len 65538 0) (.n 1))) (.len 65538 0)) false) <|
        .bad)
       (.f (.is (.le (.wrap .i64 (.bin .sub (.len 65538 0) (.n 1))) (.len 65538 0)) true) <|
        .f (.lseq 65560 (.sub (.lst 65538 0) (.n 0) (.wrap .i64 (.bin .sub (.len 65538 0) (.n 1))))) <|
         .br (.f (.nrel 108801 [.lst 0 1] [.lst 65560 0]) <|
          .bad)
         (.f (.ndec 108801 [.lst 0 1] [.lst 65538 0] [.lst 65560 0]) <|
          .bad))))
     (.f (.is (.lt (.wrap .i64 (.bin .sub (.len 65538 0) (.n 1))) (.len 65538 0)) false) <|
      .bad))
    (.f (.is (.lt (.wrap .i64 (.bin .sub (.len 65538 0) (.n 1))) (.n 0)) true) <|
     .bad))
   (.f (.is (.lt (.n 0) (.len 65538 0)) false) <|
    .br (.f (.is (.eq (.len 65538 0) (.n 0)) true) <|
     .ok [.tru (.lt (.n 0) (.n 0)), .rows []])
    (.f (.is (.eq (.len 65538 0) (.n 0)) false) <|
     .ok [.tru (.v 0 0), .lst 65538 0])))
  (.f (.nrel 108801 [.lst 0 1] [.lst 0 1]) <|
   .bad)
theorem c88 : ConS Tryz.prog T C88 := con_tr (cs := []) (lcs := [L108801]) (known := []) (cons_nil _ _) (Known.nil _) (N := 400) (d := 40) (t := t88) (by kernel_rfl) <| by
  intro E hl hp
  have hl1 := hl 1 _ rfl
  clear hl
  have hp := hp rfl
  simp only [C88, show T.pre 88 = Q88 from rfl, flatS, SP.flat, dvs, List.append_nil, List.cons_append, List.nil_append, Q88, U64, U32, I64, Big, W, wv, s64, WT, PR, MR, MB] at hp
  simp only [t88, C88, Tr.good, Fact.den, LX.den, DX.ls, DV.ls, DX.den, Bx.den, Ex.den, eo_add, eo_sub, eo_mul, eo_quo, eo_rem, eo_fdv, eo_mn, eo_mx, eo_land, eo_lor, eo_lxor, eo_landn, eo_shl, eo_shr, dvs, flatS, SP.flat, ST.flat, List.map_cons, List.map_nil, List.append_nil, List.cons_append, List.nil_append, ltb_t, ltb_f, leb_t, leb_f, eqb_t, eqb_f, decide_eq_true_eq, decide_eq_false_iff_not, Bool.not_eq_true', Bool.not_eq_false', Bool.and_eq_true, Bool.and_eq_false_imp, beq_iff_eq, beq_eq_false_iff_ne, bne_iff_ne, U64, U32, I64, Big, W, wv, Told, s64, WT, PR, MR, MB, Int.zero_mul, Int.zero_add, Int.add_zero, Int.mul_zero, IntKind.wrap_u64, IntKind.wrap_i64, IntKind.wrap_u32, ne_eq, forall_const, true_implies, show T.rel 88 = R88 from rfl, R88, show T.rel 108801 = R108801 from rfl, R108801, show T.mu 108801 = M108801 from rfl, M108801, show T.pre 88 = Q88 from rfl, Q88]
  revert hp hl1
  generalize (E.r 0).c 0 = n
  generalize (E.r 0).l 1 = l
  generalize (E.r 65538).l 0 = x2_0
  generalize (E.r 65560).l 0 = x24_0
  try simp only [mxI, mnI]
  try simp only [ltb, leb, eqb, Int.lt_irrefl, decide_false, Int.le_refl, decide_true]
  intro hl hp
  refine ⟨fun ⟨i0, i1, i2⟩ => ?_, fun n => n ⟨hp.1, hp.2, by first | trivial | rfl⟩⟩
  have hb : bval n l = bval n x2_0 := by simp only [bval, i2]
  have z : x2_0.length = 0 → BOK false [] ∧ bval false [] = bval n l := by
    intro h
    rw [List.eq_nil_of_length_eq_zero h] at hb
    rw [hb]
    refine ⟨BOK_nil, ?_⟩
    cases n <;> rfl
  by_cases h0 : x2_0.length = 0
  · have := z h0
    refine ⟨by omega, fun _ => ⟨fun _ => this, by omega⟩⟩
  obtain ⟨k, hk⟩ : ∃ k, x2_0.length = k + 1 := ⟨x2_0.length - 1, by omega⟩
  have ew : ((x2_0.length : Int) - 1 + 9223372036854775808) % 18446744073709551616 - 9223372036854775808 = (k : Int) := by omega
  simp only [ew, Int.toNat_natCast, Int.toNat_zero, List.drop_zero]
  refine ⟨fun _ => ⟨fun _ => ⟨fun _ => ⟨fun c => ⟨by omega, fun _ => ?_⟩, fun c => ⟨by omega, fun _ e => ?_⟩⟩, by omega⟩, by omega⟩, by omega⟩
  · exact ⟨⟨i0, fun _ => by rw [hk, show ((k + 1 : Nat) : Int) - 1 = k by omega]; exact c, by omega⟩, hb.symm⟩
  · subst e
    have e1 := dval_trim hk c
    refine ⟨fun n => n ⟨dig_take i0 k, by rw [List.length_take]; omega, by rw [e1]; exact i2⟩, fun n => n (by rw [List.length_take]; omega)⟩
end Go.Proofs.YthlcpdjpnbbaeaaGreatDoor.Fn
namespace Go.Proofs.YthlcpdjpnbbaeaaGreatDoor.Fn
open Go Go.RowKit Go.Proofs.YthlcpdjpnbbaeaaGreatDoor.Sy
set_option linter.unusedVariables false
set_option linter.unusedSimpArgs false
set_option maxRecDepth 100000
def t49 : Tr :=
  .br (.f (.is (.lt (.wrap .i64 (.bin .add (.wrap .i64 (.bin .add (.len 0 1) (.len 0 3))) (.n 1))) (.n 0)) false) <|
   .br (.f (.is (.le (.wrap .i64 (.bin .add (.wrap .i64 (.bin .add (.len 0 1) (.len 0 3))) (.n 1))) (.n 1000000000)) true) <|
    .f (.lseq 65547 (.rep (.wrap .i64 (.bin .add (.wrap .i64 (.bin .add (.len 0 1) (.len 0 3))) (.n 1))) [0])) <|
     .f (.is (.eq (.v 65549 0) (.wrap .i64 (.bin .add (.wrap .i64 (.bin .add (.len 0 1) (.len 0 3))) (.n 1)))) true) <|
      .br (.f (.rel 104903 [.lst 0 1, .lst 0 3, .lst 65547 0, .num (.n 0)] 65554 [.list [.int .i64], .int .i64]) <|
       .br (.f (.is (.lt (.v 65554 1) (.len 0 1)) false) <|
        .br (.f (.rel 88 [.tru (.not (.beq (.v 0 0) (.v 0 2))), .lst 65554 0] 65563 [.bool, .list [.int .i64]]) <|
         .ok [.tru (.v 65563 0), .lst 65563 1])
        (.f (.npre 88 [.tru (.not (.beq (.v 0 0) (.v 0 2))), .lst 65554 0]) <|
         .bad))
       (.f (.is (.lt (.v 65554 1) (.len 0 1)) true) <|
        .br (.f (.is (.lt (.v 65554 1) (.n 0)) true) <|
         .bad)
        (.f (.is (.lt (.v 65554 1) (.n 0)) false) <|
         .br (.f (.nrel 104907 [.lst 0 3, .num (.v 65554 1), .num (.at 0 1 (.v 65554 1) 0), .lst 65554 0, .num (.n 0), .num (.n 0)] [.lst 65554 0, .num (.n 0), .num (.n 0)]) <|
          .bad)
         (.f (.rel 104907 [.lst 0 3, .num (.v 65554 1), .num (.at 0 1 (.v 65554 1) 0), .lst 65554 0, .num (.n 0), .num (.n 0)] 65563 [.list [.int .i64], .int .i64, .int .i64]) <|
          .br (.f (.is (.lt (.v 65563 2) (.len 0 3)) true) <|
           .br (.f (.is (.lt (.wrap .i64 (.bin .add (.v 65554 1) (.v 65563 2))) (.n 0)) true) <|
            .bad)
           (.f (.is (.lt (.wrap .i64 (.bin .add (.v 65554 1) (.v 65563 2))) (.n 0)) false) <|
            .br (.f (.is (.lt (.wrap .i64 (.bin .add (.v 65554 1) (.v 65563 2))) (.len 65563 0)) false) <|
             .bad)
            (.f (.is (.lt (.wrap .i64 (.bin .add (.v 65554 1) (.v 65563 2))) (.len 65563 0)) true) <|
             .br (.f (.npre 87 [.tru (.v 0 2), .lst 0 3, .num (.v 65563 2)]) <|
              .bad)
             (.f (.rel 87 [.tru (.v 0 2), .lst 0 3, .num (.v 65563 2)] 65582 [.int .i64]) <|
              .f (.is (.eq (.v 65588 0) (.wrap .i64 (.bin .add (.at 65563 0 (.wrap .i64 (.bin .add (.v 65554 1) (.v 65563 2))) 0) (.wrap .i64 (.bin .mul (.at 0 1 (.v 65554 1) 0) (.v 65582 0)))))) true) <|
               .f (.lseq 65596 (.set (.lst 65563 0) (.wrap .i64 (.bin .add (.v 65554 1) (.v 65563 2))) 0 [.bin .rem (.wrap .i64 (.bin .add (.v 65588 0) (.v 65563 1))) (.n 10000)])) <|
                .f (.is (.eq (.v 65600 0) (.wrap .i64 (.bin .quo (.wrap .i64 (.bin .add (.v 65588 0) (.v 65563 1))) (.n 10000)))) true) <|
                 .br (.f (.nrel 104907 [.lst 0 3, .num (.v 65554 1), .num (.at 0 1 (.v 65554 1) 0), .lst 65554 0, .num (.n 0), .num (.n 0)] [.lst 65596 0, .num (.v 65600 0), .num (.wrap .i64 (.bin .add (.v 65563 2) (.n 1)))]) <|
                  .bad)
                 (.f (.ndec 104907 [.lst 0 3, .num (.v 65554 1), .num (.at 0 1 (.v 65554 1) 0), .lst 65554 0, .num (.n 0), .num (.n 0)] [.lst 65563 0, .num (.v 65563 1), .num (.v 65563 2)] [.lst 65596 0, .num (.v 65600 0), .num (.wrap .i64 (.bin .add (.v 65563 2) (.n 1)))]) <|
                  .bad)))))
          (.f (.is (.lt (.v 65563 2) (.len 0 3)) false) <|
           .br (.f (.is (.lt (.n 0) (.v 65563 1)) true) <|
            .br (.f (.is (.lt (.wrap .i64 (.bin .add (.v 65554 1) (.v 65563 2))) (.n 0)) true) <|
             .bad)
            (.f (.is (.lt (.wrap .i64 (.bin .add (.v 65554 1) (.v 65563 2))) (.n 0)) false) <|
             .br (.f (.is (.lt (.wrap .i64 (.bin .add (.v 65554 1) (.v 65563 2))) (.len 65563 0)) false) <|
              .bad)
             (.f (.is (.lt (.wrap .i64 (.bin .add (.v 65554 1) (.v 65563 2))) (.len 65563 0)) true) <|
              .br (.f (.npre 87 [.tru (.v 0 2), .lst 0 3, .num (.v 65563 2)]) <|
               .bad)
              (.f (.rel 87 [.tru (.v 0 2), .lst 0 3, .num (.v 65563 2)] 65582 [.int .i64]) <|
               .f (.is (.eq (.v 65588 0) (.wrap .i64 (.bin .add (.at 65563 0 (.wrap .i64 (.bin .add (.v 65554 1) (.v 65563 2))) 0) (.wrap .i64 (.bin .mul (.at 0 1 (.v 65554 1) 0) (.v 65582 0)))))) true) <|
                .f (.lseq 65596 (.set (.lst 65563 0) (.wrap .i64 (.bin .add (.v 65554 1) (.v 65563 2))) 0 [.bin .rem (.wrap .i64 (.bin .add (.v 65588 0) (.v 65563 1))) (.n 10000)])) <|
                 .f (.is (.eq (.v 65600 0) (.wrap .i64 (.bin .quo (.wrap .i64 (.bin .add (.v 65588 0) (.v 65563 1))) (.n 10000)))) true) <|
                  .br (.f (.nrel 104907 [.lst 0 3, .num (.v 65554 1), .num (.at 0 1 (.v 65554 1) 0), .lst 65554 0, .num (.n 0), .num (.n 0)] [.lst 65596 0, .num (.v 65600 0), .num (.wrap .i64 (.bin .add (.v 65563 2) (.n 1)))]) <|
                   .bad)
                  (.f (.ndec 104907 [.lst 0 3, .num (.v 65554 1), .num (.at 0 1 (.v 65554 1) 0), .lst 65554 0, .num (.n 0), .num (.n 0)] [.lst 65563 0, .num (.v 65563 1), .num (.v 65563 2)] [.lst 65596 0, .num (.v 65600 0), .num (.wrap .i64 (.bin .add (.v 65563 2) (.n 1)))]) <|
                   .bad)))))
           (.f (.is (.lt (.n 0) (.v 65563 1)) false) <|
            .br (.f (.nrel 104903 [.lst 0 1, .lst 0 3, .lst 65547 0, .num (.n 0)] [.lst 65563 0, .num (.wrap .i64 (.bin .add (.v 65554 1) (.n 1)))]) <|
             .bad)
            (.f (.ndec 104903 [.lst 0 1, .lst 0 3, .lst 65547 0, .num (.n 0)] [.lst 65554 0, .num (.v 65554 1)] [.lst 65563 0, .num (.wrap .i64 (.bin .add (.v 65554 1) (.n 1)))]) <|
             .bad)))))))
      (.f (.nrel 104903 [.lst 0 1, .lst 0 3, .lst 65547 0, .num (.n 0)] [.lst 65547 0, .num (.n 0)]) <|
       .bad))
   (.f (.is (.le (.wrap .i64 (.bin .add (.wrap .i64 (.bin .add (.len 0 1) (.len 0 3))) (.n 1))) (.n 1000000000)) false) <|
    .bad))
  (.f (.is (.lt (.wrap .i64 (.bin .add (.wrap .i64 (.bin .add (.len 0 1) (.len 0 3))) (.n 1))) (.n 0)) true) <|
   .bad)
theorem c49 : ConS Tryz.prog T C49 := con_tr (cs := [C87, C88]) (lcs := [L104903, L104907]) (known := []) (cons_cons c87 (cons_cons c88 (cons_nil _ _))) (Known.nil _) (N := 400) (d := 40) (t := t49) (by kernel_rfl) <| by
  intro E hl hp
  have hl1 := hl 1 _ rfl
  have hl3 := hl 3 _ rfl
  clear hl
  have hp := hp rfl
  simp only [C49, show T.pre 49 = Q49 from rfl, flatS, SP.flat, dvs, List.append_nil, List.cons_append, List.nil_append, Q49, U64, U32, I64, Big, W, wv, s64, WT, PR, MR, MB] at hp
  simp only [t49, C49, Tr.good, Fact.den, LX.den, DX.ls, DV.ls, DX.den, Bx.den, Ex.den, eo_add, eo_sub, eo_mul, eo_quo, eo_rem, eo_fdv, eo_mn, eo_mx, eo_land, eo_lor, eo_lxor, eo_landn, eo_shl, eo_shr, dvs, flatS, SP.flat, ST.flat, List.map_cons, List.map_nil, List.append_nil, List.cons_append, List.nil_append, ltb_t, ltb_f, leb_t, leb_f, eqb_t, eqb_f, decide_eq_true_eq, decide_eq_false_iff_not, Bool.not_eq_true', Bool.not_eq_false', Bool.and_eq_true, Bool.and_eq_false_imp, beq_iff_eq, beq_eq_false_iff_ne, bne_iff_ne, U64, U32, I64, Big, W, wv, Told, s64, WT, PR, MR, MB, Int.zero_mul, Int.zero_add, Int.add_zero, Int.mul_zero, IntKind.wrap_u64, IntKind.wrap_i64, IntKind.wrap_u32, ne_eq, forall_const, true_implies, show T.rel 49 = R49 from rfl, R49, show T.rel 87 = R87 from rfl, R87, show T.rel 88 = R88 from rfl, R88, show T.rel 104903 = R104903 from rfl, R104903, show T.rel 104907 = R104907 from rfl, R104907, show T.mu 104903 = M104903 from rfl, M104903, show T.mu 104907 = M104907 from rfl, M104907, show T.pre 49 = Q49 from rfl, Q49, show T.pre 87 = Q87 from rfl, Q87, show T.pre 88 = Q88 from rfl, Q88]
  revert hp hl1 hl3
  generalize (E.r 0).c 0 = an
  generalize (E.r 0).l 1 = al
  generalize (E.r 0).c 2 = bn
  generalize (E.r 0).l 3 = bl
  generalize (E.r 65547).l 0 = x11_0
  generalize (E.r 65549).i 0 = x13_0
  generalize (E.r 65554).l 0 = x18_0
  generalize (E.r 65554).i 1 = x18_1
  generalize (E.r 65563).l 0 = x27_0
  generalize (E.r 65563).c 0 = x27_0c
  generalize (E.r 65563).i 1 = x27_1
  generalize (E.r 65563).l 1 = x27_1l
  generalize (E.r 65563).i 2 = x27_2
  generalize (E.r 65582).i 0 = x46_0
  generalize (E.r 65588).i 0 = x52_0
  generalize (E.r 65596).l 0 = x60_0
  generalize (E.r 65600).i 0 = x64_0
  try simp only [mxI, mnI]
  try simp only [ltb, leb, eqb, Int.lt_irrefl, decide_false, Int.le_refl, decide_true]
  intro hal hbl hp
  have la := Bg.len hp.1
  have lb := Bg.len hp.2
  have e1 : (((al.length : Int) + bl.length + 9223372036854775808) % 18446744073709551616 - 9223372036854775808 + 1 + 9223372036854775808) % 18446744073709551616 - 9223372036854775808 = ((al.length + bl.length + 1 : Nat) : Int) := by omega
  simp only [e1, Int.toNat_natCast, implies_true, true_and, and_true, Int.toNat_zero, List.drop_zero]
  have da := hp.1.1.1
  have db := hp.2.1.1
  have ent : ∀ y : List (List Int), y = List.replicate (al.length + bl.length + 1) [0] → y.length = al.length + bl.length + 1 ∧ dig y ∧ (∀ k : Nat, Sy.rowAt y k 0 = 0) ∧ dval y = 0 := by
    intro y hy
    subst hy
    exact ⟨List.length_replicate, dig_rep _, rowAt_rep _, dval_rep _⟩
  refine ⟨fun _ => ⟨fun _ y0 _ => ⟨fun ⟨i0, i1, i2, i3, i4, i5⟩ => ⟨fun c1 => ⟨fun e => ⟨e.1, ?_⟩, fun n => n ⟨i3, by omega⟩⟩, fun c1 => ⟨by omega, fun _ => ⟨fun n => n ⟨by omega, i3, by omega⟩, fun ⟨j0, j1, j2, j3, j4, j5, j6, j7⟩ => ?_⟩⟩⟩, ?_⟩, by omega⟩, by omega⟩
  · rw [e.2]
    rw [List.drop_of_length_le (by omega)] at i5
    simp only [dval, Int.zero_mul, Int.mul_zero, Int.add_zero] at i5
    have v1 := bval_abs (n := an) da
    have v2 := bval_abs (n := bn) db
    have v3 := bval_abs (n := (!an == bn)) i3
    cases an <;> cases bn <;> simp only [bval, cond_true, cond_false, Bool.not_true, Bool.not_false, BEq.rfl, beq_iff_eq, reduceCtorEq, i5, Bool.true_beq, Bool.false_beq, Int.neg_mul, Int.mul_neg, Int.neg_neg]
  · obtain ⟨m, rfl⟩ := Int.eq_ofNat_of_zero_le i0
    obtain ⟨n, rfl⟩ := Int.eq_ofNat_of_zero_le j0
    have ew : ((m : Int) + n + 9223372036854775808) % 18446744073709551616 - 9223372036854775808 = ((m + n : Nat) : Int) := by omega
    have ew2 : ((n : Int) + 1 + 9223372036854775808) % 18446744073709551616 - 9223372036854775808 = ((n + 1 : Nat) : Int) := by omega
    have ew3 : ((m : Int) + n).toNat = m + n := by omega
    have ew4 : ((m : Int) + ((n + 1 : Nat) : Int)).toNat = m + n + 1 := by omega
    have ew5 : ((m : Int) + 1 + 9223372036854775808) % 18446744073709551616 - 9223372036854775808 = ((m + 1 : Nat) : Int) := by omega
    simp only [ew, ew2, ew3, ew4, ew5, Int.toNat_natCast] at *
    have dm := da m
    have step : ∀ s t u : Int, s = (Sy.rowAt x27_0 ((m + n : Nat) : Int) 0 + ((Sy.rowAt al m 0 * u + 9223372036854775808) % 18446744073709551616 - 9223372036854775808) + 9223372036854775808) % 18446744073709551616 - 9223372036854775808 → u = Sy.rowAt bl n 0 → (n < bl.length ∨ n = bl.length ∧ 0 < x27_1) →
        ∀ y : List (List Int), y = Sy.rowSet x27_0 ((m + n : Nat) : Int) 0 [((s + x27_1 + 9223372036854775808) % 18446744073709551616 - 9223372036854775808).tmod 10000] → t = (((s + x27_1 + 9223372036854775808) % 18446744073709551616 - 9223372036854775808).tdiv 10000 + 9223372036854775808) % 18446744073709551616 - 9223372036854775808 →
        (0 ≤ ((n + 1 : Nat) : Int) ∧ 0 ≤ t ∧ t < 10000 ∧ y.length = x18_0.length ∧ dig y ∧ (((n + 1 : Nat) : Int) ≤ bl.length ∨ ((n + 1 : Nat) : Int) ≤ bl.length + 1 ∧ t = 0) ∧ (∀ j : Nat, (m : Int) + ((n + 1 : Nat) : Int) ≤ j → Sy.rowAt y j 0 = Sy.rowAt x18_0 j 0) ∧
          dval y + P4 (m + n + 1) * (t + Sy.rowAt al m 0 * dval (bl.drop (n + 1))) = dval x18_0 + P4 m * (Sy.rowAt al m 0 * dval bl)) := by
      intro s t u hs hu hn y hy ht
      obtain ⟨q1, q2, q3, q4, q5⟩ := mul_step (m := m) (n := n) (c := x27_1) (x := Sy.rowAt al m 0) j4 db j1 j2 dm.1 dm.2 (by omega) (fun j hj => j6 j (by omega)) j7 _ rfl
      have dn := db n
      have pm := mul_below dm.1 (show Sy.rowAt al m 0 ≤ 9999 by omega) dn.1 (show Sy.rowAt bl n 0 ≤ 9999 by omega)
      have d1 := j4 (m + n)
      subst hu
      have es : (s + x27_1 + 9223372036854775808) % 18446744073709551616 - 9223372036854775808 = Sy.rowAt x27_0 ((m + n : Nat) : Int) 0 + Sy.rowAt al m 0 * Sy.rowAt bl n 0 + x27_1 := by
        generalize Sy.rowAt al m 0 * Sy.rowAt bl n 0 = z at *
        omega
      rw [es] at hy ht
      have z0 : n = bl.length → Sy.rowAt x27_0 ((m + n : Nat) : Int) 0 + Sy.rowAt al m 0 * Sy.rowAt bl n 0 + x27_1 = x27_1 := by
        intro e
        rw [rowAt_out (L := bl) (by omega), Int.mul_zero, j6 (m + n) (by omega), i4 (m + n) (by omega)]
        omega
      generalize Sy.rowAt x27_0 ((m + n : Nat) : Int) 0 + Sy.rowAt al m 0 * Sy.rowAt bl n 0 + x27_1 = S at *
      rw [Int.tmod_eq_emod_of_nonneg q1] at hy
      rw [Int.tdiv_eq_ediv_of_nonneg q1] at ht
      have et : t = S / 10000 := by omega
      subst et hy
      refine ⟨by omega, by omega, by omega, by rw [rowSet_len]; exact j3, q3, ?_, fun j hj => q4 j (by omega), q5⟩
      rcases hn with h | ⟨h, _⟩
      · left; omega
      · have := z0 h
        right; omega
    have next : bl.length ≤ n → x27_1 ≤ 0 → (0 ≤ ((m + 1 : Nat) : Int) ∧ ((m + 1 : Nat) : Int) ≤ al.length ∧ x27_0.length = al.length + bl.length + 1 ∧ dig x27_0 ∧ (∀ k : Nat, ((m + 1 : Nat) : Int) + bl.length ≤ k → Sy.rowAt x27_0 k 0 = 0) ∧ dval x27_0 + P4 (m + 1) * (dval (al.drop (m + 1)) * dval bl) = dval al * dval bl) := by
      intro h1 h2
      refine ⟨by omega, by omega, by omega, j4, fun k hk => ?_, ?_⟩
      · rw [j6 k (by omega), i4 k (by omega)]
      · rw [List.drop_of_length_le h1] at j7
        have c0 : x27_1 = 0 := by omega
        simp only [dval, c0, Int.mul_zero, Int.add_zero] at j7
        rw [j7, ← i5, dval_drop al m]
        simp only [P4]
        grind
    exact ⟨fun c => ⟨by omega, fun _ => ⟨by omega, fun _ => ⟨by omega, fun u1 u2 u3 u4 => ⟨fun n => n (step _ _ _ u2 u1 (Or.inl (by omega)) _ u3 u4), by omega⟩⟩⟩⟩, fun c => ⟨fun c2 => ⟨by omega, fun _ => ⟨by omega, fun _ => ⟨by omega, fun u1 u2 u3 u4 => ⟨fun n => n (step _ _ _ u2 u1 (Or.inr ⟨by omega, c2⟩) _ u3 u4), by omega⟩⟩⟩⟩, fun c2 => ⟨fun n => n (next (by omega) c2), by omega⟩⟩⟩
  · intro n
    obtain ⟨f1, f2, f3, f4⟩ := ent _ y0
    exact n ⟨by omega, f1, f2, fun k _ => f3 k, by rw [f4]; simp [P4]⟩
end Go.Proofs.YthlcpdjpnbbaeaaGreatDoor.Fn
namespace Go.Proofs.YthlcpdjpnbbaeaaGreatDoor.Fn
open Go Go.RowKit Go.Proofs.YthlcpdjpnbbaeaaGreatDoor.Sy
set_option linter.unusedVariables false
set_option linter.unusedSimpArgs false
set_option maxRecDepth 100000
def t106 : Tr :=
  .br (.f (.rel 110604 [.lst 0 1, .lst 0 3, .rows [], .num (.n 0), .num (.n 0)] 65542 [.list [.int .i64], .int .i64, .int .i64]) <|
   .br (.f (.is (.lt (.v 65542 2) (.len 0 1)) false) <|
    .br (.f (.is (.lt (.v 65542 2) (.len 0 3)) false) <|
     .br (.f (.is (.lt (.n 0) (.v 65542 1)) false) <|
      .ok [.lst 65542 0])
     (.f (.is (.lt (.n 0) (.v 65542 1)) true) <|
      .br (.f (.npre 87 [.tru (.v 0 0), .lst 0 1, .num (.v 65542 2)]) <|
       .bad)
      (.f (.rel 87 [.tru (.v 0 0), .lst 0 1, .num (.v 65542 2)] 65561 [.int .i64]) <|
       .br (.f (.npre 87 [.tru (.v 0 2), .lst 0 3, .num (.v 65542 2)]) <|
        .bad)
       (.f (.rel 87 [.tru (.v 0 2), .lst 0 3, .num (.v 65542 2)] 65564 [.int .i64]) <|
        .f (.is (.eq (.v 65569 0) (.wrap .i64 (.bin .add (.wrap .i64 (.bin .add (.v 65561 0) (.v 65564 0))) (.v 65542 1)))) true) <|
         .br (.f (.is (.le (.len 65542 0) (.n 1000000000)) false) <|
          .bad)
         (.f (.is (.le (.len 65542 0) (.n 1000000000)) true) <|
          .f (.lseq 65574 (.app (.lst 65542 0) (.rows [[.bin .rem (.v 65569 0) (.n 10000)]]))) <|
           .br (.f (.nrel 110604 [.lst 0 1, .lst 0 3, .rows [], .num (.n 0), .num (.n 0)] [.lst 65574 0, .num (.wrap .i64 (.bin .quo (.v 65569 0) (.n 10000))), .num (.wrap .i64 (.bin .add (.v 65542 2) (.n 1)))]) <|
            .bad)
           (.f (.ndec 110604 [.lst 0 1, .lst 0 3, .rows [], .num (.n 0), .num (.n 0)] [.lst 65542 0, .num (.v 65542 1), .num (.v 65542 2)] [.lst 65574 0, .num (.wrap .i64 (.bin .quo (.v 65569 0) (.n 10000))), .num (.wrap .i64 (.bin .add (.v 65542 2) (.n 1)))]) <|
            .bad))))))
    (.f (.is (.lt (.v 65542 2) (.len 0 3)) true) <|
     .br (.f (.npre 87 [.tru (.v 0 0), .lst 0 1, .num (.v 65542 2)]) <|
      .bad)
     (.f (.rel 87 [.tru (.v 0 0), .lst 0 1, .num (.v 65542 2)] 65561 [.int .i64]) <|
      .br (.f (.npre 87 [.tru (.v 0 2), .lst 0 3, .num (.v 65542 2)]) <|
       .bad)
      (.f (.rel 87 [.tru (.v 0 2), .lst 0 3, .num (.v 65542 2)] 65564 [.int .i64]) <|
       .f (.is (.eq (.v 65569 0) (.wrap .i64 (.bin .add (.wrap .i64 (.bin .add (.v 65561 0) (.v 65564 0))) (.v 65542 1)))) true) <|
        .br (.f (.is (.le (.len 65542 0) (.n 1000000000)) false) <|
         .bad)
        (.f (.is (.le (.len 65542 0) (.n 1000000000)) true) <|
         .f (.lseq 65574 (.app (.lst 65542 0) (.rows [[.bin .rem (.v 65569 0) (.n 10000)]]))) <|
          .br (.f (.nrel 110604 [.lst 0 1, .lst 0 3, .rows [], .num (.n 0), .num (.n 0)] [.lst 65574 0, .num (.wrap .i64 (.bin .quo (.v 65569 0) (.n 10000))), .num (.wrap .i64 (.bin .add (.v 65542 2) (.n 1)))]) <|
           .bad)
          (.f (.ndec 110604 [.lst 0 1, .lst 0 3, .rows [], .num (.n 0), .num (.n 0)] [.lst 65542 0, .num (.v 65542 1), .num (.v 65542 2)] [.lst 65574 0, .num (.wrap .i64 (.bin .quo (.v 65569 0) (.n 10000))), .num (.wrap .i64 (.bin .add (.v 65542 2) (.n 1)))]) <|
           .bad))))))
   (.f (.is (.lt (.v 65542 2) (.len 0 1)) true) <|
    .br (.f (.npre 87 [.tru (.v 0 0), .lst 0 1, .num (.v 65542 2)]) <|
     .bad)
    (.f (.rel 87 [.tru (.v 0 0), .lst 0 1, .num (.v 65542 2)] 65561 [.int .i64]) <|
     .br (.f (.npre 87 [.tru (.v 0 2), .lst 0 3, .num (.v 65542 2)]) <|
      .bad)
     (.f (.rel 87 [.tru (.v 0 2), .lst 0 3, .num (.v 65542 2)] 65564 [.int .i64]) <|
      .f (.is (.eq (.v 65569 0) (.wrap .i64 (.bin .add (.wrap .i64 (.bin .add (.v 65561 0) (.v 65564 0))) (.v 65542 1)))) true) <|
       .br (.f (.is (.le (.len 65542 0) (.n 1000000000)) false) <|
        .bad)
       (.f (.is (.le (.len 65542 0) (.n 1000000000)) true) <|
        .f (.lseq 65574 (.app (.lst 65542 0) (.rows [[.bin .rem (.v 65569 0) (.n 10000)]]))) <|
         .br (.f (.nrel 110604 [.lst 0 1, .lst 0 3, .rows [], .num (.n 0), .num (.n 0)] [.lst 65574 0, .num (.wrap .i64 (.bin .quo (.v 65569 0) (.n 10000))), .num (.wrap .i64 (.bin .add (.v 65542 2) (.n 1)))]) <|
          .bad)
         (.f (.ndec 110604 [.lst 0 1, .lst 0 3, .rows [], .num (.n 0), .num (.n 0)] [.lst 65542 0, .num (.v 65542 1), .num (.v 65542 2)] [.lst 65574 0, .num (.wrap .i64 (.bin .quo (.v 65569 0) (.n 10000))), .num (.wrap .i64 (.bin .add (.v 65542 2) (.n 1)))]) <|
          .bad))))))
  (.f (.nrel 110604 [.lst 0 1, .lst 0 3, .rows [], .num (.n 0), .num (.n 0)] [.rows [], .num (.n 0), .num (.n 0)]) <|
   .bad)
theorem c106 : ConS Tryz.prog T C106 := con_tr (cs := [C87]) (lcs := [L110604]) (known := []) (cons_cons c87 (cons_nil _ _)) (Known.nil _) (N := 400) (d := 40) (t := t106) (by kernel_rfl) <| by
  intro E hl hp
  have hl1 := hl 1 _ rfl
  have hl3 := hl 3 _ rfl
  clear hl
  have hp := hp rfl
  simp only [C106, show T.pre 106 = Q106 from rfl, flatS, SP.flat, dvs, List.append_nil, List.cons_append, List.nil_append, Q106, U64, U32, I64, Big, W, wv, s64, WT, PR, MR, MB] at hp
  simp only [t106, C106, Tr.good, Fact.den, LX.den, DX.ls, DV.ls, DX.den, Bx.den, Ex.den, eo_add, eo_sub, eo_mul, eo_quo, eo_rem, eo_fdv, eo_mn, eo_mx, eo_land, eo_lor, eo_lxor, eo_landn, eo_shl, eo_shr, dvs, flatS, SP.flat, ST.flat, List.map_cons, List.map_nil, List.append_nil, List.cons_append, List.nil_append, ltb_t, ltb_f, leb_t, leb_f, eqb_t, eqb_f, decide_eq_true_eq, decide_eq_false_iff_not, Bool.not_eq_true', Bool.not_eq_false', Bool.and_eq_true, Bool.and_eq_false_imp, beq_iff_eq, beq_eq_false_iff_ne, bne_iff_ne, U64, U32, I64, Big, W, wv, Told, s64, WT, PR, MR, MB, Int.zero_mul, Int.zero_add, Int.add_zero, Int.mul_zero, IntKind.wrap_u64, IntKind.wrap_i64, IntKind.wrap_u32, ne_eq, forall_const, true_implies, show T.rel 87 = R87 from rfl, R87, show T.rel 106 = R106 from rfl, R106, show T.rel 110604 = R110604 from rfl, R110604, show T.mu 110604 = M110604 from rfl, M110604, show T.pre 87 = Q87 from rfl, Q87, show T.pre 106 = Q106 from rfl, Q106]
  revert hp hl1 hl3
  generalize (E.r 0).c 0 = an
  generalize (E.r 0).l 1 = al
  generalize (E.r 0).c 2 = bn
  generalize (E.r 0).l 3 = bl
  generalize (E.r 65542).l 0 = x6_0
  generalize (E.r 65542).i 1 = x6_1
  generalize (E.r 65542).i 2 = x6_2
  generalize (E.r 65561).i 0 = x25_0
  generalize (E.r 65564).i 0 = x28_0
  generalize (E.r 65569).i 0 = x33_0
  generalize (E.r 65574).l 0 = x38_0
  try simp only [mxI, mnI]
  try simp only [ltb, leb, eqb, Int.lt_irrefl, decide_false, Int.le_refl, decide_true]
  intro hal hbl hp
  obtain ⟨da, db, la, lb⟩ := hp
  refine ⟨fun ⟨i0, i1, i2, i3, i4, i5, i6⟩ => ?_, fun n => n ⟨by first | trivial | omega, by first | trivial | rfl, dig_nil, by first | trivial | omega, by first | trivial | omega, by first | trivial | omega, by simp [dval, P4]⟩⟩
  obtain ⟨k, rfl⟩ := Int.eq_ofNat_of_zero_le i0
  have hk : x6_0.length = k := by omega
  have ew : ((k : Int) + 1 + 9223372036854775808) % 18446744073709551616 - 9223372036854775808 = ((k + 1 : Nat) : Int) := by omega
  simp only [ew, Int.toNat_natCast] at *
  have ra := da k
  have rb := db k
  have step : ∀ s : Int, s = Sy.rowAt al k 0 + Sy.rowAt bl k 0 + x6_1 → (k < al.length ∨ k < bl.length ∨ 0 < x6_1) → ∀ y : List (List Int), y = x6_0 ++ [[s.tmod 10000]] →
      (0 ≤ ((k + 1 : Nat) : Int) ∧ (y.length : Int) = ((k + 1 : Nat) : Int) ∧ dig y ∧ 0 ≤ (s.tdiv 10000 + 9223372036854775808) % 18446744073709551616 - 9223372036854775808 ∧ (s.tdiv 10000 + 9223372036854775808) % 18446744073709551616 - 9223372036854775808 ≤ 1 ∧
        (((k + 1 : Nat) : Int) ≤ al.length ∨ ((k + 1 : Nat) : Int) ≤ bl.length ∨ (s.tdiv 10000 + 9223372036854775808) % 18446744073709551616 - 9223372036854775808 = 0 ∧ (((k + 1 : Nat) : Int) ≤ al.length + 1 ∨ ((k + 1 : Nat) : Int) ≤ bl.length + 1)) ∧
        dval y + P4 (k + 1) * ((s.tdiv 10000 + 9223372036854775808) % 18446744073709551616 - 9223372036854775808 + dval (al.drop (k + 1)) + dval (bl.drop (k + 1))) = dval al + dval bl) := by
    intro s hs ho y hy
    have s0 : 0 ≤ s := by omega
    rw [Int.tmod_eq_emod_of_nonneg s0] at hy
    rw [Int.tdiv_eq_ediv_of_nonneg s0]
    have eq : (s / 10000 + 9223372036854775808) % 18446744073709551616 - 9223372036854775808 = s / 10000 := by omega
    rw [eq]
    subst hy
    refine ⟨by omega, by simp [hk], dig_snoc i2 (by omega) (by omega), by omega, by omega, ?_, ?_⟩
    · by_cases c1 : k < al.length
      · left; omega
      · by_cases c2 : k < bl.length
        · right; left; omega
        · have := rowAt_out (L := al) (i := k) (by omega) 0
          have := rowAt_out (L := bl) (i := k) (by omega) 0
          right; right; omega
    · rw [dval_snoc, hk]
      rw [dval_drop al k, dval_drop bl k] at i6
      have em : s = 10000 * (s / 10000) + s % 10000 := by omega
      have e2 : x6_1 + (Sy.rowAt al k 0 + 10000 * dval (al.drop (k + 1))) + (Sy.rowAt bl k 0 + 10000 * dval (bl.drop (k + 1))) = s + 10000 * dval (al.drop (k + 1)) + 10000 * dval (bl.drop (k + 1)) := by omega
      rw [e2] at i6
      simp only [P4]
      generalize s / 10000 = q at *
      generalize s % 10000 = r at *
      subst em
      grind
  repeat' (first | exact i2 | intro _ | refine And.intro ?_ ?_)
  all_goals first
    | omega
    | (rename_i n; exact n (step _ (by omega) (by omega) _ (by assumption)))
    | exact i2
    | (rw [List.drop_of_length_le (show al.length ≤ k by omega), List.drop_of_length_le (show bl.length ≤ k by omega)] at i6
       simp only [dval, Int.add_zero, Int.zero_add] at i6
       have : x6_1 = 0 := by omega
       rw [this] at i6
       omega)
end Go.Proofs.YthlcpdjpnbbaeaaGreatDoor.Fn
