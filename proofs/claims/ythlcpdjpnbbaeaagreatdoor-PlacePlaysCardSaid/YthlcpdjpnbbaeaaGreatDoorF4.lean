/- What is told of turnstone/turnstonelaw10.PlacePlays, shown. -/
import Derived.Test.YthlcpdjpnbbaeaaGreatDoorTab
import Derived.Test.YthlcpdjpnbbaeaaGreatDoorFm4
import Derived.Test.YthlcpdjpnbbaeaaGreatDoorSyAwake5
namespace Go.Proofs.YthlcpdjpnbbaeaaGreatDoor.Fn
open Go Go.RowKit Go.Proofs.YthlcpdjpnbbaeaaGreatDoor.Sy
set_option linter.unusedVariables false
set_option linter.unusedSimpArgs false
set_option maxRecDepth 100000
open Go.Proofs.YthlcpdjpnbbaeaaGreatDoor.Awake
def t4 : Tr :=
  .br (.f (.rel 20 [.num (.v 0 0), .num (.v 0 1), .num (.v 0 2), .num (.v 0 3), .num (.v 0 4), .num (.v 0 5), .num (.v 0 6), .num (.v 0 7)] 65544 [.int .u64, .int .u32, .int .u32, .bool]) <|
   .br (.f (.is (.lt (.v 0 4) (.n 0)) true) <|
    .br (.f (.is (.v 65544 3) false) <|
     .ok [.tru (.and (.eq (.v 65544 0) (.n 0)) (.and (.eq (.v 65544 1) (.n 0)) (.and (.eq (.v 65544 2) (.n 0)) (.le (.n 0) (.n 0)))))])
    (.f (.is (.v 65544 3) true) <|
     .ok [.tru (.lt (.n 0) (.n 0))]))
   (.f (.is (.lt (.v 0 4) (.n 0)) false) <|
    .br (.f (.is (.lt (.n 1000) (.v 0 4)) true) <|
     .br (.f (.is (.v 65544 3) false) <|
      .ok [.tru (.and (.eq (.v 65544 0) (.n 0)) (.and (.eq (.v 65544 1) (.n 0)) (.and (.eq (.v 65544 2) (.n 0)) (.le (.n 0) (.n 0)))))])
     (.f (.is (.v 65544 3) true) <|
      .ok [.tru (.lt (.n 0) (.n 0))]))
    (.f (.is (.lt (.n 1000) (.v 0 4)) false) <|
     .br (.f (.rel 11 [.num (.v 0 0), .num (.v 0 1), .num (.v 0 2), .num (.v 0 3), .num (.v 0 4)] 65560 [.int .u64, .bool, .list [.int .i64], .int .u64, .int .i64]) <|
      .br (.f (.rel 21 [.num (.v 65560 0), .tru (.v 65560 1), .lst 65560 2, .num (.v 65560 3), .num (.v 65560 4), .num (.v 0 5), .num (.v 0 6), .num (.v 0 7)] 65564 [.int .u64, .int .u32, .int .u32, .bool]) <|
       .br (.f (.rel 12 [.num (.v 65544 0), .num (.v 65544 1), .num (.v 65544 2)] 65572 [.int .u64, .int .u32, .int .u32]) <|
        .br (.f (.is (.and (.eq (.v 65572 0) (.v 65564 0)) (.and (.eq (.v 65572 1) (.v 65564 1)) (.and (.eq (.v 65572 2) (.v 65564 2)) (.le (.n 0) (.n 0))))) true) <|
         .ok [.tru (.beq (.v 65544 3) (.v 65564 3))])
        (.f (.is (.and (.eq (.v 65572 0) (.v 65564 0)) (.and (.eq (.v 65572 1) (.v 65564 1)) (.and (.eq (.v 65572 2) (.v 65564 2)) (.le (.n 0) (.n 0))))) false) <|
         .ok [.tru (.lt (.n 0) (.n 0))]))
       (.f (.npre 12 [.num (.v 65544 0), .num (.v 65544 1), .num (.v 65544 2)]) <|
        .bad))
      (.f (.npre 21 [.num (.v 65560 0), .tru (.v 65560 1), .lst 65560 2, .num (.v 65560 3), .num (.v 65560 4), .num (.v 0 5), .num (.v 0 6), .num (.v 0 7)]) <|
       .bad))
     (.f (.npre 11 [.num (.v 0 0), .num (.v 0 1), .num (.v 0 2), .num (.v 0 3), .num (.v 0 4)]) <|
      .bad))))
  (.f (.npre 20 [.num (.v 0 0), .num (.v 0 1), .num (.v 0 2), .num (.v 0 3), .num (.v 0 4), .num (.v 0 5), .num (.v 0 6), .num (.v 0 7)]) <|
   .bad)
theorem c4 : ConS Tryz.prog T C4 := con_tr (cs := [C11, C12, C20, C21]) (lcs := []) (known := [29, 75, 22, 65, 104, 115, 19, 55, 9, 44, 85, 110, 120, 131, 140, 130, 139, 150, 161, 179, 182, 178, 181, 190, 191]) (cons_cons c11 (cons_cons c12 (cons_cons c20 (cons_cons c21 (cons_nil _ _))))) known29 (N := 400) (d := 40) (t := t4) (by kernel_rfl) <| by
  intro E hl hp
  clear hl
  have hp := hp rfl
  simp only [C4, show T.pre 4 = Q4 from rfl, flatS, SP.flat, dvs, List.append_nil, List.cons_append, List.nil_append, Q4, U64, U32, I64, s64, WT, MB] at hp
  simp only [t4, C4, Tr.good, Fact.den, LX.den, DX.ls, DV.ls, DX.den, Bx.den, Ex.den, eo_add, eo_sub, eo_mul, eo_quo, eo_rem, eo_fdv, eo_mn, eo_mx, eo_land, eo_lor, eo_lxor, eo_landn, eo_shl, eo_shr, dvs, flatS, SP.flat, ST.flat, List.map_cons, List.map_nil, List.append_nil, List.cons_append, List.nil_append, ltb_t, ltb_f, leb_t, leb_f, eqb_t, eqb_f, decide_eq_true_eq, decide_eq_false_iff_not, Bool.not_eq_true', Bool.not_eq_false', Bool.and_eq_true, Bool.and_eq_false_imp, beq_iff_eq, beq_eq_false_iff_ne, bne_iff_ne, U64, U32, I64, Told, s64, WT, MB, Int.zero_mul, Int.zero_add, Int.add_zero, Int.mul_zero, IntKind.wrap_u64, IntKind.wrap_i64, IntKind.wrap_u32, ne_eq, forall_const, true_implies, show T.rel 4 = R4 from rfl, R4, show T.rel 11 = R11 from rfl, R11, show T.rel 12 = R12 from rfl, R12, show T.rel 20 = R20 from rfl, R20, show T.rel 21 = R21 from rfl, R21, show T.pre 4 = Q4 from rfl, Q4, show T.pre 11 = Q11 from rfl, Q11, show T.pre 12 = Q12 from rfl, Q12, show T.pre 20 = Q20 from rfl, Q20, show T.pre 21 = Q21 from rfl, Q21]
  revert hp
  generalize (E.r 0).i 0 = b
  generalize (E.r 0).i 1 = h
  generalize (E.r 0).i 2 = l
  generalize (E.r 0).i 3 = w
  generalize (E.r 0).i 4 = n
  generalize (E.r 0).i 5 = c
  generalize (E.r 0).i 6 = x
  generalize (E.r 0).i 7 = g
  generalize (E.r 65544).i 0 = x8_0
  generalize (E.r 65544).i 1 = x8_1
  generalize (E.r 65544).i 2 = x8_2
  generalize (E.r 65544).c 3 = x8_3
  generalize (E.r 65560).i 0 = x24_0
  generalize (E.r 65560).c 1 = x24_1
  generalize (E.r 65560).l 2 = x24_2
  generalize (E.r 65560).i 3 = x24_3
  generalize (E.r 65560).i 4 = x24_4
  generalize (E.r 65564).i 0 = x28_0
  generalize (E.r 65564).i 1 = x28_1
  generalize (E.r 65564).i 2 = x28_2
  generalize (E.r 65564).c 3 = x28_3
  generalize (E.r 65572).i 0 = x36_0
  generalize (E.r 65572).i 1 = x36_1
  generalize (E.r 65572).i 2 = x36_2
  try simp only [Bg]
  try generalize bval x24_1 x24_2 = y24_1
  try simp only [mxI, mnI]
  try simp only [ltb, leb, eqb, Int.lt_irrefl, decide_false, Int.le_refl, decide_true]
  intro hp
  have hM := Mq_eq (w := w) (n := n) hp.1
  have hB : Big (wv h l) := by have := hp.1; simp only [W] at this; simp only [Big, wv]; omega
  have hR : MR h l w n → 0 ≤ n ∧ n ≤ 32 := by simp only [MR]; omega
  refine ⟨fun ⟨a1, a2, a3⟩ => ⟨fun c1 => ⟨fun e => ?_, fun e => ?_⟩, fun c1 => ⟨fun c2 => ⟨fun e => ?_, fun e => ?_⟩, fun c2 => ⟨fun ⟨d1, d2, d3, d4, d5⟩ => ?_, fun n => n ⟨hp.1, by omega, by omega⟩⟩⟩⟩, fun n => n ⟨hp.1, by omega, by omega, by omega, by omega⟩⟩
  · have := a3 e; exact ⟨this.1, this.2.1, this.2.2, trivial⟩
  · have := hR (a1.1 e).1; omega
  · have := a3 e; exact ⟨this.1, this.2.1, this.2.2, trivial⟩
  · have := hR (a1.1 e).1; omega
  · rw [d3, d4, d5, d1]
    simp only [Bi_eq, hM]
    generalize hS : (wv h l * x - g * (w + x)) / w = S at *
    have q0 : 1 ≤ x → 0 ≤ S % x ∧ S % x < x := fun h => ⟨Int.emod_nonneg _ (by omega), Int.emod_lt_of_pos _ (by omega)⟩
    have q1 : 0 ≤ (b + S / x) % 18446744073709551616 ∧ (b + S / x) % 18446744073709551616 < 18446744073709551616 := by omega
    refine ⟨fun ⟨f1, f2, f3⟩ => ⟨fun ⟨k1, k2, k3⟩ => ?_, fun z => z ?_⟩, fun n => n ⟨d2, hB, by omega, by omega, by omega, by omega, by omega, by omega, by omega⟩⟩
    · have ok : x8_3 = x28_3 := by rw [Bool.eq_iff_iff, a1, f1]
      subst ok
      have E : x8_0 = x28_0 ∧ x8_1 = x28_1 ∧ x8_2 = x28_2 := by
        cases x8_3
        · have u := a3 rfl
          have v := f3 rfl
          omega
        · have u := a2 rfl
          have v := f2 rfl
          by_cases n0 : n = 0
          · have u1 := u.2.1 n0
            have v1 := v.2.1 n0
            omega
          · have u1 := u.2.2 n0
            have v1 := v.2.2 n0
            omega
      exact ⟨fun _ => rfl, fun n => n (k1.trans E.1) (k2.trans E.2.1) (k3.trans E.2.2)⟩
    · cases hx : x8_3
      · have u := a3 hx
        omega
      · have u := a2 hx
        have x1 := (a1.1 hx).2.1
        have q2 := q0 x1.1
        by_cases n0 : n = 0
        · have u1 := u.2.1 n0
          omega
        · have u1 := u.2.2 n0
          omega
end Go.Proofs.YthlcpdjpnbbaeaaGreatDoor.Fn
