/- What is told of the functions, shown: turnstone/turnstoneref01.larger, turnstone/turnstoneref01.minus, turnstone/turnstoneref01.Add, turnstone/turnstoneref01.Neg, turnstone/turnstoneref01.Sub, turnstone/turnstoneref01.Cmp, turnstone/turnstoneref01.N, turnstone/turnstoneref01.Power, turnstone/turnstoneref03.Since, turnstone/turnstoneref04.Distance, turnstone/turnstoneref01.Is, turnstone/turnstoneref08.Add. -/
import Derived.Test.YthlcpdjpnbbaeaaGreatDoorFm2
namespace Go.Proofs.YthlcpdjpnbbaeaaGreatDoor.Fn
open Go Go.RowKit Go.Proofs.YthlcpdjpnbbaeaaGreatDoor.Sy
set_option linter.unusedVariables false
set_option linter.unusedSimpArgs false
set_option maxRecDepth 100000
def t107 : Tr :=
  .br (.f (.rel 110702 [.lst 0 1, .lst 0 3, .num (.wrap .i64 (.bin .sub (.bin .mx (.len 0 1) (.len 0 3)) (.n 1)))] 65548 [.int .i64]) <|
   .br (.f (.is (.le (.n 0) (.v 65548 0)) true) <|
    .br (.f (.rel 87 [.tru (.v 0 0), .lst 0 1, .num (.v 65548 0)] 65553 [.int .i64]) <|
     .br (.f (.rel 87 [.tru (.v 0 2), .lst 0 3, .num (.v 65548 0)] 65556 [.int .i64]) <|
      .br (.f (.is (.lt (.v 65553 0) (.v 65556 0)) true) <|
       .ok [.num (.n (-1))])
      (.f (.is (.lt (.v 65553 0) (.v 65556 0)) false) <|
       .br (.f (.rel 87 [.tru (.v 0 0), .lst 0 1, .num (.v 65548 0)] 65560 [.int .i64]) <|
        .br (.f (.rel 87 [.tru (.v 0 2), .lst 0 3, .num (.v 65548 0)] 65563 [.int .i64]) <|
         .br (.f (.is (.lt (.v 65563 0) (.v 65560 0)) true) <|
          .ok [.num (.n 1)])
         (.f (.is (.lt (.v 65563 0) (.v 65560 0)) false) <|
          .br (.f (.nrel 110702 [.lst 0 1, .lst 0 3, .num (.wrap .i64 (.bin .sub (.bin .mx (.len 0 1) (.len 0 3)) (.n 1)))] [.num (.wrap .i64 (.bin .sub (.v 65548 0) (.n 1)))]) <|
           .bad)
          (.f (.ndec 110702 [.lst 0 1, .lst 0 3, .num (.wrap .i64 (.bin .sub (.bin .mx (.len 0 1) (.len 0 3)) (.n 1)))] [.num (.v 65548 0)] [.num (.wrap .i64 (.bin .sub (.v 65548 0) (.n 1)))]) <|
           .bad)))
        (.f (.npre 87 [.tru (.v 0 2), .lst 0 3, .num (.v 65548 0)]) <|
         .bad))
       (.f (.npre 87 [.tru (.v 0 0), .lst 0 1, .num (.v 65548 0)]) <|
        .bad)))
     (.f (.npre 87 [.tru (.v 0 2), .lst 0 3, .num (.v 65548 0)]) <|
      .bad))
    (.f (.npre 87 [.tru (.v 0 0), .lst 0 1, .num (.v 65548 0)]) <|
     .bad))
   (.f (.is (.le (.n 0) (.v 65548 0)) false) <|
    .ok [.num (.n 0)]))
  (.f (.nrel 110702 [.lst 0 1, .lst 0 3, .num (.wrap .i64 (.bin .sub (.bin .mx (.len 0 1) (.len 0 3)) (.n 1)))] [.num (.wrap .i64 (.bin .sub (.bin .mx (.len 0 1) (.len 0 3)) (.n 1)))]) <|
   .bad)
theorem c107 : ConS Tryz.prog T C107 := con_tr (cs := [C87]) (lcs := [L110702]) (known := []) (cons_cons c87 (cons_nil _ _)) (Known.nil _) (N := 400) (d := 40) (t := t107) (by kernel_rfl) <| by
  intro E hl hp
  have hl1 := hl 1 _ rfl
  have hl3 := hl 3 _ rfl
  clear hl
  have hp := hp rfl
  simp only [C107, show T.pre 107 = Q107 from rfl, flatS, SP.flat, dvs, List.append_nil, List.cons_append, List.nil_append, Q107, U64, U32, I64, Big, W, wv, s64, WT, PR, MR, MB] at hp
  simp only [t107, C107, Tr.good, Fact.den, LX.den, DX.ls, DV.ls, DX.den, Bx.den, Ex.den, eo_add, eo_sub, eo_mul, eo_quo, eo_rem, eo_fdv, eo_mn, eo_mx, eo_land, eo_lor, eo_lxor, eo_landn, eo_shl, eo_shr, dvs, flatS, SP.flat, ST.flat, List.map_cons, List.map_nil, List.append_nil, List.cons_append, List.nil_append, ltb_t, ltb_f, leb_t, leb_f, eqb_t, eqb_f, decide_eq_true_eq, decide_eq_false_iff_not, Bool.not_eq_true', Bool.not_eq_false', Bool.and_eq_true, Bool.and_eq_false_imp, beq_iff_eq, beq_eq_false_iff_ne, bne_iff_ne, U64, U32, I64, Big, W, wv, Told, s64, WT, PR, MR, MB, Int.zero_mul, Int.zero_add, Int.add_zero, Int.mul_zero, IntKind.wrap_u64, IntKind.wrap_i64, IntKind.wrap_u32, ne_eq, forall_const, true_implies, show T.rel 87 = R87 from rfl, R87, show T.rel 107 = R107 from rfl, R107, show T.rel 110702 = R110702 from rfl, R110702, show T.mu 110702 = M110702 from rfl, M110702, show T.pre 87 = Q87 from rfl, Q87, show T.pre 107 = Q107 from rfl, Q107]
  revert hp hl1 hl3
  generalize (E.r 0).c 0 = an
  generalize (E.r 0).l 1 = al
  generalize (E.r 0).c 2 = bn
  generalize (E.r 0).l 3 = bl
  generalize (E.r 65548).i 0 = x12_0
  generalize (E.r 65553).i 0 = x17_0
  generalize (E.r 65556).i 0 = x20_0
  generalize (E.r 65560).i 0 = x24_0
  generalize (E.r 65563).i 0 = x27_0
  try simp only [mxI, mnI]
  try simp only [ltb, leb, eqb, Int.lt_irrefl, decide_false, Int.le_refl, decide_true]
  intro hal hbl hp
  obtain ⟨da, db, la, lb⟩ := hp
  refine ⟨fun ⟨i0, i1, i2⟩ => ⟨fun h0 => ?_, fun h0 => ?_⟩, ?_⟩
  · obtain ⟨k, rfl⟩ := Int.eq_ofNat_of_zero_le h0
    have ek : ((k : Int) + 1).toNat = k + 1 := by omega
    rw [ek] at i2
    have ew : ((k : Int) - 1 + 9223372036854775808) % 18446744073709551616 - 9223372036854775808 = (k : Int) - 1 := by omega
    simp only [ew]
    refine ⟨fun e1 => ⟨fun e2 => ⟨fun h1 => ?_, fun h1 => ⟨fun e3 => ⟨fun e4 => ⟨fun h2 => ?_, fun h2 => ?_⟩, fun n => n h0⟩, fun n => n h0⟩⟩, fun n => n h0⟩, fun n => n h0⟩
    · have := dval_le_of_top da db i2 (by omega)
      exact ⟨fun _ => trivial, by omega, by omega⟩
    · have := dval_le_of_top db da i2.symm (by omega)
      exact ⟨by omega, by omega, fun _ => trivial⟩
    · refine ⟨fun n => n ⟨by omega, by omega, ?_⟩, by omega⟩
      have e5 : ((k : Int) - 1 + 1).toNat = k := by omega
      rw [e5, dval_drop al k, dval_drop bl k, i2]
      omega
  · have e0 : (x12_0 + 1).toNat = 0 := by omega
    rw [e0, List.drop_zero, List.drop_zero] at i2
    exact ⟨by omega, fun _ => trivial, by omega⟩
  · intro n
    apply n
    have e1 : al.drop (((if (bl.length : Int) > (al.length : Int) then (bl.length : Int) else (al.length : Int)) - 1 + 9223372036854775808) % 18446744073709551616 - 9223372036854775808 + 1).toNat = [] := List.drop_of_length_le (by split <;> omega)
    have e2 : bl.drop (((if (bl.length : Int) > (al.length : Int) then (bl.length : Int) else (al.length : Int)) - 1 + 9223372036854775808) % 18446744073709551616 - 9223372036854775808 + 1).toNat = [] := List.drop_of_length_le (by split <;> omega)
    rw [e1, e2]
    refine ⟨by split <;> omega, by split <;> omega, rfl⟩
end Go.Proofs.YthlcpdjpnbbaeaaGreatDoor.Fn
namespace Go.Proofs.YthlcpdjpnbbaeaaGreatDoor.Fn
open Go Go.RowKit Go.Proofs.YthlcpdjpnbbaeaaGreatDoor.Sy
set_option linter.unusedVariables false
set_option linter.unusedSimpArgs false
set_option maxRecDepth 100000
def t108 : Tr :=
  .br (.f (.rel 110804 [.lst 0 1, .lst 0 3, .rows [], .num (.n 0), .num (.n 0)] 65542 [.list [.int .i64], .int .i64, .int .i64]) <|
   .br (.f (.is (.lt (.v 65542 2) (.len 0 1)) false) <|
    .ok [.lst 65542 0])
   (.f (.is (.lt (.v 65542 2) (.len 0 1)) true) <|
    .br (.f (.is (.lt (.v 65542 2) (.n 0)) true) <|
     .bad)
    (.f (.is (.lt (.v 65542 2) (.n 0)) false) <|
     .br (.f (.npre 87 [.tru (.v 0 2), .lst 0 3, .num (.v 65542 2)]) <|
      .bad)
     (.f (.rel 87 [.tru (.v 0 2), .lst 0 3, .num (.v 65542 2)] 65555 [.int .i64]) <|
      .f (.is (.eq (.v 65560 0) (.wrap .i64 (.bin .sub (.wrap .i64 (.bin .sub (.at 0 1 (.v 65542 2) 0) (.v 65555 0))) (.v 65542 1)))) true) <|
       .br (.f (.is (.lt (.v 65560 0) (.n 0)) true) <|
        .br (.f (.is (.le (.len 65542 0) (.n 1000000000)) false) <|
         .bad)
        (.f (.is (.le (.len 65542 0) (.n 1000000000)) true) <|
         .f (.lseq 65571 (.app (.lst 65542 0) (.rows [[.wrap .i64 (.bin .add (.v 65560 0) (.n 10000))]]))) <|
          .br (.f (.nrel 110804 [.lst 0 1, .lst 0 3, .rows [], .num (.n 0), .num (.n 0)] [.lst 65571 0, .num (.n 1), .num (.wrap .i64 (.bin .add (.v 65542 2) (.n 1)))]) <|
           .bad)
          (.f (.ndec 110804 [.lst 0 1, .lst 0 3, .rows [], .num (.n 0), .num (.n 0)] [.lst 65542 0, .num (.v 65542 1), .num (.v 65542 2)] [.lst 65571 0, .num (.n 1), .num (.wrap .i64 (.bin .add (.v 65542 2) (.n 1)))]) <|
           .bad)))
       (.f (.is (.lt (.v 65560 0) (.n 0)) false) <|
        .br (.f (.is (.le (.len 65542 0) (.n 1000000000)) false) <|
         .bad)
        (.f (.is (.le (.len 65542 0) (.n 1000000000)) true) <|
         .f (.lseq 65567 (.app (.lst 65542 0) (.rows [[.v 65560 0]]))) <|
          .br (.f (.nrel 110804 [.lst 0 1, .lst 0 3, .rows [], .num (.n 0), .num (.n 0)] [.lst 65567 0, .num (.n 0), .num (.wrap .i64 (.bin .add (.v 65542 2) (.n 1)))]) <|
           .bad)
          (.f (.ndec 110804 [.lst 0 1, .lst 0 3, .rows [], .num (.n 0), .num (.n 0)] [.lst 65542 0, .num (.v 65542 1), .num (.v 65542 2)] [.lst 65567 0, .num (.n 0), .num (.wrap .i64 (.bin .add (.v 65542 2) (.n 1)))]) <|
           .bad)))))))
  (.f (.nrel 110804 [.lst 0 1, .lst 0 3, .rows [], .num (.n 0), .num (.n 0)] [.rows [], .num (.n 0), .num (.n 0)]) <|
   .bad)
theorem c108 : ConS Tryz.prog T C108 := con_tr (cs := [C87]) (lcs := [L110804]) (known := []) (cons_cons c87 (cons_nil _ _)) (Known.nil _) (N := 400) (d := 40) (t := t108) (by kernel_rfl) <| by
  intro E hl hp
  have hl1 := hl 1 _ rfl
  have hl3 := hl 3 _ rfl
  clear hl
  have hp := hp rfl
  simp only [C108, show T.pre 108 = Q108 from rfl, flatS, SP.flat, dvs, List.append_nil, List.cons_append, List.nil_append, Q108, U64, U32, I64, Big, W, wv, s64, WT, PR, MR, MB] at hp
  simp only [t108, C108, Tr.good, Fact.den, LX.den, DX.ls, DV.ls, DX.den, Bx.den, Ex.den, eo_add, eo_sub, eo_mul, eo_quo, eo_rem, eo_fdv, eo_mn, eo_mx, eo_land, eo_lor, eo_lxor, eo_landn, eo_shl, eo_shr, dvs, flatS, SP.flat, ST.flat, List.map_cons, List.map_nil, List.append_nil, List.cons_append, List.nil_append, ltb_t, ltb_f, leb_t, leb_f, eqb_t, eqb_f, decide_eq_true_eq, decide_eq_false_iff_not, Bool.not_eq_true', Bool.not_eq_false', Bool.and_eq_true, Bool.and_eq_false_imp, beq_iff_eq, beq_eq_false_iff_ne, bne_iff_ne, U64, U32, I64, Big, W, wv, Told, s64, WT, PR, MR, MB, Int.zero_mul, Int.zero_add, Int.add_zero, Int.mul_zero, IntKind.wrap_u64, IntKind.wrap_i64, IntKind.wrap_u32, ne_eq, forall_const, true_implies, show T.rel 87 = R87 from rfl, R87, show T.rel 108 = R108 from rfl, R108, show T.rel 110804 = R110804 from rfl, R110804, show T.mu 110804 = M110804 from rfl, M110804, show T.pre 87 = Q87 from rfl, Q87, show T.pre 108 = Q108 from rfl, Q108]
  revert hp hl1 hl3
  generalize (E.r 0).c 0 = an
  generalize (E.r 0).l 1 = al
  generalize (E.r 0).c 2 = bn
  generalize (E.r 0).l 3 = bl
  generalize (E.r 65542).l 0 = x6_0
  generalize (E.r 65542).i 1 = x6_1
  generalize (E.r 65542).i 2 = x6_2
  generalize (E.r 65555).i 0 = x19_0
  generalize (E.r 65560).i 0 = x24_0
  generalize (E.r 65567).l 0 = x31_0
  generalize (E.r 65571).l 0 = x35_0
  try simp only [mxI, mnI]
  try simp only [ltb, leb, eqb, Int.lt_irrefl, decide_false, Int.le_refl, decide_true]
  intro hal hbl hp
  obtain ⟨da, db, la, lb, lab⟩ := hp
  refine ⟨fun ⟨i0, i1, i2, i3, i4, i5, i6⟩ => ?_, fun n => n ⟨by first | trivial | omega, by first | trivial | omega, by first | trivial | rfl, dig_nil, by first | trivial | omega, by first | trivial | omega, by simp [dval, P4]⟩⟩
  obtain ⟨k, rfl⟩ := Int.eq_ofNat_of_zero_le i0
  have hk : x6_0.length = k := by omega
  have ew : ((k : Int) + 1 + 9223372036854775808) % 18446744073709551616 - 9223372036854775808 = ((k + 1 : Nat) : Int) := by omega
  simp only [ew, Int.toNat_natCast] at *
  have ra := da k
  have rb := db k
  have step : ∀ c s : Int, 0 ≤ c → c ≤ 1 → s = Sy.rowAt al k 0 - Sy.rowAt bl k 0 - x6_1 + 10000 * c → 0 ≤ s → s < 10000 → k < al.length → ∀ y : List (List Int), y = x6_0 ++ [[s]] →
      (0 ≤ ((k + 1 : Nat) : Int) ∧ ((k + 1 : Nat) : Int) ≤ al.length ∧ (y.length : Int) = ((k + 1 : Nat) : Int) ∧ dig y ∧ 0 ≤ c ∧ c ≤ 1 ∧ dval y + P4 (k + 1) * (dval (al.drop (k + 1)) - dval (bl.drop (k + 1)) - c) = dval al - dval bl) := by
    intro c s c0 c1 hs s0 s1 hl y hy
    subst hy
    refine ⟨by omega, by omega, by simp [hk], dig_snoc i3 s0 s1, c0, c1, ?_⟩
    rw [dval_snoc, hk]
    rw [dval_drop al k, dval_drop bl k] at i6
    have e2 : (Sy.rowAt al k 0 + 10000 * dval (al.drop (k + 1))) - (Sy.rowAt bl k 0 + 10000 * dval (bl.drop (k + 1))) - x6_1 = s + 10000 * (dval (al.drop (k + 1)) - dval (bl.drop (k + 1)) - c) := by omega
    rw [e2] at i6
    simp only [P4]
    grind
  have last : al.length ≤ k → dval x6_0 = dval al - dval bl := by
    intro hl
    rw [List.drop_of_length_le (show al.length ≤ k by omega)] at i6
    have d1 := dval_nonneg (dig_drop db k)
    have d2 := dval_lt i3
    rw [hk] at d2
    have p := P4_pos k
    by_cases hz : dval (bl.drop k) + x6_1 = 0
    · have e : dval [] - dval (bl.drop k) - x6_1 = 0 := by simp only [dval]; omega
      rw [e, Int.mul_zero] at i6
      omega
    · exfalso
      have e : dval [] - dval (bl.drop k) - x6_1 = -(dval (bl.drop k) + x6_1) := by simp only [dval]; omega
      rw [e, Int.mul_neg] at i6
      have := Int.mul_le_mul_of_nonneg_left (show 1 ≤ dval (bl.drop k) + x6_1 by omega) (show 0 ≤ P4 k by omega)
      omega
  repeat' (first | exact i3 | intro _ | refine And.intro ?_ ?_)
  all_goals first
    | omega
    | (rename_i h n; exact n (by simpa using step 0 _ (by omega) (by omega) (by omega) (by omega) (by omega) (by omega) _ h))
    | (rename_i h n; exact n (by simpa using step 1 _ (by omega) (by omega) (by omega) (by omega) (by omega) (by omega) _ h))
    | (have := last (by omega); omega)
end Go.Proofs.YthlcpdjpnbbaeaaGreatDoor.Fn
namespace Go.Proofs.YthlcpdjpnbbaeaaGreatDoor.Fn
open Go Go.RowKit Go.Proofs.YthlcpdjpnbbaeaaGreatDoor.Sy
set_option linter.unusedVariables false
set_option linter.unusedSimpArgs false
set_option maxRecDepth 100000
def t73 : Tr :=
  .br (.f (.is (.beq (.v 0 0) (.v 0 2)) true) <|
   .br (.f (.rel 106 [.tru (.v 0 0), .lst 0 1, .tru (.v 0 2), .lst 0 3] 65548 [.list [.int .i64]]) <|
    .br (.f (.rel 88 [.tru (.v 0 0), .lst 65548 0] 65550 [.bool, .list [.int .i64]]) <|
     .ok [.tru (.v 65550 0), .lst 65550 1])
    (.f (.npre 88 [.tru (.v 0 0), .lst 65548 0]) <|
     .bad))
   (.f (.npre 106 [.tru (.v 0 0), .lst 0 1, .tru (.v 0 2), .lst 0 3]) <|
    .bad))
  (.f (.is (.beq (.v 0 0) (.v 0 2)) false) <|
   .br (.f (.rel 107 [.tru (.v 0 0), .lst 0 1, .tru (.v 0 2), .lst 0 3] 65546 [.int .i64]) <|
    .br (.f (.is (.le (.n 0) (.v 65546 0)) true) <|
     .br (.f (.rel 108 [.tru (.v 0 0), .lst 0 1, .tru (.v 0 2), .lst 0 3] 65552 [.list [.int .i64]]) <|
      .br (.f (.rel 88 [.tru (.v 0 0), .lst 65552 0] 65554 [.bool, .list [.int .i64]]) <|
       .ok [.tru (.v 65554 0), .lst 65554 1])
      (.f (.npre 88 [.tru (.v 0 0), .lst 65552 0]) <|
       .bad))
     (.f (.npre 108 [.tru (.v 0 0), .lst 0 1, .tru (.v 0 2), .lst 0 3]) <|
      .bad))
    (.f (.is (.le (.n 0) (.v 65546 0)) false) <|
     .br (.f (.rel 108 [.tru (.v 0 2), .lst 0 3, .tru (.v 0 0), .lst 0 1] 65552 [.list [.int .i64]]) <|
      .br (.f (.rel 88 [.tru (.v 0 2), .lst 65552 0] 65554 [.bool, .list [.int .i64]]) <|
       .ok [.tru (.v 65554 0), .lst 65554 1])
      (.f (.npre 88 [.tru (.v 0 2), .lst 65552 0]) <|
       .bad))
     (.f (.npre 108 [.tru (.v 0 2), .lst 0 3, .tru (.v 0 0), .lst 0 1]) <|
      .bad)))
   (.f (.npre 107 [.tru (.v 0 0), .lst 0 1, .tru (.v 0 2), .lst 0 3]) <|
    .bad))
theorem c73 : ConS Tryz.prog T C73 := con_tr (cs := [C88, C106, C107, C108]) (lcs := []) (known := []) (cons_cons c88 (cons_cons c106 (cons_cons c107 (cons_cons c108 (cons_nil _ _))))) (Known.nil _) (N := 400) (d := 40) (t := t73) (by kernel_rfl) <| by
  intro E hl hp
  have hl1 := hl 1 _ rfl
  have hl3 := hl 3 _ rfl
  clear hl
  have hp := hp rfl
  simp only [C73, show T.pre 73 = Q73 from rfl, flatS, SP.flat, dvs, List.append_nil, List.cons_append, List.nil_append, Q73, U64, U32, I64, Big, W, wv, s64, WT, PR, MR, MB] at hp
  simp only [t73, C73, Tr.good, Fact.den, LX.den, DX.ls, DV.ls, DX.den, Bx.den, Ex.den, eo_add, eo_sub, eo_mul, eo_quo, eo_rem, eo_fdv, eo_mn, eo_mx, eo_land, eo_lor, eo_lxor, eo_landn, eo_shl, eo_shr, dvs, flatS, SP.flat, ST.flat, List.map_cons, List.map_nil, List.append_nil, List.cons_append, List.nil_append, ltb_t, ltb_f, leb_t, leb_f, eqb_t, eqb_f, decide_eq_true_eq, decide_eq_false_iff_not, Bool.not_eq_true', Bool.not_eq_false', Bool.and_eq_true, Bool.and_eq_false_imp, beq_iff_eq, beq_eq_false_iff_ne, bne_iff_ne, U64, U32, I64, Big, W, wv, Told, s64, WT, PR, MR, MB, Int.zero_mul, Int.zero_add, Int.add_zero, Int.mul_zero, IntKind.wrap_u64, IntKind.wrap_i64, IntKind.wrap_u32, ne_eq, forall_const, true_implies, show T.rel 73 = R73 from rfl, R73, show T.rel 88 = R88 from rfl, R88, show T.rel 106 = R106 from rfl, R106, show T.rel 107 = R107 from rfl, R107, show T.rel 108 = R108 from rfl, R108, show T.pre 73 = Q73 from rfl, Q73, show T.pre 88 = Q88 from rfl, Q88, show T.pre 106 = Q106 from rfl, Q106, show T.pre 107 = Q107 from rfl, Q107, show T.pre 108 = Q108 from rfl, Q108]
  revert hp hl1 hl3
  generalize (E.r 0).c 0 = an
  generalize (E.r 0).l 1 = al
  generalize (E.r 0).c 2 = bn
  generalize (E.r 0).l 3 = bl
  generalize (E.r 65546).i 0 = x10_0
  generalize (E.r 65548).l 0 = x12_0
  generalize (E.r 65550).c 0 = x14_0
  generalize (E.r 65550).l 1 = x14_1
  generalize (E.r 65552).l 0 = x16_0
  generalize (E.r 65554).c 0 = x18_0
  generalize (E.r 65554).l 1 = x18_1
  try simp only [mxI, mnI]
  try simp only [ltb, leb, eqb, Int.lt_irrefl, decide_false, Int.le_refl, decide_true]
  intro hal hbl hp
  have la := Bg.len hp.1
  have lb := Bg.len hp.2
  have da := hp.1.1.1
  have db := hp.2.1.1
  refine ⟨fun h => ⟨fun e1 => ⟨fun e2 => ⟨e2.1, ?_⟩, fun n => n ⟨e1.1, by omega⟩⟩, fun n => n ⟨da, db, by omega, by omega⟩⟩, fun h => ⟨fun e0 => ⟨fun c => ⟨fun e1 => ⟨fun e2 => ⟨e2.1, ?_⟩, fun n => n ⟨e1.1, by omega⟩⟩, fun n => n ⟨da, db, by omega, by omega, by omega⟩⟩, fun c => ⟨fun e1 => ⟨fun e2 => ⟨e2.1, ?_⟩, fun n => n ⟨e1.1, by omega⟩⟩, fun n => n ⟨db, da, by omega, by omega, by omega⟩⟩⟩, fun n => n ⟨da, db, by omega, by omega⟩⟩⟩
  · rw [e2.2]
    subst h
    cases an <;> simp only [bval, cond_true, cond_false, e1.2.1] <;> omega
  · rw [e2.2]
    cases an <;> cases bn <;> simp_all [bval] <;> omega
  · rw [e2.2]
    cases an <;> cases bn <;> simp_all [bval] <;> omega
end Go.Proofs.YthlcpdjpnbbaeaaGreatDoor.Fn
namespace Go.Proofs.YthlcpdjpnbbaeaaGreatDoor.Fn
open Go Go.RowKit Go.Proofs.YthlcpdjpnbbaeaaGreatDoor.Sy
set_option linter.unusedVariables false
set_option linter.unusedSimpArgs false
set_option maxRecDepth 100000
def t70 : Tr :=
  .br (.f (.rel 88 [.tru (.not (.v 0 0)), .lst 0 1] 65544 [.bool, .list [.int .i64]]) <|
   .ok [.tru (.v 65544 0), .lst 65544 1])
  (.f (.npre 88 [.tru (.not (.v 0 0)), .lst 0 1]) <|
   .bad)
theorem c70 : ConS Tryz.prog T C70 := con_tr (cs := [C88]) (lcs := []) (known := []) (cons_cons c88 (cons_nil _ _)) (Known.nil _) (N := 400) (d := 40) (t := t70) (by kernel_rfl) <| by
  intro E hl hp
  have hl1 := hl 1 _ rfl
  clear hl
  have hp := hp rfl
  simp only [C70, show T.pre 70 = Q70 from rfl, flatS, SP.flat, dvs, List.append_nil, List.cons_append, List.nil_append, Q70, U64, U32, I64, Big, W, wv, s64, WT, PR, MR, MB] at hp
  simp only [t70, C70, Tr.good, Fact.den, LX.den, DX.ls, DV.ls, DX.den, Bx.den, Ex.den, eo_add, eo_sub, eo_mul, eo_quo, eo_rem, eo_fdv, eo_mn, eo_mx, eo_land, eo_lor, eo_lxor, eo_landn, eo_shl, eo_shr, dvs, flatS, SP.flat, ST.flat, List.map_cons, List.map_nil, List.append_nil, List.cons_append, List.nil_append, ltb_t, ltb_f, leb_t, leb_f, eqb_t, eqb_f, decide_eq_true_eq, decide_eq_false_iff_not, Bool.not_eq_true', Bool.not_eq_false', Bool.and_eq_true, Bool.and_eq_false_imp, beq_iff_eq, beq_eq_false_iff_ne, bne_iff_ne, U64, U32, I64, Big, W, wv, Told, s64, WT, PR, MR, MB, Int.zero_mul, Int.zero_add, Int.add_zero, Int.mul_zero, IntKind.wrap_u64, IntKind.wrap_i64, IntKind.wrap_u32, ne_eq, forall_const, true_implies, show T.rel 70 = R70 from rfl, R70, show T.rel 88 = R88 from rfl, R88, show T.pre 70 = Q70 from rfl, Q70, show T.pre 88 = Q88 from rfl, Q88]
  revert hp hl1
  generalize (E.r 0).c 0 = n
  generalize (E.r 0).l 1 = l
  generalize (E.r 65544).c 0 = x8_0
  generalize (E.r 65544).l 1 = x8_1
  try simp only [mxI, mnI]
  try simp only [ltb, leb, eqb, Int.lt_irrefl, decide_false, Int.le_refl, decide_true]
  intro hl hp
  have := Bg.len hp
  refine ⟨fun h => ⟨h.1, ?_⟩, fun h => h ⟨hp.1.1, by omega⟩⟩
  rw [h.2]
  cases n <;> simp [bval]
end Go.Proofs.YthlcpdjpnbbaeaaGreatDoor.Fn
namespace Go.Proofs.YthlcpdjpnbbaeaaGreatDoor.Fn
open Go Go.RowKit Go.Proofs.YthlcpdjpnbbaeaaGreatDoor.Sy
set_option linter.unusedVariables false
set_option linter.unusedSimpArgs false
set_option maxRecDepth 100000
def t51 : Tr :=
  .br (.f (.rel 70 [.tru (.v 0 2), .lst 0 3] 65541 [.bool, .list [.int .i64]]) <|
   .br (.f (.rel 73 [.tru (.v 0 0), .lst 0 1, .tru (.v 65541 0), .lst 65541 1] 65542 [.bool, .list [.int .i64]]) <|
    .ok [.tru (.v 65542 0), .lst 65542 1])
   (.f (.npre 73 [.tru (.v 0 0), .lst 0 1, .tru (.v 65541 0), .lst 65541 1]) <|
    .bad))
  (.f (.npre 70 [.tru (.v 0 2), .lst 0 3]) <|
   .bad)
theorem c51 : ConS Tryz.prog T C51 := con_tr (cs := [C70, C73]) (lcs := []) (known := []) (cons_cons c70 (cons_cons c73 (cons_nil _ _))) (Known.nil _) (N := 400) (d := 40) (t := t51) (by kernel_rfl) <| by
  intro E hl hp
  have hl1 := hl 1 _ rfl
  have hl3 := hl 3 _ rfl
  clear hl
  have hp := hp rfl
  simp only [C51, show T.pre 51 = Q51 from rfl, flatS, SP.flat, dvs, List.append_nil, List.cons_append, List.nil_append, Q51, U64, U32, I64, Big, W, wv, s64, WT, PR, MR, MB] at hp
  simp only [t51, C51, Tr.good, Fact.den, LX.den, DX.ls, DV.ls, DX.den, Bx.den, Ex.den, eo_add, eo_sub, eo_mul, eo_quo, eo_rem, eo_fdv, eo_mn, eo_mx, eo_land, eo_lor, eo_lxor, eo_landn, eo_shl, eo_shr, dvs, flatS, SP.flat, ST.flat, List.map_cons, List.map_nil, List.append_nil, List.cons_append, List.nil_append, ltb_t, ltb_f, leb_t, leb_f, eqb_t, eqb_f, decide_eq_true_eq, decide_eq_false_iff_not, Bool.not_eq_true', Bool.not_eq_false', Bool.and_eq_true, Bool.and_eq_false_imp, beq_iff_eq, beq_eq_false_iff_ne, bne_iff_ne, U64, U32, I64, Big, W, wv, Told, s64, WT, PR, MR, MB, Int.zero_mul, Int.zero_add, Int.add_zero, Int.mul_zero, IntKind.wrap_u64, IntKind.wrap_i64, IntKind.wrap_u32, ne_eq, forall_const, true_implies, show T.rel 51 = R51 from rfl, R51, show T.rel 70 = R70 from rfl, R70, show T.rel 73 = R73 from rfl, R73, show T.pre 51 = Q51 from rfl, Q51, show T.pre 70 = Q70 from rfl, Q70, show T.pre 73 = Q73 from rfl, Q73]
  revert hp hl1 hl3
  generalize (E.r 0).c 0 = an
  generalize (E.r 0).l 1 = al
  generalize (E.r 0).c 2 = bn
  generalize (E.r 0).l 3 = bl
  generalize (E.r 65541).c 0 = x5_0
  generalize (E.r 65541).l 1 = x5_1
  generalize (E.r 65542).c 0 = x6_0
  generalize (E.r 65542).l 1 = x6_1
  try simp only [mxI, mnI]
  try simp only [ltb, leb, eqb, Int.lt_irrefl, decide_false, Int.le_refl, decide_true]
  intro hal hbl hp
  refine ⟨fun e => ⟨fun e2 => ⟨e2.1, by rw [e2.2, e.2]; omega⟩, fun n => n ⟨hp.1, e.1, by rw [e.2]; omega, by rw [e.2]; omega⟩⟩, fun n => n hp.2⟩
end Go.Proofs.YthlcpdjpnbbaeaaGreatDoor.Fn
namespace Go.Proofs.YthlcpdjpnbbaeaaGreatDoor.Fn
open Go Go.RowKit Go.Proofs.YthlcpdjpnbbaeaaGreatDoor.Sy
set_option linter.unusedVariables false
set_option linter.unusedSimpArgs false
set_option maxRecDepth 100000
def t37 : Tr :=
  .br (.f (.rel 51 [.tru (.v 0 0), .lst 0 1, .tru (.v 0 2), .lst 0 3] 65541 [.bool, .list [.int .i64]]) <|
   .br (.f (.rel 13 [.tru (.v 65541 0), .lst 65541 1] 65542 [.int .i64]) <|
    .ok [.num (.v 65542 0)])
   (.f (.npre 13 [.tru (.v 65541 0), .lst 65541 1]) <|
    .bad))
  (.f (.npre 51 [.tru (.v 0 0), .lst 0 1, .tru (.v 0 2), .lst 0 3]) <|
   .bad)
theorem c37 : ConS Tryz.prog T C37 := con_tr (cs := [C13, C51]) (lcs := []) (known := []) (cons_cons c13 (cons_cons c51 (cons_nil _ _))) (Known.nil _) (N := 400) (d := 40) (t := t37) (by kernel_rfl) <| by
  intro E hl hp
  have hl1 := hl 1 _ rfl
  have hl3 := hl 3 _ rfl
  clear hl
  have hp := hp rfl
  simp only [C37, show T.pre 37 = Q37 from rfl, flatS, SP.flat, dvs, List.append_nil, List.cons_append, List.nil_append, Q37, U64, U32, I64, Big, W, wv, s64, WT, PR, MR, MB] at hp
  simp only [t37, C37, Tr.good, Fact.den, LX.den, DX.ls, DV.ls, DX.den, Bx.den, Ex.den, eo_add, eo_sub, eo_mul, eo_quo, eo_rem, eo_fdv, eo_mn, eo_mx, eo_land, eo_lor, eo_lxor, eo_landn, eo_shl, eo_shr, dvs, flatS, SP.flat, ST.flat, List.map_cons, List.map_nil, List.append_nil, List.cons_append, List.nil_append, ltb_t, ltb_f, leb_t, leb_f, eqb_t, eqb_f, decide_eq_true_eq, decide_eq_false_iff_not, Bool.not_eq_true', Bool.not_eq_false', Bool.and_eq_true, Bool.and_eq_false_imp, beq_iff_eq, beq_eq_false_iff_ne, bne_iff_ne, U64, U32, I64, Big, W, wv, Told, s64, WT, PR, MR, MB, Int.zero_mul, Int.zero_add, Int.add_zero, Int.mul_zero, IntKind.wrap_u64, IntKind.wrap_i64, IntKind.wrap_u32, ne_eq, forall_const, true_implies, show T.rel 13 = R13 from rfl, R13, show T.rel 37 = R37 from rfl, R37, show T.rel 51 = R51 from rfl, R51, show T.pre 13 = Q13 from rfl, Q13, show T.pre 37 = Q37 from rfl, Q37, show T.pre 51 = Q51 from rfl, Q51]
  revert hp hl1 hl3
  generalize (E.r 0).c 0 = an
  generalize (E.r 0).l 1 = al
  generalize (E.r 0).c 2 = bn
  generalize (E.r 0).l 3 = bl
  generalize (E.r 65541).c 0 = x5_0
  generalize (E.r 65541).l 1 = x5_1
  generalize (E.r 65542).i 0 = x6_0
  try simp only [mxI, mnI]
  try simp only [ltb, leb, eqb, Int.lt_irrefl, decide_false, Int.le_refl, decide_true]
  intro hal hbl hp
  refine ⟨fun e => ⟨fun e2 => ?_, fun n => n e.1⟩, fun n => n hp⟩
  rw [e.2] at e2
  omega
end Go.Proofs.YthlcpdjpnbbaeaaGreatDoor.Fn
namespace Go.Proofs.YthlcpdjpnbbaeaaGreatDoor.Fn
open Go Go.RowKit Go.Proofs.YthlcpdjpnbbaeaaGreatDoor.Sy
set_option linter.unusedVariables false
set_option linter.unusedSimpArgs false
set_option maxRecDepth 100000
def t61 : Tr :=
  .br (.f (.is (.le (.n 0) (.v 0 0)) true) <|
   .br (.f (.rel 38 [.num (.wrap .u64 (.v 0 0))] 65541 [.bool, .list [.int .i64]]) <|
    .ok [.tru (.v 65541 0), .lst 65541 1])
   (.f (.npre 38 [.num (.wrap .u64 (.v 0 0))]) <|
    .bad))
  (.f (.is (.le (.n 0) (.v 0 0)) false) <|
   .br (.f (.rel 38 [.num (.wrap .u64 (.bin .add (.wrap .u64 (.wrap .i64 (.bin .sub (.n 0) (.wrap .i64 (.bin .add (.v 0 0) (.n 1)))))) (.n 1)))] 65544 [.bool, .list [.int .i64]]) <|
    .f (.is (.eq (.v 65547 0) (.wrap .i64 (.bin .sub (.n 0) (.wrap .i64 (.bin .add (.v 0 0) (.n 1)))))) true) <|
     .ok [.tru (.le (.n 0) (.n 0)), .lst 65544 1])
   (.f (.npre 38 [.num (.wrap .u64 (.bin .add (.wrap .u64 (.wrap .i64 (.bin .sub (.n 0) (.wrap .i64 (.bin .add (.v 0 0) (.n 1)))))) (.n 1)))]) <|
    .bad))
theorem c61 : ConS Tryz.prog T C61 := con_tr (cs := [C38]) (lcs := []) (known := []) (cons_cons c38 (cons_nil _ _)) (Known.nil _) (N := 400) (d := 40) (t := t61) (by kernel_rfl) <| by
  intro E hl hp
  clear hl
  have hp := hp rfl
  simp only [C61, show T.pre 61 = Q61 from rfl, flatS, SP.flat, dvs, List.append_nil, List.cons_append, List.nil_append, Q61, U64, U32, I64, Big, W, wv, s64, WT, PR, MR, MB] at hp
  simp only [t61, C61, Tr.good, Fact.den, LX.den, DX.ls, DV.ls, DX.den, Bx.den, Ex.den, eo_add, eo_sub, eo_mul, eo_quo, eo_rem, eo_fdv, eo_mn, eo_mx, eo_land, eo_lor, eo_lxor, eo_landn, eo_shl, eo_shr, dvs, flatS, SP.flat, ST.flat, List.map_cons, List.map_nil, List.append_nil, List.cons_append, List.nil_append, ltb_t, ltb_f, leb_t, leb_f, eqb_t, eqb_f, decide_eq_true_eq, decide_eq_false_iff_not, Bool.not_eq_true', Bool.not_eq_false', Bool.and_eq_true, Bool.and_eq_false_imp, beq_iff_eq, beq_eq_false_iff_ne, bne_iff_ne, U64, U32, I64, Big, W, wv, Told, s64, WT, PR, MR, MB, Int.zero_mul, Int.zero_add, Int.add_zero, Int.mul_zero, IntKind.wrap_u64, IntKind.wrap_i64, IntKind.wrap_u32, ne_eq, forall_const, true_implies, show T.rel 38 = R38 from rfl, R38, show T.rel 61 = R61 from rfl, R61, show T.pre 38 = Q38 from rfl, Q38, show T.pre 61 = Q61 from rfl, Q61]
  revert hp
  generalize (E.r 0).i 0 = x
  generalize (E.r 65541).c 0 = x5_0
  generalize (E.r 65541).l 1 = x5_1
  generalize (E.r 65544).c 0 = x8_0
  generalize (E.r 65544).l 1 = x8_1
  generalize (E.r 65547).i 0 = x11_0
  try simp only [mxI, mnI]
  try simp only [ltb, leb, eqb, Int.lt_irrefl, decide_false, Int.le_refl, decide_true]
  intro hp
  refine ⟨fun h => ⟨fun e => ⟨e.1, by rw [e.2]; omega⟩, by omega⟩, fun h => ⟨fun e h2 => ?_, by omega⟩⟩
  have ev : (((0 - ((x + 1 + 9223372036854775808) % 18446744073709551616 - 9223372036854775808) + 9223372036854775808) % 18446744073709551616 - 9223372036854775808) % 18446744073709551616 + 1) % 18446744073709551616 = -x := by omega
  rw [ev] at e
  have pz := e.1.pos
  have b := bval_abs (n := true) e.1.1
  have b2 := bval_abs (n := x8_0) e.1.1
  have nz : x8_1.length ≠ 0 := (pz.1.1 (by omega)).1
  have e8 : x8_0 = false := (pz.1.1 (by omega)).2
  refine ⟨⟨e.1.1, e.1.h, fun h => absurd h nz⟩, ?_⟩
  rw [b.1 rfl, ← b2.2 e8]
  omega
end Go.Proofs.YthlcpdjpnbbaeaaGreatDoor.Fn
namespace Go.Proofs.YthlcpdjpnbbaeaaGreatDoor.Fn
open Go Go.RowKit Go.Proofs.YthlcpdjpnbbaeaaGreatDoor.Sy
set_option linter.unusedVariables false
set_option linter.unusedSimpArgs false
set_option maxRecDepth 100000
def t81 : Tr :=
  .br (.f (.rel 61 [.num (.n 1)] 65537 [.bool, .list [.int .i64]]) <|
   .br (.f (.rel 108103 [.num (.v 0 0), .tru (.v 65537 0), .lst 65537 1, .num (.n 0)] 65541 [.bool, .list [.int .i64], .int .i64]) <|
    .br (.f (.is (.lt (.v 65541 2) (.v 0 0)) false) <|
     .ok [.tru (.v 65541 0), .lst 65541 1])
    (.f (.is (.lt (.v 65541 2) (.v 0 0)) true) <|
     .br (.f (.npre 73 [.tru (.v 65541 0), .lst 65541 1, .tru (.v 65541 0), .lst 65541 1]) <|
      .bad)
     (.f (.rel 73 [.tru (.v 65541 0), .lst 65541 1, .tru (.v 65541 0), .lst 65541 1] 65547 [.bool, .list [.int .i64]]) <|
      .br (.f (.nrel 108103 [.num (.v 0 0), .tru (.v 65537 0), .lst 65537 1, .num (.n 0)] [.tru (.v 65547 0), .lst 65547 1, .num (.wrap .i64 (.bin .add (.v 65541 2) (.n 1)))]) <|
       .bad)
      (.f (.ndec 108103 [.num (.v 0 0), .tru (.v 65537 0), .lst 65537 1, .num (.n 0)] [.tru (.v 65541 0), .lst 65541 1, .num (.v 65541 2)] [.tru (.v 65547 0), .lst 65547 1, .num (.wrap .i64 (.bin .add (.v 65541 2) (.n 1)))]) <|
       .bad))))
   (.f (.nrel 108103 [.num (.v 0 0), .tru (.v 65537 0), .lst 65537 1, .num (.n 0)] [.tru (.v 65537 0), .lst 65537 1, .num (.n 0)]) <|
    .bad))
  (.f (.npre 61 [.num (.n 1)]) <|
   .bad)
theorem c81 : ConS Tryz.prog T C81 := con_tr (cs := [C61, C73]) (lcs := [L108103]) (known := []) (cons_cons c61 (cons_cons c73 (cons_nil _ _))) (Known.nil _) (N := 400) (d := 40) (t := t81) (by kernel_rfl) <| by
  intro E hl hp
  clear hl
  have hp := hp rfl
  simp only [C81, show T.pre 81 = Q81 from rfl, flatS, SP.flat, dvs, List.append_nil, List.cons_append, List.nil_append, Q81, U64, U32, I64, Big, W, wv, s64, WT, PR, MR, MB] at hp
  simp only [t81, C81, Tr.good, Fact.den, LX.den, DX.ls, DV.ls, DX.den, Bx.den, Ex.den, eo_add, eo_sub, eo_mul, eo_quo, eo_rem, eo_fdv, eo_mn, eo_mx, eo_land, eo_lor, eo_lxor, eo_landn, eo_shl, eo_shr, dvs, flatS, SP.flat, ST.flat, List.map_cons, List.map_nil, List.append_nil, List.cons_append, List.nil_append, ltb_t, ltb_f, leb_t, leb_f, eqb_t, eqb_f, decide_eq_true_eq, decide_eq_false_iff_not, Bool.not_eq_true', Bool.not_eq_false', Bool.and_eq_true, Bool.and_eq_false_imp, beq_iff_eq, beq_eq_false_iff_ne, bne_iff_ne, U64, U32, I64, Big, W, wv, Told, s64, WT, PR, MR, MB, Int.zero_mul, Int.zero_add, Int.add_zero, Int.mul_zero, IntKind.wrap_u64, IntKind.wrap_i64, IntKind.wrap_u32, ne_eq, forall_const, true_implies, show T.rel 61 = R61 from rfl, R61, show T.rel 73 = R73 from rfl, R73, show T.rel 81 = R81 from rfl, R81, show T.rel 108103 = R108103 from rfl, R108103, show T.mu 108103 = M108103 from rfl, M108103, show T.pre 61 = Q61 from rfl, Q61, show T.pre 73 = Q73 from rfl, Q73, show T.pre 81 = Q81 from rfl, Q81]
  revert hp
  generalize (E.r 0).i 0 = n
  generalize (E.r 65537).c 0 = x1_0
  generalize (E.r 65537).l 1 = x1_1
  generalize (E.r 65541).c 0 = x5_0
  generalize (E.r 65541).l 1 = x5_1
  generalize (E.r 65541).i 2 = x5_2
  generalize (E.r 65547).c 0 = x11_0
  generalize (E.r 65547).l 1 = x11_1
  try simp only [mxI, mnI]
  try simp only [ltb, leb, eqb, Int.lt_irrefl, decide_false, Int.le_refl, decide_true]
  intro hp
  refine ⟨fun e1 => ⟨fun ⟨i0, i1, i2, i3⟩ => ⟨fun c => ?_, fun c => ?_⟩, fun n => n ⟨trivial, by omega, e1.1, e1.2⟩⟩, by omega⟩
  · have : x5_2 = n := by omega
    subst this
    exact ⟨i2, i3⟩
  · have p0 := p2_pos x5_2.toNat
    have p1 := p2_mono (show x5_2.toNat ≤ 200 by omega)
    rw [p2_200] at p1
    have ew : (x5_2 + 1 + 9223372036854775808) % 18446744073709551616 - 9223372036854775808 = x5_2 + 1 := by omega
    rw [ew]
    refine ⟨fun n => n ⟨⟨i2, by omega, by omega⟩, ⟨i2, by omega, by omega⟩⟩, fun e2 => ⟨fun n => n ⟨by omega, by omega, e2.1, ?_⟩, by omega⟩⟩
    rw [e2.2, i3, show (x5_2 + 1).toNat = x5_2.toNat + 1 by omega, Int.pow_succ]
    omega
end Go.Proofs.YthlcpdjpnbbaeaaGreatDoor.Fn
namespace Go.Proofs.YthlcpdjpnbbaeaaGreatDoor.Fn
open Go Go.RowKit Go.Proofs.YthlcpdjpnbbaeaaGreatDoor.Sy
set_option linter.unusedVariables false
set_option linter.unusedSimpArgs false
set_option maxRecDepth 100000
def t89 : Tr :=
  .br (.f (.rel 38 [.num (.v 0 0)] 65538 [.bool, .list [.int .i64]]) <|
   .br (.f (.rel 38 [.num (.v 0 1)] 65540 [.bool, .list [.int .i64]]) <|
    .br (.f (.rel 51 [.tru (.v 65538 0), .lst 65538 1, .tru (.v 65540 0), .lst 65540 1] 65541 [.bool, .list [.int .i64]]) <|
     .br (.f (.rel 81 [.num (.n 63)] 65545 [.bool, .list [.int .i64]]) <|
      .br (.f (.rel 37 [.tru (.v 65541 0), .lst 65541 1, .tru (.v 65545 0), .lst 65545 1] 65546 [.int .i64]) <|
       .br (.f (.is (.le (.n 0) (.v 65546 0)) true) <|
        .br (.f (.rel 81 [.num (.n 64)] 65549 [.bool, .list [.int .i64]]) <|
         .br (.f (.rel 51 [.tru (.v 65541 0), .lst 65541 1, .tru (.v 65549 0), .lst 65549 1] 65550 [.bool, .list [.int .i64]]) <|
          .ok [.tru (.v 65550 0), .lst 65550 1])
         (.f (.npre 51 [.tru (.v 65541 0), .lst 65541 1, .tru (.v 65549 0), .lst 65549 1]) <|
          .bad))
        (.f (.npre 81 [.num (.n 64)]) <|
         .bad))
       (.f (.is (.le (.n 0) (.v 65546 0)) false) <|
        .br (.f (.rel 81 [.num (.n 63)] 65549 [.bool, .list [.int .i64]]) <|
         .br (.f (.rel 70 [.tru (.v 65549 0), .lst 65549 1] 65550 [.bool, .list [.int .i64]]) <|
          .br (.f (.rel 37 [.tru (.v 65541 0), .lst 65541 1, .tru (.v 65550 0), .lst 65550 1] 65551 [.int .i64]) <|
           .br (.f (.is (.lt (.v 65551 0) (.n 0)) true) <|
            .br (.f (.rel 81 [.num (.n 64)] 65554 [.bool, .list [.int .i64]]) <|
             .br (.f (.rel 73 [.tru (.v 65541 0), .lst 65541 1, .tru (.v 65554 0), .lst 65554 1] 65555 [.bool, .list [.int .i64]]) <|
              .ok [.tru (.v 65555 0), .lst 65555 1])
             (.f (.npre 73 [.tru (.v 65541 0), .lst 65541 1, .tru (.v 65554 0), .lst 65554 1]) <|
              .bad))
            (.f (.npre 81 [.num (.n 64)]) <|
             .bad))
           (.f (.is (.lt (.v 65551 0) (.n 0)) false) <|
            .ok [.tru (.v 65541 0), .lst 65541 1]))
          (.f (.npre 37 [.tru (.v 65541 0), .lst 65541 1, .tru (.v 65550 0), .lst 65550 1]) <|
           .bad))
         (.f (.npre 70 [.tru (.v 65549 0), .lst 65549 1]) <|
          .bad))
        (.f (.npre 81 [.num (.n 63)]) <|
         .bad)))
      (.f (.npre 37 [.tru (.v 65541 0), .lst 65541 1, .tru (.v 65545 0), .lst 65545 1]) <|
       .bad))
     (.f (.npre 81 [.num (.n 63)]) <|
      .bad))
    (.f (.npre 51 [.tru (.v 65538 0), .lst 65538 1, .tru (.v 65540 0), .lst 65540 1]) <|
     .bad))
   (.f (.npre 38 [.num (.v 0 1)]) <|
    .bad))
  (.f (.npre 38 [.num (.v 0 0)]) <|
   .bad)
theorem c89 : ConS Tryz.prog T C89 := con_tr (cs := [C37, C38, C51, C70, C73, C81]) (lcs := []) (known := []) (cons_cons c37 (cons_cons c38 (cons_cons c51 (cons_cons c70 (cons_cons c73 (cons_cons c81 (cons_nil _ _))))))) (Known.nil _) (N := 400) (d := 40) (t := t89) (by kernel_rfl) <| by
  intro E hl hp
  clear hl
  have hp := hp rfl
  simp only [C89, show T.pre 89 = Q89 from rfl, flatS, SP.flat, dvs, List.append_nil, List.cons_append, List.nil_append, Q89, U64, U32, I64, Big, W, wv, s64, WT, PR, MR, MB] at hp
  simp only [t89, C89, Tr.good, Fact.den, LX.den, DX.ls, DV.ls, DX.den, Bx.den, Ex.den, eo_add, eo_sub, eo_mul, eo_quo, eo_rem, eo_fdv, eo_mn, eo_mx, eo_land, eo_lor, eo_lxor, eo_landn, eo_shl, eo_shr, dvs, flatS, SP.flat, ST.flat, List.map_cons, List.map_nil, List.append_nil, List.cons_append, List.nil_append, ltb_t, ltb_f, leb_t, leb_f, eqb_t, eqb_f, decide_eq_true_eq, decide_eq_false_iff_not, Bool.not_eq_true', Bool.not_eq_false', Bool.and_eq_true, Bool.and_eq_false_imp, beq_iff_eq, beq_eq_false_iff_ne, bne_iff_ne, U64, U32, I64, Big, W, wv, Told, s64, WT, PR, MR, MB, Int.zero_mul, Int.zero_add, Int.add_zero, Int.mul_zero, IntKind.wrap_u64, IntKind.wrap_i64, IntKind.wrap_u32, ne_eq, forall_const, true_implies, show T.rel 37 = R37 from rfl, R37, show T.rel 38 = R38 from rfl, R38, show T.rel 51 = R51 from rfl, R51, show T.rel 70 = R70 from rfl, R70, show T.rel 73 = R73 from rfl, R73, show T.rel 81 = R81 from rfl, R81, show T.rel 89 = R89 from rfl, R89, show T.pre 37 = Q37 from rfl, Q37, show T.pre 38 = Q38 from rfl, Q38, show T.pre 51 = Q51 from rfl, Q51, show T.pre 70 = Q70 from rfl, Q70, show T.pre 73 = Q73 from rfl, Q73, show T.pre 81 = Q81 from rfl, Q81, show T.pre 89 = Q89 from rfl, Q89]
  revert hp
  generalize (E.r 0).i 0 = t
  generalize (E.r 0).i 1 = u
  generalize (E.r 65538).c 0 = x2_0
  generalize (E.r 65538).l 1 = x2_1
  generalize (E.r 65540).c 0 = x4_0
  generalize (E.r 65540).l 1 = x4_1
  generalize (E.r 65541).c 0 = x5_0
  generalize (E.r 65541).l 1 = x5_1
  generalize (E.r 65545).c 0 = x9_0
  generalize (E.r 65545).l 1 = x9_1
  generalize (E.r 65546).i 0 = x10_0
  generalize (E.r 65549).c 0 = x13_0
  generalize (E.r 65549).l 1 = x13_1
  generalize (E.r 65550).c 0 = x14_0
  generalize (E.r 65550).l 1 = x14_1
  generalize (E.r 65551).i 0 = x15_0
  generalize (E.r 65554).c 0 = x18_0
  generalize (E.r 65554).l 1 = x18_1
  generalize (E.r 65555).c 0 = x19_0
  generalize (E.r 65555).l 1 = x19_1
  try simp only [mxI, mnI]
  try simp only [ltb, leb, eqb, Int.lt_irrefl, decide_false, Int.le_refl, decide_true]
  intro hp
  rw [p2_63, p2_64]
  repeat' (first | assumption | (intro (h : _ ∧ _); obtain ⟨_, _⟩ := h) | intro _ | refine And.intro ?_ ?_)
  all_goals try (show False; refine absurd ?_ ‹¬ _›)
  all_goals repeat' (first | assumption | refine And.intro ?_ ?_)
  all_goals first | omega | (simp_all; done) | (simp_all; omega)
end Go.Proofs.YthlcpdjpnbbaeaaGreatDoor.Fn
namespace Go.Proofs.YthlcpdjpnbbaeaaGreatDoor.Fn
open Go Go.RowKit Go.Proofs.YthlcpdjpnbbaeaaGreatDoor.Sy
set_option linter.unusedVariables false
set_option linter.unusedSimpArgs false
set_option maxRecDepth 100000
def t50 : Tr :=
  .br (.f (.rel 38 [.num (.wrap .u64 (.v 0 2))] 65541 [.bool, .list [.int .i64]]) <|
   .br (.f (.rel 89 [.num (.v 0 0), .num (.v 0 3)] 65545 [.bool, .list [.int .i64]]) <|
    .br (.f (.rel 49 [.tru (.v 65541 0), .lst 65541 1, .tru (.v 65545 0), .lst 65545 1] 65546 [.bool, .list [.int .i64]]) <|
     .br (.f (.rel 38 [.num (.wrap .u64 (.v 0 1))] 65550 [.bool, .list [.int .i64]]) <|
      .br (.f (.rel 73 [.tru (.v 65546 0), .lst 65546 1, .tru (.v 65550 0), .lst 65550 1] 65551 [.bool, .list [.int .i64]]) <|
       .ok [.tru (.v 65551 0), .lst 65551 1])
      (.f (.npre 73 [.tru (.v 65546 0), .lst 65546 1, .tru (.v 65550 0), .lst 65550 1]) <|
       .bad))
     (.f (.npre 38 [.num (.wrap .u64 (.v 0 1))]) <|
      .bad))
    (.f (.npre 49 [.tru (.v 65541 0), .lst 65541 1, .tru (.v 65545 0), .lst 65545 1]) <|
     .bad))
   (.f (.npre 89 [.num (.v 0 0), .num (.v 0 3)]) <|
    .bad))
  (.f (.npre 38 [.num (.wrap .u64 (.v 0 2))]) <|
   .bad)
theorem c50 : ConS Tryz.prog T C50 := con_tr (cs := [C38, C49, C73, C89]) (lcs := []) (known := []) (cons_cons c38 (cons_cons c49 (cons_cons c73 (cons_cons c89 (cons_nil _ _))))) (Known.nil _) (N := 400) (d := 40) (t := t50) (by kernel_rfl) <| by
  intro E hl hp
  clear hl
  have hp := hp rfl
  simp only [C50, show T.pre 50 = Q50 from rfl, flatS, SP.flat, dvs, List.append_nil, List.cons_append, List.nil_append, Q50, U64, U32, I64, Big, W, wv, s64, WT, PR, MR, MB] at hp
  simp only [t50, C50, Tr.good, Fact.den, LX.den, DX.ls, DV.ls, DX.den, Bx.den, Ex.den, eo_add, eo_sub, eo_mul, eo_quo, eo_rem, eo_fdv, eo_mn, eo_mx, eo_land, eo_lor, eo_lxor, eo_landn, eo_shl, eo_shr, dvs, flatS, SP.flat, ST.flat, List.map_cons, List.map_nil, List.append_nil, List.cons_append, List.nil_append, ltb_t, ltb_f, leb_t, leb_f, eqb_t, eqb_f, decide_eq_true_eq, decide_eq_false_iff_not, Bool.not_eq_true', Bool.not_eq_false', Bool.and_eq_true, Bool.and_eq_false_imp, beq_iff_eq, beq_eq_false_iff_ne, bne_iff_ne, U64, U32, I64, Big, W, wv, Told, s64, WT, PR, MR, MB, Int.zero_mul, Int.zero_add, Int.add_zero, Int.mul_zero, IntKind.wrap_u64, IntKind.wrap_i64, IntKind.wrap_u32, ne_eq, forall_const, true_implies, show T.rel 38 = R38 from rfl, R38, show T.rel 49 = R49 from rfl, R49, show T.rel 50 = R50 from rfl, R50, show T.rel 73 = R73 from rfl, R73, show T.rel 89 = R89 from rfl, R89, show T.pre 38 = Q38 from rfl, Q38, show T.pre 49 = Q49 from rfl, Q49, show T.pre 50 = Q50 from rfl, Q50, show T.pre 73 = Q73 from rfl, Q73, show T.pre 89 = Q89 from rfl, Q89]
  revert hp
  generalize (E.r 0).i 0 = t
  generalize (E.r 0).i 1 = r
  generalize (E.r 0).i 2 = w
  generalize (E.r 0).i 3 = base
  generalize (E.r 65541).c 0 = x5_0
  generalize (E.r 65541).l 1 = x5_1
  generalize (E.r 65545).c 0 = x9_0
  generalize (E.r 65545).l 1 = x9_1
  generalize (E.r 65546).c 0 = x10_0
  generalize (E.r 65546).l 1 = x10_1
  generalize (E.r 65550).c 0 = x14_0
  generalize (E.r 65550).l 1 = x14_1
  generalize (E.r 65551).c 0 = x15_0
  generalize (E.r 65551).l 1 = x15_1
  try simp only [mxI, mnI]
  try simp only [ltb, leb, eqb, Int.lt_irrefl, decide_false, Int.le_refl, decide_true]
  intro hp
  have e1 : w % 18446744073709551616 = w := by omega
  have e2 : r % 18446744073709551616 = r := by omega
  have s := mul_abs (w := w) (s := (t - base + 9223372036854775808) % 18446744073709551616 - 9223372036854775808) (A := 4294967295) (by omega) (by omega) (by omega) (by omega)
  simp only [e1, e2]
  refine ⟨fun a1 => ⟨fun a2 => ⟨fun a3 => ⟨fun a4 => ⟨fun a5 => ⟨a5.1, ?_⟩, fun n => n ⟨⟨a3.1, ?_, ?_⟩, a4.1, by omega, by omega⟩⟩, by omega⟩, fun n => n ⟨⟨a1.1, by omega, by omega⟩, a2.1, by omega, by omega⟩⟩, by omega⟩, by omega⟩
  · rw [a5.2, a3.2, a1.2, a2.2, a4.2]
  · rw [a3.2, a1.2, a2.2]; omega
  · rw [a3.2, a1.2, a2.2]; omega
end Go.Proofs.YthlcpdjpnbbaeaaGreatDoor.Fn
namespace Go.Proofs.YthlcpdjpnbbaeaaGreatDoor.Fn
open Go Go.RowKit Go.Proofs.YthlcpdjpnbbaeaaGreatDoor.Sy
set_option linter.unusedVariables false
set_option linter.unusedSimpArgs false
set_option maxRecDepth 100000
def t52 : Tr :=
  .br (.f (.rel 81 [.num (.n 127)] 65538 [.bool, .list [.int .i64]]) <|
   .br (.f (.rel 37 [.tru (.v 0 0), .lst 0 1, .tru (.v 65538 0), .lst 65538 1] 65543 [.int .i64]) <|
    .br (.f (.is (.lt (.v 65543 0) (.n 0)) true) <|
     .br (.f (.rel 70 [.tru (.v 65538 0), .lst 65538 1] 65548 [.bool, .list [.int .i64]]) <|
      .br (.f (.rel 37 [.tru (.v 0 0), .lst 0 1, .tru (.v 65548 0), .lst 65548 1] 65549 [.int .i64]) <|
       .ok [.tru (.le (.n 0) (.v 65549 0))])
      (.f (.npre 37 [.tru (.v 0 0), .lst 0 1, .tru (.v 65548 0), .lst 65548 1]) <|
       .bad))
     (.f (.npre 70 [.tru (.v 65538 0), .lst 65538 1]) <|
      .bad))
    (.f (.is (.lt (.v 65543 0) (.n 0)) false) <|
     .ok [.tru (.lt (.n 0) (.n 0))]))
   (.f (.npre 37 [.tru (.v 0 0), .lst 0 1, .tru (.v 65538 0), .lst 65538 1]) <|
    .bad))
  (.f (.npre 81 [.num (.n 127)]) <|
   .bad)
theorem c52 : ConS Tryz.prog T C52 := con_tr (cs := [C37, C70, C81]) (lcs := []) (known := []) (cons_cons c37 (cons_cons c70 (cons_cons c81 (cons_nil _ _)))) (Known.nil _) (N := 400) (d := 40) (t := t52) (by kernel_rfl) <| by
  intro E hl hp
  have hl1 := hl 1 _ rfl
  clear hl
  have hp := hp rfl
  simp only [C52, show T.pre 52 = Q52 from rfl, flatS, SP.flat, dvs, List.append_nil, List.cons_append, List.nil_append, Q52, U64, U32, I64, Big, W, wv, s64, WT, PR, MR, MB] at hp
  simp only [t52, C52, Tr.good, Fact.den, LX.den, DX.ls, DV.ls, DX.den, Bx.den, Ex.den, eo_add, eo_sub, eo_mul, eo_quo, eo_rem, eo_fdv, eo_mn, eo_mx, eo_land, eo_lor, eo_lxor, eo_landn, eo_shl, eo_shr, dvs, flatS, SP.flat, ST.flat, List.map_cons, List.map_nil, List.append_nil, List.cons_append, List.nil_append, ltb_t, ltb_f, leb_t, leb_f, eqb_t, eqb_f, decide_eq_true_eq, decide_eq_false_iff_not, Bool.not_eq_true', Bool.not_eq_false', Bool.and_eq_true, Bool.and_eq_false_imp, beq_iff_eq, beq_eq_false_iff_ne, bne_iff_ne, U64, U32, I64, Big, W, wv, Told, s64, WT, PR, MR, MB, Int.zero_mul, Int.zero_add, Int.add_zero, Int.mul_zero, IntKind.wrap_u64, IntKind.wrap_i64, IntKind.wrap_u32, ne_eq, forall_const, true_implies, show T.rel 37 = R37 from rfl, R37, show T.rel 52 = R52 from rfl, R52, show T.rel 70 = R70 from rfl, R70, show T.rel 81 = R81 from rfl, R81, show T.pre 37 = Q37 from rfl, Q37, show T.pre 52 = Q52 from rfl, Q52, show T.pre 70 = Q70 from rfl, Q70, show T.pre 81 = Q81 from rfl, Q81]
  revert hp hl1
  generalize (E.r 0).c 0 = n
  generalize (E.r 0).l 1 = l
  generalize (E.r 65538).c 0 = x2_0
  generalize (E.r 65538).l 1 = x2_1
  generalize (E.r 65543).i 0 = x7_0
  generalize (E.r 65548).c 0 = x12_0
  generalize (E.r 65548).l 1 = x12_1
  generalize (E.r 65549).i 0 = x13_0
  try simp only [mxI, mnI]
  try simp only [ltb, leb, eqb, Int.lt_irrefl, decide_false, Int.le_refl, decide_true]
  intro hl hp
  simp only [Bi, Big]
  rw [p2_127]
  refine ⟨fun e1 => ⟨fun e2 => ⟨fun c => ⟨fun e3 => ⟨fun e4 => ?_, fun n => n ⟨hp, e3.1, by omega, by omega⟩⟩, fun n => n ⟨e1.1, by omega, by omega⟩⟩, fun c => ?_⟩, fun n => n ⟨hp, e1.1, by omega, by omega⟩⟩, by omega⟩
  · omega
  · refine ⟨fun h => h.elim, fun h => ?_⟩
    omega
end Go.Proofs.YthlcpdjpnbbaeaaGreatDoor.Fn
namespace Go.Proofs.YthlcpdjpnbbaeaaGreatDoor.Fn
open Go Go.RowKit Go.Proofs.YthlcpdjpnbbaeaaGreatDoor.Sy
set_option linter.unusedVariables false
set_option linter.unusedSimpArgs false
set_option maxRecDepth 100000
def t119 : Tr :=
  .br (.f (.rel 50 [.num (.v 0 5), .num (.v 0 6), .num (.v 0 7), .num (.v 0 0)] 65545 [.bool, .list [.int .i64]]) <|
   .br (.f (.rel 73 [.tru (.v 0 1), .lst 0 2, .tru (.v 65545 0), .lst 65545 1] 65546 [.bool, .list [.int .i64]]) <|
    .br (.f (.rel 47 [.num (.v 0 0), .tru (.v 0 1), .lst 0 2, .num (.v 0 3), .num (.v 0 4)] 65550 [.bool]) <|
     .br (.f (.is (.v 65550 0) false) <|
      .ok [.num (.n 0), .tru (.lt (.n 0) (.n 0)), .rows [], .num (.n 0), .num (.n 0), .tru (.lt (.n 0) (.n 0))])
     (.f (.is (.v 65550 0) true) <|
      .f (.rel 48 [.num (.v 0 5), .num (.v 0 6), .num (.v 0 7)] 65554 [.bool]) <|
       .br (.f (.is (.v 65554 0) false) <|
        .ok [.num (.n 0), .tru (.lt (.n 0) (.n 0)), .rows [], .num (.n 0), .num (.n 0), .tru (.lt (.n 0) (.n 0))])
       (.f (.is (.v 65554 0) true) <|
        .br (.f (.is (.le (.n 32) (.v 0 4)) true) <|
         .ok [.num (.n 0), .tru (.lt (.n 0) (.n 0)), .rows [], .num (.n 0), .num (.n 0), .tru (.lt (.n 0) (.n 0))])
        (.f (.is (.le (.n 32) (.v 0 4)) false) <|
         .br (.f (.rel 52 [.tru (.v 65546 0), .lst 65546 1] 65564 [.bool]) <|
          .br (.f (.is (.v 65564 0) false) <|
           .ok [.num (.n 0), .tru (.lt (.n 0) (.n 0)), .rows [], .num (.n 0), .num (.n 0), .tru (.lt (.n 0) (.n 0))])
          (.f (.is (.v 65564 0) true) <|
           .ok [.num (.v 0 0), .tru (.v 65546 0), .lst 65546 1, .num (.wrap .u64 (.bin .add (.v 0 3) (.wrap .u64 (.v 0 7)))), .num (.wrap .i64 (.bin .add (.v 0 4) (.n 1))), .tru (.le (.n 0) (.n 0))]))
         (.f (.npre 52 [.tru (.v 65546 0), .lst 65546 1]) <|
          .bad)))))
    (.f (.npre 47 [.num (.v 0 0), .tru (.v 0 1), .lst 0 2, .num (.v 0 3), .num (.v 0 4)]) <|
     .bad))
   (.f (.npre 73 [.tru (.v 0 1), .lst 0 2, .tru (.v 65545 0), .lst 65545 1]) <|
    .bad))
  (.f (.npre 50 [.num (.v 0 5), .num (.v 0 6), .num (.v 0 7), .num (.v 0 0)]) <|
   .bad)
theorem c119 : ConS Tryz.prog T C119 := con_tr (cs := [C47, C48, C50, C52, C73]) (lcs := []) (known := []) (cons_cons c47 (cons_cons c48 (cons_cons c50 (cons_cons c52 (cons_cons c73 (cons_nil _ _)))))) (Known.nil _) (N := 400) (d := 40) (t := t119) (by kernel_rfl) <| by
  intro E hl hp
  have hl2 := hl 2 _ rfl
  clear hl
  have hp := hp rfl
  simp only [C119, show T.pre 119 = Q119 from rfl, flatS, SP.flat, dvs, List.append_nil, List.cons_append, List.nil_append, Q119, U64, U32, I64, Big, W, wv, s64, WT, PR, MR, MB] at hp
  simp only [t119, C119, Tr.good, Fact.den, LX.den, DX.ls, DV.ls, DX.den, Bx.den, Ex.den, eo_add, eo_sub, eo_mul, eo_quo, eo_rem, eo_fdv, eo_mn, eo_mx, eo_land, eo_lor, eo_lxor, eo_landn, eo_shl, eo_shr, dvs, flatS, SP.flat, ST.flat, List.map_cons, List.map_nil, List.append_nil, List.cons_append, List.nil_append, ltb_t, ltb_f, leb_t, leb_f, eqb_t, eqb_f, decide_eq_true_eq, decide_eq_false_iff_not, Bool.not_eq_true', Bool.not_eq_false', Bool.and_eq_true, Bool.and_eq_false_imp, beq_iff_eq, beq_eq_false_iff_ne, bne_iff_ne, U64, U32, I64, Big, W, wv, Told, s64, WT, PR, MR, MB, Int.zero_mul, Int.zero_add, Int.add_zero, Int.mul_zero, IntKind.wrap_u64, IntKind.wrap_i64, IntKind.wrap_u32, ne_eq, forall_const, true_implies, show T.rel 47 = R47 from rfl, R47, show T.rel 48 = R48 from rfl, R48, show T.rel 50 = R50 from rfl, R50, show T.rel 52 = R52 from rfl, R52, show T.rel 73 = R73 from rfl, R73, show T.rel 119 = R119 from rfl, R119, show T.pre 47 = Q47 from rfl, Q47, show T.pre 50 = Q50 from rfl, Q50, show T.pre 52 = Q52 from rfl, Q52, show T.pre 73 = Q73 from rfl, Q73, show T.pre 119 = Q119 from rfl, Q119]
  revert hp hl2
  generalize (E.r 0).i 0 = b
  generalize (E.r 0).c 1 = an
  generalize (E.r 0).l 2 = al
  generalize (E.r 0).i 3 = w
  generalize (E.r 0).i 4 = n
  generalize (E.r 0).i 5 = t
  generalize (E.r 0).i 6 = r
  generalize (E.r 0).i 7 = v
  generalize (E.r 65545).c 0 = x9_0
  generalize (E.r 65545).l 1 = x9_1
  generalize (E.r 65546).c 0 = x10_0
  generalize (E.r 65546).l 1 = x10_1
  generalize (E.r 65550).c 0 = x14_0
  generalize (E.r 65554).c 0 = x18_0
  generalize (E.r 65564).c 0 = x28_0
  try simp only [Bg]
  try generalize bval an al = an_v
  try generalize bval x9_0 x9_1 = y9_0
  try generalize bval x10_0 x10_1 = y10_0
  try simp only [mxI, mnI]
  try simp only [ltb, leb, eqb, Int.lt_irrefl, decide_false, Int.le_refl, decide_true]
  simp only [bval_nil]
  intro hl hp
  have B0 := BOK_nil
  have e1 : v % 18446744073709551616 = v := by omega
  have hA : -170141183460469231731687303715884105728 ≤ an_v ∧ an_v < 170141183460469231731687303715884105728 := hp.2.1
  have s := mul_abs (w := v) (s := (t - b + 9223372036854775808) % 18446744073709551616 - 9223372036854775808) (A := 4294967295) (by omega) (by omega) (by omega) (by omega)
  have hw : Mq an_v w n → 0 ≤ w ∧ w ≤ 33554432 := by simp only [Mq, MB]; omega
  have e2 : n < 32 → (n + 1 + 9223372036854775808) % 18446744073709551616 - 9223372036854775808 = n + 1 := by omega
  simp only [e1]
  obtain ⟨hb0, hb1, hb2⟩ := hp
  generalize hD : v * ((t - b + 9223372036854775808) % 18446744073709551616 - 9223372036854775808) + r = D at *
  repeat' (first | assumption | (intro (h : _ ∧ _); obtain ⟨h1, h2⟩ := h; (first | (subst h1; revert h2) | revert h1 h2)) | (intro h; (first | subst h | skip)) | refine And.intro ?_ ?_)
  all_goals try (show False; refine absurd ?_ ‹¬ _›)
  all_goals repeat' (first | assumption | refine And.intro ?_ ?_)
  all_goals first | omega | grind
end Go.Proofs.YthlcpdjpnbbaeaaGreatDoor.Fn
