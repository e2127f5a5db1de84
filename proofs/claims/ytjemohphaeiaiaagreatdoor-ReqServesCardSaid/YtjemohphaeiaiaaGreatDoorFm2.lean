/- What is told of the functions, shown: turnstone/turnstoneref01.plus, turnstone/turnstoneref01.larger, turnstone/turnstoneref01.minus, turnstone/turnstoneref01.Add, turnstone/turnstoneref01.U, turnstone/turnstoneref01.Sign, turnstone/turnstoneref01.Neg, turnstone/turnstoneref01.Sub, turnstone/turnstoneref01.Cmp, turnstone/turnstoneref01.N, turnstone/turnstoneref01.Power. -/
import Derived.Test.YtjemohphaeiaiaaGreatDoorFm1
namespace Go.Proofs.YtjemohphaeiaiaaGreatDoor.Fn
open Go Go.RowKit Go.Proofs.YtjemohphaeiaiaaGreatDoor.Sy
set_option linter.unusedVariables false
set_option linter.unusedSimpArgs false
set_option maxRecDepth 100000
def t67 : Tr :=
  .br (.f (.rel 106704 [.lst 0 1, .lst 0 3, .rows [], .num (.n 0), .num (.n 0)] 65542 [.list [.int .i64], .int .i64, .int .i64]) <|
   .br (.f (.is (.lt (.v 65542 2) (.len 0 1)) false) <|
    .br (.f (.is (.lt (.v 65542 2) (.len 0 3)) false) <|
     .br (.f (.is (.lt (.n 0) (.v 65542 1)) false) <|
      .ok [.lst 65542 0])
     (.f (.is (.lt (.n 0) (.v 65542 1)) true) <|
      .br (.f (.npre 70 [.tru (.v 0 0), .lst 0 1, .num (.v 65542 2)]) <|
       .bad)
      (.f (.rel 70 [.tru (.v 0 0), .lst 0 1, .num (.v 65542 2)] 65561 [.int .i64]) <|
       .br (.f (.npre 70 [.tru (.v 0 2), .lst 0 3, .num (.v 65542 2)]) <|
        .bad)
       (.f (.rel 70 [.tru (.v 0 2), .lst 0 3, .num (.v 65542 2)] 65564 [.int .i64]) <|
        .f (.is (.eq (.v 65569 0) (.wrap .i64 (.bin .add (.wrap .i64 (.bin .add (.v 65561 0) (.v 65564 0))) (.v 65542 1)))) true) <|
         .br (.f (.is (.le (.len 65542 0) (.n 1000000000)) false) <|
          .bad)
         (.f (.is (.le (.len 65542 0) (.n 1000000000)) true) <|
          .f (.lseq 65574 (.app (.lst 65542 0) (.rows [[.bin .rem (.v 65569 0) (.n 10000)]]))) <|
           .br (.f (.nrel 106704 [.lst 0 1, .lst 0 3, .rows [], .num (.n 0), .num (.n 0)] [.lst 65574 0, .num (.wrap .i64 (.bin .quo (.v 65569 0) (.n 10000))), .num (.wrap .i64 (.bin .add (.v 65542 2) (.n 1)))]) <|
            .bad)
           (.f (.ndec 106704 [.lst 0 1, .lst 0 3, .rows [], .num (.n 0), .num (.n 0)] [.lst 65542 0, .num (.v 65542 1), .num (.v 65542 2)] [.lst 65574 0, .num (.wrap .i64 (.bin .quo (.v 65569 0) (.n 10000))), .num (.wrap .i64 (.bin .add (.v 65542 2) (.n 1)))]) <|
            .bad))))))
    (.f (.is (.lt (.v 65542 2) (.len 0 3)) true) <|
     .br (.f (.npre 70 [.tru (.v 0 0), .lst 0 1, .num (.v 65542 2)]) <|
      .bad)
     (.f (.rel 70 [.tru (.v 0 0), .lst 0 1, .num (.v 65542 2)] 65561 [.int .i64]) <|
      .br (.f (.npre 70 [.tru (.v 0 2), .lst 0 3, .num (.v 65542 2)]) <|
       .bad)
      (.f (.rel 70 [.tru (.v 0 2), .lst 0 3, .num (.v 65542 2)] 65564 [.int .i64]) <|
       .f (.is (.eq (.v 65569 0) (.wrap .i64 (.bin .add (.wrap .i64 (.bin .add (.v 65561 0) (.v 65564 0))) (.v 65542 1)))) true) <|
        .br (.f (.is (.le (.len 65542 0) (.n 1000000000)) false) <|
         .bad)
        (.f (.is (.le (.len 65542 0) (.n 1000000000)) true) <|
         .f (.lseq 65574 (.app (.lst 65542 0) (.rows [[.bin .rem (.v 65569 0) (.n 10000)]]))) <|
          .br (.f (.nrel 106704 [.lst 0 1, .lst 0 3, .rows [], .num (.n 0), .num (.n 0)] [.lst 65574 0, .num (.wrap .i64 (.bin .quo (.v 65569 0) (.n 10000))), .num (.wrap .i64 (.bin .add (.v 65542 2) (.n 1)))]) <|
           .bad)
          (.f (.ndec 106704 [.lst 0 1, .lst 0 3, .rows [], .num (.n 0), .num (.n 0)] [.lst 65542 0, .num (.v 65542 1), .num (.v 65542 2)] [.lst 65574 0, .num (.wrap .i64 (.bin .quo (.v 65569 0) (.n 10000))), .num (.wrap .i64 (.bin .add (.v 65542 2) (.n 1)))]) <|
           .bad))))))
   (.f (.is (.lt (.v 65542 2) (.len 0 1)) true) <|
    .br (.f (.npre 70 [.tru (.v 0 0), .lst 0 1, .num (.v 65542 2)]) <|
     .bad)
    (.f (.rel 70 [.tru (.v 0 0), .lst 0 1, .num (.v 65542 2)] 65561 [.int .i64]) <|
     .br (.f (.npre 70 [.tru (.v 0 2), .lst 0 3, .num (.v 65542 2)]) <|
      .bad)
     (.f (.rel 70 [.tru (.v 0 2), .lst 0 3, .num (.v 65542 2)] 65564 [.int .i64]) <|
      .f (.is (.eq (.v 65569 0) (.wrap .i64 (.bin .add (.wrap .i64 (.bin .add (.v 65561 0) (.v 65564 0))) (.v 65542 1)))) true) <|
       .br (.f (.is (.le (.len 65542 0) (.n 1000000000)) false) <|
        .bad)
       (.f (.is (.le (.len 65542 0) (.n 1000000000)) true) <|
        .f (.lseq 65574 (.app (.lst 65542 0) (.rows [[.bin .rem (.v 65569 0) (.n 10000)]]))) <|
         .br (.f (.nrel 106704 [.lst 0 1, .lst 0 3, .rows [], .num (.n 0), .num (.n 0)] [.lst 65574 0, .num (.wrap .i64 (.bin .quo (.v 65569 0) (.n 10000))), .num (.wrap .i64 (.bin .add (.v 65542 2) (.n 1)))]) <|
          .bad)
         (.f (.ndec 106704 [.lst 0 1, .lst 0 3, .rows [], .num (.n 0), .num (.n 0)] [.lst 65542 0, .num (.v 65542 1), .num (.v 65542 2)] [.lst 65574 0, .num (.wrap .i64 (.bin .quo (.v 65569 0) (.n 10000))), .num (.wrap .i64 (.bin .add (.v 65542 2) (.n 1)))]) <|
          .bad))))))
  (.f (.nrel 106704 [.lst 0 1, .lst 0 3, .rows [], .num (.n 0), .num (.n 0)] [.rows [], .num (.n 0), .num (.n 0)]) <|
   .bad)
theorem c67 : ConS Tryz.prog T C67 := con_tr (cs := [C70]) (lcs := [L106704]) (known := []) (cons_cons c70 (cons_nil _ _)) (Known.nil _) (N := 400) (d := 40) (t := t67) (by kernel_rfl) <| by
  intro E hl hp
  have hl1 := hl 1 _ rfl
  have hl3 := hl 3 _ rfl
  clear hl
  have hp := hp rfl
  simp only [C67, show T.pre 67 = Q67 from rfl, flatS, SP.flat, dvs, List.append_nil, List.cons_append, List.nil_append, Q67, U64, U32, I64, Big, W, wv, s64, WT, PR, MR, MB] at hp
  simp only [t67, C67, Tr.good, Fact.den, LX.den, DX.ls, DV.ls, DX.den, Bx.den, Ex.den, eo_add, eo_sub, eo_mul, eo_quo, eo_rem, eo_fdv, eo_mn, eo_mx, eo_land, eo_lor, eo_lxor, eo_landn, eo_shl, eo_shr, dvs, flatS, SP.flat, ST.flat, List.map_cons, List.map_nil, List.append_nil, List.cons_append, List.nil_append, ltb_t, ltb_f, leb_t, leb_f, eqb_t, eqb_f, decide_eq_true_eq, decide_eq_false_iff_not, Bool.not_eq_true', Bool.not_eq_false', Bool.and_eq_true, Bool.and_eq_false_imp, beq_iff_eq, beq_eq_false_iff_ne, bne_iff_ne, U64, U32, I64, Big, W, wv, Told, s64, WT, PR, MR, MB, Int.zero_mul, Int.zero_add, Int.add_zero, Int.mul_zero, IntKind.wrap_u64, IntKind.wrap_i64, IntKind.wrap_u32, ne_eq, forall_const, true_implies, show T.rel 67 = R67 from rfl, R67, show T.rel 70 = R70 from rfl, R70, show T.rel 106704 = R106704 from rfl, R106704, show T.mu 106704 = M106704 from rfl, M106704, show T.pre 67 = Q67 from rfl, Q67, show T.pre 70 = Q70 from rfl, Q70]
  revert hp hl1 hl3
  generalize (E.r 0).c 0 = an
  generalize (E.r 0).l 1 = al
  generalize (E.r 0).c 2 = bn
  generalize (E.r 0).l 3 = bl
  generalize (E.r 65542).l 0 = x6_0
  generalize (E.r 65542).i 1 = x6_1
  generalize (E.r 65542).i 2 = x6_2
  generalize (E.r 65561).i 0 = x25_0
  generalize (E.r 65564).i 0 = x28_0
  generalize (E.r 65569).i 0 = x33_0
  generalize (E.r 65574).l 0 = x38_0
  try simp only [mxI, mnI]
  try simp only [ltb, leb, eqb, Int.lt_irrefl, decide_false, Int.le_refl, decide_true]
  intro hal hbl hp
  obtain ⟨da, db, la, lb⟩ := hp
  refine ⟨fun ⟨i0, i1, i2, i3, i4, i5, i6⟩ => ?_, fun n => n ⟨by first | trivial | omega, by first | trivial | rfl, dig_nil, by first | trivial | omega, by first | trivial | omega, by first | trivial | omega, by simp [dval, P4]⟩⟩
  obtain ⟨k, rfl⟩ := Int.eq_ofNat_of_zero_le i0
  have hk : x6_0.length = k := by omega
  have ew : ((k : Int) + 1 + 9223372036854775808) % 18446744073709551616 - 9223372036854775808 = ((k + 1 : Nat) : Int) := by omega
  simp only [ew, Int.toNat_natCast] at *
  have ra := da k
  have rb := db k
  have step : ∀ s : Int, s = Sy.rowAt al k 0 + Sy.rowAt bl k 0 + x6_1 → (k < al.length ∨ k < bl.length ∨ 0 < x6_1) → ∀ y : List (List Int), y = x6_0 ++ [[s.tmod 10000]] →
      (0 ≤ ((k + 1 : Nat) : Int) ∧ (y.length : Int) = ((k + 1 : Nat) : Int) ∧ dig y ∧ 0 ≤ (s.tdiv 10000 + 9223372036854775808) % 18446744073709551616 - 9223372036854775808 ∧ (s.tdiv 10000 + 9223372036854775808) % 18446744073709551616 - 9223372036854775808 ≤ 1 ∧
        (((k + 1 : Nat) : Int) ≤ al.length ∨ ((k + 1 : Nat) : Int) ≤ bl.length ∨ (s.tdiv 10000 + 9223372036854775808) % 18446744073709551616 - 9223372036854775808 = 0 ∧ (((k + 1 : Nat) : Int) ≤ al.length + 1 ∨ ((k + 1 : Nat) : Int) ≤ bl.length + 1)) ∧
        dval y + P4 (k + 1) * ((s.tdiv 10000 + 9223372036854775808) % 18446744073709551616 - 9223372036854775808 + dval (al.drop (k + 1)) + dval (bl.drop (k + 1))) = dval al + dval bl) := by
    intro s hs ho y hy
    have s0 : 0 ≤ s := by omega
    rw [Int.tmod_eq_emod_of_nonneg s0] at hy
    rw [Int.tdiv_eq_ediv_of_nonneg s0]
    have eq : (s / 10000 + 9223372036854775808) % 18446744073709551616 - 9223372036854775808 = s / 10000 := by omega
    rw [eq]
    subst hy
    refine ⟨by omega, by simp [hk], dig_snoc i2 (by omega) (by omega), by omega, by omega, ?_, ?_⟩
    · by_cases c1 : k < al.length
      · left; omega
      · by_cases c2 : k < bl.length
        · right; left; omega
        · have := rowAt_out (L := al) (i := k) (by omega) 0
          have := rowAt_out (L := bl) (i := k) (by omega) 0
          right; right; omega
    · rw [dval_snoc, hk]
      rw [dval_drop al k, dval_drop bl k] at i6
      have em : s = 10000 * (s / 10000) + s % 10000 := by omega
      have e2 : x6_1 + (Sy.rowAt al k 0 + 10000 * dval (al.drop (k + 1))) + (Sy.rowAt bl k 0 + 10000 * dval (bl.drop (k + 1))) = s + 10000 * dval (al.drop (k + 1)) + 10000 * dval (bl.drop (k + 1)) := by omega
      rw [e2] at i6
      simp only [P4]
      generalize s / 10000 = q at *
      generalize s % 10000 = r at *
      subst em
      grind
  repeat' (first | exact i2 | intro _ | refine And.intro ?_ ?_)
  all_goals first
    | omega
    | (rename_i n; exact n (step _ (by omega) (by omega) _ (by assumption)))
    | exact i2
    | (rw [List.drop_of_length_le (show al.length ≤ k by omega), List.drop_of_length_le (show bl.length ≤ k by omega)] at i6
       simp only [dval, Int.add_zero, Int.zero_add] at i6
       have : x6_1 = 0 := by omega
       rw [this] at i6
       omega)
end Go.Proofs.YtjemohphaeiaiaaGreatDoor.Fn
namespace Go.Proofs.YtjemohphaeiaiaaGreatDoor.Fn
open Go Go.RowKit Go.Proofs.YtjemohphaeiaiaaGreatDoor.Sy
set_option linter.unusedVariables false
set_option linter.unusedSimpArgs false
set_option maxRecDepth 100000
def t68 : Tr :=
  .br (.f (.rel 106802 [.lst 0 1, .lst 0 3, .num (.wrap .i64 (.bin .sub (.bin .mx (.len 0 1) (.len 0 3)) (.n 1)))] 65548 [.int .i64]) <|
   .br (.f (.is (.le (.n 0) (.v 65548 0)) true) <|
    .br (.f (.rel 70 [.tru (.v 0 0), .lst 0 1, .num (.v 65548 0)] 65553 [.int .i64]) <|
     .br (.f (.rel 70 [.tru (.v 0 2), .lst 0 3, .num (.v 65548 0)] 65556 [.int .i64]) <|
      .br (.f (.is (.lt (.v 65553 0) (.v 65556 0)) true) <|
       .ok [.num (.n (-1))])
      (.f (.is (.lt (.v 65553 0) (.v 65556 0)) false) <|
       .br (.f (.rel 70 [.tru (.v 0 0), .lst 0 1, .num (.v 65548 0)] 65560 [.int .i64]) <|
        .br (.f (.rel 70 [.tru (.v 0 2), .lst 0 3, .num (.v 65548 0)] 65563 [.int .i64]) <|
         .br (.f (.is (.lt (.v 65563 0) (.v 65560 0)) true) <|
          .ok [.num (.n 1)])
         (.f (.is (.lt (.v 65563 0) (.v 65560 0)) false) <|
          .br (.f (.nrel 106802 [.lst 0 1, .lst 0 3, .num (.wrap .i64 (.bin .sub (.bin .mx (.len 0 1) (.len 0 3)) (.n 1)))] [.num (.wrap .i64 (.bin .sub (.v 65548 0) (.n 1)))]) <|
           .bad)
          (.f (.ndec 106802 [.lst 0 1, .lst 0 3, .num (.wrap .i64 (.bin .sub (.bin .mx (.len 0 1) (.len 0 3)) (.n 1)))] [.num (.v 65548 0)] [.num (.wrap .i64 (.bin .sub (.v 65548 0) (.n 1)))]) <|
           .bad)))
        (.f (.npre 70 [.tru (.v 0 2), .lst 0 3, .num (.v 65548 0)]) <|
         .bad))
       (.f (.npre 70 [.tru (.v 0 0), .lst 0 1, .num (.v 65548 0)]) <|
        .bad)))
     (.f (.npre 70 [.tru (.v 0 2), .lst 0 3, .num (.v 65548 0)]) <|
      .bad))
    (.f (.npre 70 [.tru (.v 0 0), .lst 0 1, .num (.v 65548 0)]) <|
     .bad))
   (.f (.is (.le (.n 0) (.v 65548 0)) false) <|
    .ok [.num (.n 0)]))
  (.f (.nrel 106802 [.lst 0 1, .lst 0 3, .num (.wrap .i64 (.bin .sub (.bin .mx (.len 0 1) (.len 0 3)) (.n 1)))] [.num (.wrap .i64 (.bin .sub (.bin .mx (.len 0 1) (.len 0 3)) (.n 1)))]) <|
   .bad)
theorem c68 : ConS Tryz.prog T C68 := con_tr (cs := [C70]) (lcs := [L106802]) (known := []) (cons_cons c70 (cons_nil _ _)) (Known.nil _) (N := 400) (d := 40) (t := t68) (by kernel_rfl) <| by
  intro E hl hp
  have hl1 := hl 1 _ rfl
  have hl3 := hl 3 _ rfl
  clear hl
  have hp := hp rfl
  simp only [C68, show T.pre 68 = Q68 from rfl, flatS, SP.flat, dvs, List.append_nil, List.cons_append, List.nil_append, Q68, U64, U32, I64, Big, W, wv, s64, WT, PR, MR, MB] at hp
  simp only [t68, C68, Tr.good, Fact.den, LX.den, DX.ls, DV.ls, DX.den, Bx.den, Ex.den, eo_add, eo_sub, eo_mul, eo_quo, eo_rem, eo_fdv, eo_mn, eo_mx, eo_land, eo_lor, eo_lxor, eo_landn, eo_shl, eo_shr, dvs, flatS, SP.flat, ST.flat, List.map_cons, List.map_nil, List.append_nil, List.cons_append, List.nil_append, ltb_t, ltb_f, leb_t, leb_f, eqb_t, eqb_f, decide_eq_true_eq, decide_eq_false_iff_not, Bool.not_eq_true', Bool.not_eq_false', Bool.and_eq_true, Bool.and_eq_false_imp, beq_iff_eq, beq_eq_false_iff_ne, bne_iff_ne, U64, U32, I64, Big, W, wv, Told, s64, WT, PR, MR, MB, Int.zero_mul, Int.zero_add, Int.add_zero, Int.mul_zero, IntKind.wrap_u64, IntKind.wrap_i64, IntKind.wrap_u32, ne_eq, forall_const, true_implies, show T.rel 68 = R68 from rfl, R68, show T.rel 70 = R70 from rfl, R70, show T.rel 106802 = R106802 from rfl, R106802, show T.mu 106802 = M106802 from rfl, M106802, show T.pre 68 = Q68 from rfl, Q68, show T.pre 70 = Q70 from rfl, Q70]
  revert hp hl1 hl3
  generalize (E.r 0).c 0 = an
  generalize (E.r 0).l 1 = al
  generalize (E.r 0).c 2 = bn
  generalize (E.r 0).l 3 = bl
  generalize (E.r 65548).i 0 = x12_0
  generalize (E.r 65553).i 0 = x17_0
  generalize (E.r 65556).i 0 = x20_0
  generalize (E.r 65560).i 0 = x24_0
  generalize (E.r 65563).i 0 = x27_0
  try simp only [mxI, mnI]
  try simp only [ltb, leb, eqb, Int.lt_irrefl, decide_false, Int.le_refl, decide_true]
  intro hal hbl hp
  obtain ⟨da, db, la, lb⟩ := hp
  refine ⟨fun ⟨i0, i1, i2⟩ => ⟨fun h0 => ?_, fun h0 => ?_⟩, ?_⟩
  · obtain ⟨k, rfl⟩ := Int.eq_ofNat_of_zero_le h0
    have ek : ((k : Int) + 1).toNat = k + 1 := by omega
    rw [ek] at i2
    have ew : ((k : Int) - 1 + 9223372036854775808) % 18446744073709551616 - 9223372036854775808 = (k : Int) - 1 := by omega
    simp only [ew]
    refine ⟨fun e1 => ⟨fun e2 => ⟨fun h1 => ?_, fun h1 => ⟨fun e3 => ⟨fun e4 => ⟨fun h2 => ?_, fun h2 => ?_⟩, fun n => n h0⟩, fun n => n h0⟩⟩, fun n => n h0⟩, fun n => n h0⟩
    · have := dval_le_of_top da db i2 (by omega)
      exact ⟨fun _ => trivial, by omega, by omega⟩
    · have := dval_le_of_top db da i2.symm (by omega)
      exact ⟨by omega, by omega, fun _ => trivial⟩
    · refine ⟨fun n => n ⟨by omega, by omega, ?_⟩, by omega⟩
      have e5 : ((k : Int) - 1 + 1).toNat = k := by omega
      rw [e5, dval_drop al k, dval_drop bl k, i2]
      omega
  · have e0 : (x12_0 + 1).toNat = 0 := by omega
    rw [e0, List.drop_zero, List.drop_zero] at i2
    exact ⟨by omega, fun _ => trivial, by omega⟩
  · intro n
    apply n
    have e1 : al.drop (((if (bl.length : Int) > (al.length : Int) then (bl.length : Int) else (al.length : Int)) - 1 + 9223372036854775808) % 18446744073709551616 - 9223372036854775808 + 1).toNat = [] := List.drop_of_length_le (by split <;> omega)
    have e2 : bl.drop (((if (bl.length : Int) > (al.length : Int) then (bl.length : Int) else (al.length : Int)) - 1 + 9223372036854775808) % 18446744073709551616 - 9223372036854775808 + 1).toNat = [] := List.drop_of_length_le (by split <;> omega)
    rw [e1, e2]
    refine ⟨by split <;> omega, by split <;> omega, rfl⟩
end Go.Proofs.YtjemohphaeiaiaaGreatDoor.Fn
namespace Go.Proofs.YtjemohphaeiaiaaGreatDoor.Fn
open Go Go.RowKit Go.Proofs.YtjemohphaeiaiaaGreatDoor.Sy
set_option linter.unusedVariables false
set_option linter.unusedSimpArgs false
set_option maxRecDepth 100000
def t69 : Tr :=
  .br (.f (.rel 106904 [.lst 0 1, .lst 0 3, .rows [], .num (.n 0), .num (.n 0)] 65542 [.list [.int .i64], .int .i64, .int .i64]) <|
   .br (.f (.is (.lt (.v 65542 2) (.len 0 1)) false) <|
    .ok [.lst 65542 0])
   (.f (.is (.lt (.v 65542 2) (.len 0 1)) true) <|
    .br (.f (.is (.lt (.v 65542 2) (.n 0)) true) <|
     .bad)
    (.f (.is (.lt (.v 65542 2) (.n 0)) false) <|
     .br (.f (.npre 70 [.tru (.v 0 2), .lst 0 3, .num (.v 65542 2)]) <|
      .bad)
     (.f (.rel 70 [.tru (.v 0 2), .lst 0 3, .num (.v 65542 2)] 65555 [.int .i64]) <|
      .f (.is (.eq (.v 65560 0) (.wrap .i64 (.bin .sub (.wrap .i64 (.bin .sub (.at 0 1 (.v 65542 2) 0) (.v 65555 0))) (.v 65542 1)))) true) <|
       .br (.f (.is (.lt (.v 65560 0) (.n 0)) true) <|
        .br (.f (.is (.le (.len 65542 0) (.n 1000000000)) false) <|
         .bad)
        (.f (.is (.le (.len 65542 0) (.n 1000000000)) true) <|
         .f (.lseq 65571 (.app (.lst 65542 0) (.rows [[.wrap .i64 (.bin .add (.v 65560 0) (.n 10000))]]))) <|
          .br (.f (.nrel 106904 [.lst 0 1, .lst 0 3, .rows [], .num (.n 0), .num (.n 0)] [.lst 65571 0, .num (.n 1), .num (.wrap .i64 (.bin .add (.v 65542 2) (.n 1)))]) <|
           .bad)
          (.f (.ndec 106904 [.lst 0 1, .lst 0 3, .rows [], .num (.n 0), .num (.n 0)] [.lst 65542 0, .num (.v 65542 1), .num (.v 65542 2)] [.lst 65571 0, .num (.n 1), .num (.wrap .i64 (.bin .add (.v 65542 2) (.n 1)))]) <|
           .bad)))
       (.f (.is (.lt (.v 65560 0) (.n 0)) false) <|
        .br (.f (.is (.le (.len 65542 0) (.n 1000000000)) false) <|
         .bad)
        (.f (.is (.le (.len 65542 0) (.n 1000000000)) true) <|
         .f (.lseq 65567 (.app (.lst 65542 0) (.rows [[.v 65560 0]]))) <|
          .br (.f (.nrel 106904 [.lst 0 1, .lst 0 3, .rows [], .num (.n 0), .num (.n 0)] [.lst 65567 0, .num (.n 0), .num (.wrap .i64 (.bin .add (.v 65542 2) (.n 1)))]) <|
           .bad)
          (.f (.ndec 106904 [.lst 0 1, .lst 0 3, .rows [], .num (.n 0), .num (.n 0)] [.lst 65542 0, .num (.v 65542 1), .num (.v 65542 2)] [.lst 65567 0, .num (.n 0), .num (.wrap .i64 (.bin .add (.v 65542 2) (.n 1)))]) <|
           .bad)))))))
  (.f (.nrel 106904 [.lst 0 1, .lst 0 3, .rows [], .num (.n 0), .num (.n 0)] [.rows [], .num (.n 0), .num (.n 0)]) <|
   .bad)
theorem c69 : ConS Tryz.prog T C69 := con_tr (cs := [C70]) (lcs := [L106904]) (known := []) (cons_cons c70 (cons_nil _ _)) (Known.nil _) (N := 400) (d := 40) (t := t69) (by kernel_rfl) <| by
  intro E hl hp
  have hl1 := hl 1 _ rfl
  have hl3 := hl 3 _ rfl
  clear hl
  have hp := hp rfl
  simp only [C69, show T.pre 69 = Q69 from rfl, flatS, SP.flat, dvs, List.append_nil, List.cons_append, List.nil_append, Q69, U64, U32, I64, Big, W, wv, s64, WT, PR, MR, MB] at hp
  simp only [t69, C69, Tr.good, Fact.den, LX.den, DX.ls, DV.ls, DX.den, Bx.den, Ex.den, eo_add, eo_sub, eo_mul, eo_quo, eo_rem, eo_fdv, eo_mn, eo_mx, eo_land, eo_lor, eo_lxor, eo_landn, eo_shl, eo_shr, dvs, flatS, SP.flat, ST.flat, List.map_cons, List.map_nil, List.append_nil, List.cons_append, List.nil_append, ltb_t, ltb_f, leb_t, leb_f, eqb_t, eqb_f, decide_eq_true_eq, decide_eq_false_iff_not, Bool.not_eq_true', Bool.not_eq_false', Bool.and_eq_true, Bool.and_eq_false_imp, beq_iff_eq, beq_eq_false_iff_ne, bne_iff_ne, U64, U32, I64, Big, W, wv, Told, s64, WT, PR, MR, MB, Int.zero_mul, Int.zero_add, Int.add_zero, Int.mul_zero, IntKind.wrap_u64, IntKind.wrap_i64, IntKind.wrap_u32, ne_eq, forall_const, true_implies, show T.rel 69 = R69 from rfl, R69, show T.rel 70 = R70 from rfl, R70, show T.rel 106904 = R106904 from rfl, R106904, show T.mu 106904 = M106904 from rfl, M106904, show T.pre 69 = Q69 from rfl, Q69, show T.pre 70 = Q70 from rfl, Q70]
  revert hp hl1 hl3
  generalize (E.r 0).c 0 = an
  generalize (E.r 0).l 1 = al
  generalize (E.r 0).c 2 = bn
  generalize (E.r 0).l 3 = bl
  generalize (E.r 65542).l 0 = x6_0
  generalize (E.r 65542).i 1 = x6_1
  generalize (E.r 65542).i 2 = x6_2
  generalize (E.r 65555).i 0 = x19_0
  generalize (E.r 65560).i 0 = x24_0
  generalize (E.r 65567).l 0 = x31_0
  generalize (E.r 65571).l 0 = x35_0
  try simp only [mxI, mnI]
  try simp only [ltb, leb, eqb, Int.lt_irrefl, decide_false, Int.le_refl, decide_true]
  intro hal hbl hp
  obtain ⟨da, db, la, lb, lab⟩ := hp
  refine ⟨fun ⟨i0, i1, i2, i3, i4, i5, i6⟩ => ?_, fun n => n ⟨by first | trivial | omega, by first | trivial | omega, by first | trivial | rfl, dig_nil, by first | trivial | omega, by first | trivial | omega, by simp [dval, P4]⟩⟩
  obtain ⟨k, rfl⟩ := Int.eq_ofNat_of_zero_le i0
  have hk : x6_0.length = k := by omega
  have ew : ((k : Int) + 1 + 9223372036854775808) % 18446744073709551616 - 9223372036854775808 = ((k + 1 : Nat) : Int) := by omega
  simp only [ew, Int.toNat_natCast] at *
  have ra := da k
  have rb := db k
  have step : ∀ c s : Int, 0 ≤ c → c ≤ 1 → s = Sy.rowAt al k 0 - Sy.rowAt bl k 0 - x6_1 + 10000 * c → 0 ≤ s → s < 10000 → k < al.length → ∀ y : List (List Int), y = x6_0 ++ [[s]] →
      (0 ≤ ((k + 1 : Nat) : Int) ∧ ((k + 1 : Nat) : Int) ≤ al.length ∧ (y.length : Int) = ((k + 1 : Nat) : Int) ∧ dig y ∧ 0 ≤ c ∧ c ≤ 1 ∧ dval y + P4 (k + 1) * (dval (al.drop (k + 1)) - dval (bl.drop (k + 1)) - c) = dval al - dval bl) := by
    intro c s c0 c1 hs s0 s1 hl y hy
    subst hy
    refine ⟨by omega, by omega, by simp [hk], dig_snoc i3 s0 s1, c0, c1, ?_⟩
    rw [dval_snoc, hk]
    rw [dval_drop al k, dval_drop bl k] at i6
    have e2 : (Sy.rowAt al k 0 + 10000 * dval (al.drop (k + 1))) - (Sy.rowAt bl k 0 + 10000 * dval (bl.drop (k + 1))) - x6_1 = s + 10000 * (dval (al.drop (k + 1)) - dval (bl.drop (k + 1)) - c) := by omega
    rw [e2] at i6
    simp only [P4]
    grind
  have last : al.length ≤ k → dval x6_0 = dval al - dval bl := by
    intro hl
    rw [List.drop_of_length_le (show al.length ≤ k by omega)] at i6
    have d1 := dval_nonneg (dig_drop db k)
    have d2 := dval_lt i3
    rw [hk] at d2
    have p := P4_pos k
    by_cases hz : dval (bl.drop k) + x6_1 = 0
    · have e : dval [] - dval (bl.drop k) - x6_1 = 0 := by simp only [dval]; omega
      rw [e, Int.mul_zero] at i6
      omega
    · exfalso
      have e : dval [] - dval (bl.drop k) - x6_1 = -(dval (bl.drop k) + x6_1) := by simp only [dval]; omega
      rw [e, Int.mul_neg] at i6
      have := Int.mul_le_mul_of_nonneg_left (show 1 ≤ dval (bl.drop k) + x6_1 by omega) (show 0 ≤ P4 k by omega)
      omega
  repeat' (first | exact i3 | intro _ | refine And.intro ?_ ?_)
  all_goals first
    | omega
    | (rename_i h n; exact n (by simpa using step 0 _ (by omega) (by omega) (by omega) (by omega) (by omega) (by omega) _ h))
    | (rename_i h n; exact n (by simpa using step 1 _ (by omega) (by omega) (by omega) (by omega) (by omega) (by omega) _ h))
    | (have := last (by omega); omega)
end Go.Proofs.YtjemohphaeiaiaaGreatDoor.Fn
namespace Go.Proofs.YtjemohphaeiaiaaGreatDoor.Fn
open Go Go.RowKit Go.Proofs.YtjemohphaeiaiaaGreatDoor.Sy
set_option linter.unusedVariables false
set_option linter.unusedSimpArgs false
set_option maxRecDepth 100000
def t44 : Tr :=
  .br (.f (.is (.beq (.v 0 0) (.v 0 2)) true) <|
   .br (.f (.rel 67 [.tru (.v 0 0), .lst 0 1, .tru (.v 0 2), .lst 0 3] 65548 [.list [.int .i64]]) <|
    .br (.f (.rel 66 [.tru (.v 0 0), .lst 65548 0] 65550 [.bool, .list [.int .i64]]) <|
     .ok [.tru (.v 65550 0), .lst 65550 1])
    (.f (.npre 66 [.tru (.v 0 0), .lst 65548 0]) <|
     .bad))
   (.f (.npre 67 [.tru (.v 0 0), .lst 0 1, .tru (.v 0 2), .lst 0 3]) <|
    .bad))
  (.f (.is (.beq (.v 0 0) (.v 0 2)) false) <|
   .br (.f (.rel 68 [.tru (.v 0 0), .lst 0 1, .tru (.v 0 2), .lst 0 3] 65546 [.int .i64]) <|
    .br (.f (.is (.le (.n 0) (.v 65546 0)) true) <|
     .br (.f (.rel 69 [.tru (.v 0 0), .lst 0 1, .tru (.v 0 2), .lst 0 3] 65552 [.list [.int .i64]]) <|
      .br (.f (.rel 66 [.tru (.v 0 0), .lst 65552 0] 65554 [.bool, .list [.int .i64]]) <|
       .ok [.tru (.v 65554 0), .lst 65554 1])
      (.f (.npre 66 [.tru (.v 0 0), .lst 65552 0]) <|
       .bad))
     (.f (.npre 69 [.tru (.v 0 0), .lst 0 1, .tru (.v 0 2), .lst 0 3]) <|
      .bad))
    (.f (.is (.le (.n 0) (.v 65546 0)) false) <|
     .br (.f (.rel 69 [.tru (.v 0 2), .lst 0 3, .tru (.v 0 0), .lst 0 1] 65552 [.list [.int .i64]]) <|
      .br (.f (.rel 66 [.tru (.v 0 2), .lst 65552 0] 65554 [.bool, .list [.int .i64]]) <|
       .ok [.tru (.v 65554 0), .lst 65554 1])
      (.f (.npre 66 [.tru (.v 0 2), .lst 65552 0]) <|
       .bad))
     (.f (.npre 69 [.tru (.v 0 2), .lst 0 3, .tru (.v 0 0), .lst 0 1]) <|
      .bad)))
   (.f (.npre 68 [.tru (.v 0 0), .lst 0 1, .tru (.v 0 2), .lst 0 3]) <|
    .bad))
theorem c44 : ConS Tryz.prog T C44 := con_tr (cs := [C66, C67, C68, C69]) (lcs := []) (known := []) (cons_cons c66 (cons_cons c67 (cons_cons c68 (cons_cons c69 (cons_nil _ _))))) (Known.nil _) (N := 400) (d := 40) (t := t44) (by kernel_rfl) <| by
  intro E hl hp
  have hl1 := hl 1 _ rfl
  have hl3 := hl 3 _ rfl
  clear hl
  have hp := hp rfl
  simp only [C44, show T.pre 44 = Q44 from rfl, flatS, SP.flat, dvs, List.append_nil, List.cons_append, List.nil_append, Q44, U64, U32, I64, Big, W, wv, s64, WT, PR, MR, MB] at hp
  simp only [t44, C44, Tr.good, Fact.den, LX.den, DX.ls, DV.ls, DX.den, Bx.den, Ex.den, eo_add, eo_sub, eo_mul, eo_quo, eo_rem, eo_fdv, eo_mn, eo_mx, eo_land, eo_lor, eo_lxor, eo_landn, eo_shl, eo_shr, dvs, flatS, SP.flat, ST.flat, List.map_cons, List.map_nil, List.append_nil, List.cons_append, List.nil_append, ltb_t, ltb_f, leb_t, leb_f, eqb_t, eqb_f, decide_eq_true_eq, decide_eq_false_iff_not, Bool.not_eq_true', Bool.not_eq_false', Bool.and_eq_true, Bool.and_eq_false_imp, beq_iff_eq, beq_eq_false_iff_ne, bne_iff_ne, U64, U32, I64, Big, W, wv, Told, s64, WT, PR, MR, MB, Int.zero_mul, Int.zero_add, Int.add_zero, Int.mul_zero, IntKind.wrap_u64, IntKind.wrap_i64, IntKind.wrap_u32, ne_eq, forall_const, true_implies, show T.rel 44 = R44 from rfl, R44, show T.rel 66 = R66 from rfl, R66, show T.rel 67 = R67 from rfl, R67, show T.rel 68 = R68 from rfl, R68, show T.rel 69 = R69 from rfl, R69, show T.pre 44 = Q44 from rfl, Q44, show T.pre 66 = Q66 from rfl, Q66, show T.pre 67 = Q67 from rfl, Q67, show T.pre 68 = Q68 from rfl, Q68, show T.pre 69 = Q69 from rfl, Q69]
  revert hp hl1 hl3
  generalize (E.r 0).c 0 = an
  generalize (E.r 0).l 1 = al
  generalize (E.r 0).c 2 = bn
  generalize (E.r 0).l 3 = bl
  generalize (E.r 65546).i 0 = x10_0
  generalize (E.r 65548).l 0 = x12_0
  generalize (E.r 65550).c 0 = x14_0
  generalize (E.r 65550).l 1 = x14_1
  generalize (E.r 65552).l 0 = x16_0
  generalize (E.r 65554).c 0 = x18_0
  generalize (E.r 65554).l 1 = x18_1
  try simp only [mxI, mnI]
  try simp only [ltb, leb, eqb, Int.lt_irrefl, decide_false, Int.le_refl, decide_true]
  intro hal hbl hp
  have la := Bg.len hp.1
  have lb := Bg.len hp.2
  have da := hp.1.1.1
  have db := hp.2.1.1
  refine ⟨fun h => ⟨fun e1 => ⟨fun e2 => ⟨e2.1, ?_⟩, fun n => n ⟨e1.1, by omega⟩⟩, fun n => n ⟨da, db, by omega, by omega⟩⟩, fun h => ⟨fun e0 => ⟨fun c => ⟨fun e1 => ⟨fun e2 => ⟨e2.1, ?_⟩, fun n => n ⟨e1.1, by omega⟩⟩, fun n => n ⟨da, db, by omega, by omega, by omega⟩⟩, fun c => ⟨fun e1 => ⟨fun e2 => ⟨e2.1, ?_⟩, fun n => n ⟨e1.1, by omega⟩⟩, fun n => n ⟨db, da, by omega, by omega, by omega⟩⟩⟩, fun n => n ⟨da, db, by omega, by omega⟩⟩⟩
  · rw [e2.2]
    subst h
    cases an <;> simp only [bval, cond_true, cond_false, e1.2.1] <;> omega
  · rw [e2.2]
    cases an <;> cases bn <;> simp_all [bval] <;> omega
  · rw [e2.2]
    cases an <;> cases bn <;> simp_all [bval] <;> omega
end Go.Proofs.YtjemohphaeiaiaaGreatDoor.Fn
namespace Go.Proofs.YtjemohphaeiaiaaGreatDoor.Fn
open Go Go.RowKit Go.Proofs.YtjemohphaeiaiaaGreatDoor.Sy
set_option linter.unusedVariables false
set_option linter.unusedSimpArgs false
set_option maxRecDepth 100000
def t45 : Tr :=
  .br (.f (.rel 104502 [.num (.v 0 0), .rows []] 65538 [.int .u64, .list [.int .i64]]) <|
   .br (.f (.is (.lt (.n 0) (.v 65538 0)) false) <|
    .ok [.tru (.lt (.n 0) (.n 0)), .lst 65538 1])
   (.f (.is (.lt (.n 0) (.v 65538 0)) true) <|
    .br (.f (.is (.le (.len 65538 1) (.n 1000000000)) false) <|
     .bad)
    (.f (.is (.le (.len 65538 1) (.n 1000000000)) true) <|
     .f (.lseq 65547 (.app (.lst 65538 1) (.rows [[.wrap .i64 (.bin .rem (.v 65538 0) (.n 10000))]]))) <|
      .br (.f (.nrel 104502 [.num (.v 0 0), .rows []] [.num (.wrap .u64 (.bin .quo (.v 65538 0) (.n 10000))), .lst 65547 0]) <|
       .bad)
      (.f (.ndec 104502 [.num (.v 0 0), .rows []] [.num (.v 65538 0), .lst 65538 1] [.num (.wrap .u64 (.bin .quo (.v 65538 0) (.n 10000))), .lst 65547 0]) <|
       .bad))))
  (.f (.nrel 104502 [.num (.v 0 0), .rows []] [.num (.v 0 0), .rows []]) <|
   .bad)
theorem c45 : ConS Tryz.prog T C45 := con_tr (cs := []) (lcs := [L104502]) (known := []) (cons_nil _ _) (Known.nil _) (N := 400) (d := 40) (t := t45) (by kernel_rfl) <| by
  intro E hl hp
  clear hl
  have hp := hp rfl
  simp only [C45, show T.pre 45 = Q45 from rfl, flatS, SP.flat, dvs, List.append_nil, List.cons_append, List.nil_append, Q45, U64, U32, I64, Big, W, wv, s64, WT, PR, MR, MB] at hp
  simp only [t45, C45, Tr.good, Fact.den, LX.den, DX.ls, DV.ls, DX.den, Bx.den, Ex.den, eo_add, eo_sub, eo_mul, eo_quo, eo_rem, eo_fdv, eo_mn, eo_mx, eo_land, eo_lor, eo_lxor, eo_landn, eo_shl, eo_shr, dvs, flatS, SP.flat, ST.flat, List.map_cons, List.map_nil, List.append_nil, List.cons_append, List.nil_append, ltb_t, ltb_f, leb_t, leb_f, eqb_t, eqb_f, decide_eq_true_eq, decide_eq_false_iff_not, Bool.not_eq_true', Bool.not_eq_false', Bool.and_eq_true, Bool.and_eq_false_imp, beq_iff_eq, beq_eq_false_iff_ne, bne_iff_ne, U64, U32, I64, Big, W, wv, Told, s64, WT, PR, MR, MB, Int.zero_mul, Int.zero_add, Int.add_zero, Int.mul_zero, IntKind.wrap_u64, IntKind.wrap_i64, IntKind.wrap_u32, ne_eq, forall_const, true_implies, show T.rel 45 = R45 from rfl, R45, show T.rel 104502 = R104502 from rfl, R104502, show T.mu 104502 = M104502 from rfl, M104502, show T.pre 45 = Q45 from rfl, Q45]
  revert hp
  generalize (E.r 0).i 0 = x
  generalize (E.r 65538).i 0 = x2_0
  generalize (E.r 65538).l 1 = x2_1
  generalize (E.r 65547).l 0 = x11_0
  try simp only [mxI, mnI]
  try simp only [ltb, leb, eqb, Int.lt_irrefl, decide_false, Int.le_refl, decide_true]
  intro hp
  refine ⟨fun ⟨i0, i1, i2, i3⟩ => ?_, fun n => n ⟨hp.1, dig_nil, by simp [dval, P4], by simp⟩⟩
  simp only [dval, Int.add_zero] at i2
  have p := P4_pos x2_1.length
  have d0 := dval_nonneg i1
  refine ⟨fun h => ?_, fun h => ?_⟩
  · have e : x2_0 = 0 := by omega
    rw [e, Int.mul_zero, Int.add_zero] at i2
    exact ⟨⟨i1, fun h => i3 e (by omega), by simp⟩, by simp only [bval, cond_false]; exact i2⟩
  · have l5 : x2_1.length < 5 := by
      refine Classical.byContradiction fun hn => ?_
      have a := P4_mono (show 5 ≤ x2_1.length by omega)
      have b : P4 5 = 100000000000000000000 := by decide
      have c := Int.mul_le_mul_of_nonneg_left (show 1 ≤ x2_0 by omega) (show 0 ≤ P4 x2_1.length by omega)
      omega
    have r0 := Int.emod_nonneg x2_0 (show (10000 : Int) ≠ 0 by omega)
    have r1 := Int.emod_lt_of_pos x2_0 (show (0 : Int) < 10000 by omega)
    have bnd : x2_0 < 18446744073709551616 := by
      have c := Int.mul_le_mul_of_nonneg_right (show 1 ≤ P4 x2_1.length by omega) (show 0 ≤ x2_0 by omega)
      omega
    rw [Int.tmod_eq_emod_of_nonneg i0, Int.tdiv_eq_ediv_of_nonneg i0]
    have e1 : (x2_0 % 10000 + 9223372036854775808) % 18446744073709551616 - 9223372036854775808 = x2_0 % 10000 := by omega
    have e2 : x2_0 / 10000 % 18446744073709551616 = x2_0 / 10000 := by omega
    simp only [e1, e2]
    refine ⟨by omega, fun _ e => ?_⟩
    subst e
    refine ⟨fun n => n ⟨by omega, dig_snoc i1 r0 r1, ?_, fun h5 _ => ?_⟩, by omega⟩
    · rw [dval_snoc, List.length_append, List.length_singleton, P4_add]
      simp only [P4, dval]
      have em : x2_0 = 10000 * (x2_0 / 10000) + x2_0 % 10000 := by omega
      generalize x2_0 / 10000 = q at *
      generalize x2_0 % 10000 = r at *
      subst em
      grind
    · rw [List.length_append, List.length_singleton, show ((x2_1.length + 1 : Nat) : Int) - 1 = x2_1.length by omega, rowAt_snoc]
      omega
end Go.Proofs.YtjemohphaeiaiaaGreatDoor.Fn
namespace Go.Proofs.YtjemohphaeiaiaaGreatDoor.Fn
open Go Go.RowKit Go.Proofs.YtjemohphaeiaiaaGreatDoor.Sy
set_option linter.unusedVariables false
set_option linter.unusedSimpArgs false
set_option maxRecDepth 100000
def t54 : Tr :=
  .br (.f (.is (.eq (.len 0 1) (.n 0)) true) <|
   .ok [.num (.n 0)])
  (.f (.is (.eq (.len 0 1) (.n 0)) false) <|
   .br (.f (.is (.v 0 0) true) <|
    .ok [.num (.n (-1))])
   (.f (.is (.v 0 0) false) <|
    .ok [.num (.n 1)]))
theorem c54 : ConS Tryz.prog T C54 := con_tr (cs := []) (lcs := []) (known := []) (cons_nil _ _) (Known.nil _) (N := 400) (d := 40) (t := t54) (by kernel_rfl) <| by
  intro E hl hp
  have hl1 := hl 1 _ rfl
  clear hl
  have hp := hp rfl
  simp only [C54, show T.pre 54 = Q54 from rfl, flatS, SP.flat, dvs, List.append_nil, List.cons_append, List.nil_append, Q54, U64, U32, I64, Big, W, wv, s64, WT, PR, MR, MB] at hp
  simp only [t54, C54, Tr.good, Fact.den, LX.den, DX.ls, DV.ls, DX.den, Bx.den, Ex.den, eo_add, eo_sub, eo_mul, eo_quo, eo_rem, eo_fdv, eo_mn, eo_mx, eo_land, eo_lor, eo_lxor, eo_landn, eo_shl, eo_shr, dvs, flatS, SP.flat, ST.flat, List.map_cons, List.map_nil, List.append_nil, List.cons_append, List.nil_append, ltb_t, ltb_f, leb_t, leb_f, eqb_t, eqb_f, decide_eq_true_eq, decide_eq_false_iff_not, Bool.not_eq_true', Bool.not_eq_false', Bool.and_eq_true, Bool.and_eq_false_imp, beq_iff_eq, beq_eq_false_iff_ne, bne_iff_ne, U64, U32, I64, Big, W, wv, Told, s64, WT, PR, MR, MB, Int.zero_mul, Int.zero_add, Int.add_zero, Int.mul_zero, IntKind.wrap_u64, IntKind.wrap_i64, IntKind.wrap_u32, ne_eq, forall_const, true_implies, show T.rel 54 = R54 from rfl, R54, show T.pre 54 = Q54 from rfl, Q54]
  revert hp hl1
  generalize (E.r 0).c 0 = n
  generalize (E.r 0).l 1 = l
  try simp only [mxI, mnI]
  try simp only [ltb, leb, eqb, Int.lt_irrefl, decide_false, Int.le_refl, decide_true]
  intro hl hp
  have z := hp.zero
  have q := hp.pos
  refine ⟨fun h => ?_, fun h => ⟨fun h2 => ?_, fun h2 => ?_⟩⟩
  · have := z.2 (by omega)
    exact ⟨by omega, fun _ => trivial, by omega⟩
  · have := q.2.2 ⟨by omega, h2⟩
    exact ⟨fun _ => trivial, by omega, by omega⟩
  · have := q.1.2 ⟨by omega, h2⟩
    exact ⟨by omega, by omega, fun _ => trivial⟩
end Go.Proofs.YtjemohphaeiaiaaGreatDoor.Fn
namespace Go.Proofs.YtjemohphaeiaiaaGreatDoor.Fn
open Go Go.RowKit Go.Proofs.YtjemohphaeiaiaaGreatDoor.Sy
set_option linter.unusedVariables false
set_option linter.unusedSimpArgs false
set_option maxRecDepth 100000
def t76 : Tr :=
  .br (.f (.rel 66 [.tru (.not (.v 0 0)), .lst 0 1] 65544 [.bool, .list [.int .i64]]) <|
   .ok [.tru (.v 65544 0), .lst 65544 1])
  (.f (.npre 66 [.tru (.not (.v 0 0)), .lst 0 1]) <|
   .bad)
theorem c76 : ConS Tryz.prog T C76 := con_tr (cs := [C66]) (lcs := []) (known := []) (cons_cons c66 (cons_nil _ _)) (Known.nil _) (N := 400) (d := 40) (t := t76) (by kernel_rfl) <| by
  intro E hl hp
  have hl1 := hl 1 _ rfl
  clear hl
  have hp := hp rfl
  simp only [C76, show T.pre 76 = Q76 from rfl, flatS, SP.flat, dvs, List.append_nil, List.cons_append, List.nil_append, Q76, U64, U32, I64, Big, W, wv, s64, WT, PR, MR, MB] at hp
  simp only [t76, C76, Tr.good, Fact.den, LX.den, DX.ls, DV.ls, DX.den, Bx.den, Ex.den, eo_add, eo_sub, eo_mul, eo_quo, eo_rem, eo_fdv, eo_mn, eo_mx, eo_land, eo_lor, eo_lxor, eo_landn, eo_shl, eo_shr, dvs, flatS, SP.flat, ST.flat, List.map_cons, List.map_nil, List.append_nil, List.cons_append, List.nil_append, ltb_t, ltb_f, leb_t, leb_f, eqb_t, eqb_f, decide_eq_true_eq, decide_eq_false_iff_not, Bool.not_eq_true', Bool.not_eq_false', Bool.and_eq_true, Bool.and_eq_false_imp, beq_iff_eq, beq_eq_false_iff_ne, bne_iff_ne, U64, U32, I64, Big, W, wv, Told, s64, WT, PR, MR, MB, Int.zero_mul, Int.zero_add, Int.add_zero, Int.mul_zero, IntKind.wrap_u64, IntKind.wrap_i64, IntKind.wrap_u32, ne_eq, forall_const, true_implies, show T.rel 66 = R66 from rfl, R66, show T.rel 76 = R76 from rfl, R76, show T.pre 66 = Q66 from rfl, Q66, show T.pre 76 = Q76 from rfl, Q76]
  revert hp hl1
  generalize (E.r 0).c 0 = n
  generalize (E.r 0).l 1 = l
  generalize (E.r 65544).c 0 = x8_0
  generalize (E.r 65544).l 1 = x8_1
  try simp only [mxI, mnI]
  try simp only [ltb, leb, eqb, Int.lt_irrefl, decide_false, Int.le_refl, decide_true]
  intro hl hp
  have := Bg.len hp
  refine ⟨fun h => ⟨h.1, ?_⟩, fun h => h ⟨hp.1.1, by omega⟩⟩
  rw [h.2]
  cases n <;> simp [bval]
end Go.Proofs.YtjemohphaeiaiaaGreatDoor.Fn
namespace Go.Proofs.YtjemohphaeiaiaaGreatDoor.Fn
open Go Go.RowKit Go.Proofs.YtjemohphaeiaiaaGreatDoor.Sy
set_option linter.unusedVariables false
set_option linter.unusedSimpArgs false
set_option maxRecDepth 100000
def t75 : Tr :=
  .br (.f (.rel 76 [.tru (.v 0 2), .lst 0 3] 65541 [.bool, .list [.int .i64]]) <|
   .br (.f (.rel 44 [.tru (.v 0 0), .lst 0 1, .tru (.v 65541 0), .lst 65541 1] 65542 [.bool, .list [.int .i64]]) <|
    .ok [.tru (.v 65542 0), .lst 65542 1])
   (.f (.npre 44 [.tru (.v 0 0), .lst 0 1, .tru (.v 65541 0), .lst 65541 1]) <|
    .bad))
  (.f (.npre 76 [.tru (.v 0 2), .lst 0 3]) <|
   .bad)
theorem c75 : ConS Tryz.prog T C75 := con_tr (cs := [C44, C76]) (lcs := []) (known := []) (cons_cons c44 (cons_cons c76 (cons_nil _ _))) (Known.nil _) (N := 400) (d := 40) (t := t75) (by kernel_rfl) <| by
  intro E hl hp
  have hl1 := hl 1 _ rfl
  have hl3 := hl 3 _ rfl
  clear hl
  have hp := hp rfl
  simp only [C75, show T.pre 75 = Q75 from rfl, flatS, SP.flat, dvs, List.append_nil, List.cons_append, List.nil_append, Q75, U64, U32, I64, Big, W, wv, s64, WT, PR, MR, MB] at hp
  simp only [t75, C75, Tr.good, Fact.den, LX.den, DX.ls, DV.ls, DX.den, Bx.den, Ex.den, eo_add, eo_sub, eo_mul, eo_quo, eo_rem, eo_fdv, eo_mn, eo_mx, eo_land, eo_lor, eo_lxor, eo_landn, eo_shl, eo_shr, dvs, flatS, SP.flat, ST.flat, List.map_cons, List.map_nil, List.append_nil, List.cons_append, List.nil_append, ltb_t, ltb_f, leb_t, leb_f, eqb_t, eqb_f, decide_eq_true_eq, decide_eq_false_iff_not, Bool.not_eq_true', Bool.not_eq_false', Bool.and_eq_true, Bool.and_eq_false_imp, beq_iff_eq, beq_eq_false_iff_ne, bne_iff_ne, U64, U32, I64, Big, W, wv, Told, s64, WT, PR, MR, MB, Int.zero_mul, Int.zero_add, Int.add_zero, Int.mul_zero, IntKind.wrap_u64, IntKind.wrap_i64, IntKind.wrap_u32, ne_eq, forall_const, true_implies, show T.rel 44 = R44 from rfl, R44, show T.rel 75 = R75 from rfl, R75, show T.rel 76 = R76 from rfl, R76, show T.pre 44 = Q44 from rfl, Q44, show T.pre 75 = Q75 from rfl, Q75, show T.pre 76 = Q76 from rfl, Q76]
  revert hp hl1 hl3
  generalize (E.r 0).c 0 = an
  generalize (E.r 0).l 1 = al
  generalize (E.r 0).c 2 = bn
  generalize (E.r 0).l 3 = bl
  generalize (E.r 65541).c 0 = x5_0
  generalize (E.r 65541).l 1 = x5_1
  generalize (E.r 65542).c 0 = x6_0
  generalize (E.r 65542).l 1 = x6_1
  try simp only [mxI, mnI]
  try simp only [ltb, leb, eqb, Int.lt_irrefl, decide_false, Int.le_refl, decide_true]
  intro hal hbl hp
  refine ⟨fun e => ⟨fun e2 => ⟨e2.1, by rw [e2.2, e.2]; omega⟩, fun n => n ⟨hp.1, e.1, by rw [e.2]; omega, by rw [e.2]; omega⟩⟩, fun n => n hp.2⟩
end Go.Proofs.YtjemohphaeiaiaaGreatDoor.Fn
namespace Go.Proofs.YtjemohphaeiaiaaGreatDoor.Fn
open Go Go.RowKit Go.Proofs.YtjemohphaeiaiaaGreatDoor.Sy
set_option linter.unusedVariables false
set_option linter.unusedSimpArgs false
set_option maxRecDepth 100000
def t55 : Tr :=
  .br (.f (.rel 75 [.tru (.v 0 0), .lst 0 1, .tru (.v 0 2), .lst 0 3] 65541 [.bool, .list [.int .i64]]) <|
   .br (.f (.rel 54 [.tru (.v 65541 0), .lst 65541 1] 65542 [.int .i64]) <|
    .ok [.num (.v 65542 0)])
   (.f (.npre 54 [.tru (.v 65541 0), .lst 65541 1]) <|
    .bad))
  (.f (.npre 75 [.tru (.v 0 0), .lst 0 1, .tru (.v 0 2), .lst 0 3]) <|
   .bad)
theorem c55 : ConS Tryz.prog T C55 := con_tr (cs := [C54, C75]) (lcs := []) (known := []) (cons_cons c54 (cons_cons c75 (cons_nil _ _))) (Known.nil _) (N := 400) (d := 40) (t := t55) (by kernel_rfl) <| by
  intro E hl hp
  have hl1 := hl 1 _ rfl
  have hl3 := hl 3 _ rfl
  clear hl
  have hp := hp rfl
  simp only [C55, show T.pre 55 = Q55 from rfl, flatS, SP.flat, dvs, List.append_nil, List.cons_append, List.nil_append, Q55, U64, U32, I64, Big, W, wv, s64, WT, PR, MR, MB] at hp
  simp only [t55, C55, Tr.good, Fact.den, LX.den, DX.ls, DV.ls, DX.den, Bx.den, Ex.den, eo_add, eo_sub, eo_mul, eo_quo, eo_rem, eo_fdv, eo_mn, eo_mx, eo_land, eo_lor, eo_lxor, eo_landn, eo_shl, eo_shr, dvs, flatS, SP.flat, ST.flat, List.map_cons, List.map_nil, List.append_nil, List.cons_append, List.nil_append, ltb_t, ltb_f, leb_t, leb_f, eqb_t, eqb_f, decide_eq_true_eq, decide_eq_false_iff_not, Bool.not_eq_true', Bool.not_eq_false', Bool.and_eq_true, Bool.and_eq_false_imp, beq_iff_eq, beq_eq_false_iff_ne, bne_iff_ne, U64, U32, I64, Big, W, wv, Told, s64, WT, PR, MR, MB, Int.zero_mul, Int.zero_add, Int.add_zero, Int.mul_zero, IntKind.wrap_u64, IntKind.wrap_i64, IntKind.wrap_u32, ne_eq, forall_const, true_implies, show T.rel 54 = R54 from rfl, R54, show T.rel 55 = R55 from rfl, R55, show T.rel 75 = R75 from rfl, R75, show T.pre 54 = Q54 from rfl, Q54, show T.pre 55 = Q55 from rfl, Q55, show T.pre 75 = Q75 from rfl, Q75]
  revert hp hl1 hl3
  generalize (E.r 0).c 0 = an
  generalize (E.r 0).l 1 = al
  generalize (E.r 0).c 2 = bn
  generalize (E.r 0).l 3 = bl
  generalize (E.r 65541).c 0 = x5_0
  generalize (E.r 65541).l 1 = x5_1
  generalize (E.r 65542).i 0 = x6_0
  try simp only [mxI, mnI]
  try simp only [ltb, leb, eqb, Int.lt_irrefl, decide_false, Int.le_refl, decide_true]
  intro hal hbl hp
  refine ⟨fun e => ⟨fun e2 => ?_, fun n => n e.1⟩, fun n => n hp⟩
  rw [e.2] at e2
  omega
end Go.Proofs.YtjemohphaeiaiaaGreatDoor.Fn
namespace Go.Proofs.YtjemohphaeiaiaaGreatDoor.Fn
open Go Go.RowKit Go.Proofs.YtjemohphaeiaiaaGreatDoor.Sy
set_option linter.unusedVariables false
set_option linter.unusedSimpArgs false
set_option maxRecDepth 100000
def t77 : Tr :=
  .br (.f (.is (.le (.n 0) (.v 0 0)) true) <|
   .br (.f (.rel 45 [.num (.wrap .u64 (.v 0 0))] 65541 [.bool, .list [.int .i64]]) <|
    .ok [.tru (.v 65541 0), .lst 65541 1])
   (.f (.npre 45 [.num (.wrap .u64 (.v 0 0))]) <|
    .bad))
  (.f (.is (.le (.n 0) (.v 0 0)) false) <|
   .br (.f (.rel 45 [.num (.wrap .u64 (.bin .add (.wrap .u64 (.wrap .i64 (.bin .sub (.n 0) (.wrap .i64 (.bin .add (.v 0 0) (.n 1)))))) (.n 1)))] 65544 [.bool, .list [.int .i64]]) <|
    .f (.is (.eq (.v 65547 0) (.wrap .i64 (.bin .sub (.n 0) (.wrap .i64 (.bin .add (.v 0 0) (.n 1)))))) true) <|
     .ok [.tru (.le (.n 0) (.n 0)), .lst 65544 1])
   (.f (.npre 45 [.num (.wrap .u64 (.bin .add (.wrap .u64 (.wrap .i64 (.bin .sub (.n 0) (.wrap .i64 (.bin .add (.v 0 0) (.n 1)))))) (.n 1)))]) <|
    .bad))
theorem c77 : ConS Tryz.prog T C77 := con_tr (cs := [C45]) (lcs := []) (known := []) (cons_cons c45 (cons_nil _ _)) (Known.nil _) (N := 400) (d := 40) (t := t77) (by kernel_rfl) <| by
  intro E hl hp
  clear hl
  have hp := hp rfl
  simp only [C77, show T.pre 77 = Q77 from rfl, flatS, SP.flat, dvs, List.append_nil, List.cons_append, List.nil_append, Q77, U64, U32, I64, Big, W, wv, s64, WT, PR, MR, MB] at hp
  simp only [t77, C77, Tr.good, Fact.den, LX.den, DX.ls, DV.ls, DX.den, Bx.den, Ex.den, eo_add, eo_sub, eo_mul, eo_quo, eo_rem, eo_fdv, eo_mn, eo_mx, eo_land, eo_lor, eo_lxor, eo_landn, eo_shl, eo_shr, dvs, flatS, SP.flat, ST.flat, List.map_cons, List.map_nil, List.append_nil, List.cons_append, List.nil_append, ltb_t, ltb_f, leb_t, leb_f, eqb_t, eqb_f, decide_eq_true_eq, decide_eq_false_iff_not, Bool.not_eq_true', Bool.not_eq_false', Bool.and_eq_true, Bool.and_eq_false_imp, beq_iff_eq, beq_eq_false_iff_ne, bne_iff_ne, U64, U32, I64, Big, W, wv, Told, s64, WT, PR, MR, MB, Int.zero_mul, Int.zero_add, Int.add_zero, Int.mul_zero, IntKind.wrap_u64, IntKind.wrap_i64, IntKind.wrap_u32, ne_eq, forall_const, true_implies, show T.rel 45 = R45 from rfl, R45, show T.rel 77 = R77 from rfl, R77, show T.pre 45 = Q45 from rfl, Q45, show T.pre 77 = Q77 from rfl, Q77]
  revert hp
  generalize (E.r 0).i 0 = x
  generalize (E.r 65541).c 0 = x5_0
  generalize (E.r 65541).l 1 = x5_1
  generalize (E.r 65544).c 0 = x8_0
  generalize (E.r 65544).l 1 = x8_1
  generalize (E.r 65547).i 0 = x11_0
  try simp only [mxI, mnI]
  try simp only [ltb, leb, eqb, Int.lt_irrefl, decide_false, Int.le_refl, decide_true]
  intro hp
  refine ⟨fun h => ⟨fun e => ⟨e.1, by rw [e.2]; omega⟩, by omega⟩, fun h => ⟨fun e h2 => ?_, by omega⟩⟩
  have ev : (((0 - ((x + 1 + 9223372036854775808) % 18446744073709551616 - 9223372036854775808) + 9223372036854775808) % 18446744073709551616 - 9223372036854775808) % 18446744073709551616 + 1) % 18446744073709551616 = -x := by omega
  rw [ev] at e
  have pz := e.1.pos
  have b := bval_abs (n := true) e.1.1
  have b2 := bval_abs (n := x8_0) e.1.1
  have nz : x8_1.length ≠ 0 := (pz.1.1 (by omega)).1
  have e8 : x8_0 = false := (pz.1.1 (by omega)).2
  refine ⟨⟨e.1.1, e.1.h, fun h => absurd h nz⟩, ?_⟩
  rw [b.1 rfl, ← b2.2 e8]
  omega
end Go.Proofs.YtjemohphaeiaiaaGreatDoor.Fn
namespace Go.Proofs.YtjemohphaeiaiaaGreatDoor.Fn
open Go Go.RowKit Go.Proofs.YtjemohphaeiaiaaGreatDoor.Sy
set_option linter.unusedVariables false
set_option linter.unusedSimpArgs false
set_option maxRecDepth 100000
def t56 : Tr :=
  .br (.f (.rel 77 [.num (.n 1)] 65537 [.bool, .list [.int .i64]]) <|
   .br (.f (.rel 105603 [.num (.v 0 0), .tru (.v 65537 0), .lst 65537 1, .num (.n 0)] 65541 [.bool, .list [.int .i64], .int .i64]) <|
    .br (.f (.is (.lt (.v 65541 2) (.v 0 0)) false) <|
     .ok [.tru (.v 65541 0), .lst 65541 1])
    (.f (.is (.lt (.v 65541 2) (.v 0 0)) true) <|
     .br (.f (.npre 44 [.tru (.v 65541 0), .lst 65541 1, .tru (.v 65541 0), .lst 65541 1]) <|
      .bad)
     (.f (.rel 44 [.tru (.v 65541 0), .lst 65541 1, .tru (.v 65541 0), .lst 65541 1] 65547 [.bool, .list [.int .i64]]) <|
      .br (.f (.nrel 105603 [.num (.v 0 0), .tru (.v 65537 0), .lst 65537 1, .num (.n 0)] [.tru (.v 65547 0), .lst 65547 1, .num (.wrap .i64 (.bin .add (.v 65541 2) (.n 1)))]) <|
       .bad)
      (.f (.ndec 105603 [.num (.v 0 0), .tru (.v 65537 0), .lst 65537 1, .num (.n 0)] [.tru (.v 65541 0), .lst 65541 1, .num (.v 65541 2)] [.tru (.v 65547 0), .lst 65547 1, .num (.wrap .i64 (.bin .add (.v 65541 2) (.n 1)))]) <|
       .bad))))
   (.f (.nrel 105603 [.num (.v 0 0), .tru (.v 65537 0), .lst 65537 1, .num (.n 0)] [.tru (.v 65537 0), .lst 65537 1, .num (.n 0)]) <|
    .bad))
  (.f (.npre 77 [.num (.n 1)]) <|
   .bad)
theorem c56 : ConS Tryz.prog T C56 := con_tr (cs := [C44, C77]) (lcs := [L105603]) (known := []) (cons_cons c44 (cons_cons c77 (cons_nil _ _))) (Known.nil _) (N := 400) (d := 40) (t := t56) (by kernel_rfl) <| by
  intro E hl hp
  clear hl
  have hp := hp rfl
  simp only [C56, show T.pre 56 = Q56 from rfl, flatS, SP.flat, dvs, List.append_nil, List.cons_append, List.nil_append, Q56, U64, U32, I64, Big, W, wv, s64, WT, PR, MR, MB] at hp
  simp only [t56, C56, Tr.good, Fact.den, LX.den, DX.ls, DV.ls, DX.den, Bx.den, Ex.den, eo_add, eo_sub, eo_mul, eo_quo, eo_rem, eo_fdv, eo_mn, eo_mx, eo_land, eo_lor, eo_lxor, eo_landn, eo_shl, eo_shr, dvs, flatS, SP.flat, ST.flat, List.map_cons, List.map_nil, List.append_nil, List.cons_append, List.nil_append, ltb_t, ltb_f, leb_t, leb_f, eqb_t, eqb_f, decide_eq_true_eq, decide_eq_false_iff_not, Bool.not_eq_true', Bool.not_eq_false', Bool.and_eq_true, Bool.and_eq_false_imp, beq_iff_eq, beq_eq_false_iff_ne, bne_iff_ne, U64, U32, I64, Big, W, wv, Told, s64, WT, PR, MR, MB, Int.zero_mul, Int.zero_add, Int.add_zero, Int.mul_zero, IntKind.wrap_u64, IntKind.wrap_i64, IntKind.wrap_u32, ne_eq, forall_const, true_implies, show T.rel 44 = R44 from rfl, R44, show T.rel 56 = R56 from rfl, R56, show T.rel 77 = R77 from rfl, R77, show T.rel 105603 = R105603 from rfl, R105603, show T.mu 105603 = M105603 from rfl, M105603, show T.pre 44 = Q44 from rfl, Q44, show T.pre 56 = Q56 from rfl, Q56, show T.pre 77 = Q77 from rfl, Q77]
  revert hp
  generalize (E.r 0).i 0 = n
  generalize (E.r 65537).c 0 = x1_0
  generalize (E.r 65537).l 1 = x1_1
  generalize (E.r 65541).c 0 = x5_0
  generalize (E.r 65541).l 1 = x5_1
  generalize (E.r 65541).i 2 = x5_2
  generalize (E.r 65547).c 0 = x11_0
  generalize (E.r 65547).l 1 = x11_1
  try simp only [mxI, mnI]
  try simp only [ltb, leb, eqb, Int.lt_irrefl, decide_false, Int.le_refl, decide_true]
  intro hp
  refine ⟨fun e1 => ⟨fun ⟨i0, i1, i2, i3⟩ => ⟨fun c => ?_, fun c => ?_⟩, fun n => n ⟨trivial, by omega, e1.1, e1.2⟩⟩, by omega⟩
  · have : x5_2 = n := by omega
    subst this
    exact ⟨i2, i3⟩
  · have p0 := p2_pos x5_2.toNat
    have p1 := p2_mono (show x5_2.toNat ≤ 200 by omega)
    rw [p2_200] at p1
    have ew : (x5_2 + 1 + 9223372036854775808) % 18446744073709551616 - 9223372036854775808 = x5_2 + 1 := by omega
    rw [ew]
    refine ⟨fun n => n ⟨⟨i2, by omega, by omega⟩, ⟨i2, by omega, by omega⟩⟩, fun e2 => ⟨fun n => n ⟨by omega, by omega, e2.1, ?_⟩, by omega⟩⟩
    rw [e2.2, i3, show (x5_2 + 1).toNat = x5_2.toNat + 1 by omega, Int.pow_succ]
    omega
end Go.Proofs.YtjemohphaeiaiaaGreatDoor.Fn
