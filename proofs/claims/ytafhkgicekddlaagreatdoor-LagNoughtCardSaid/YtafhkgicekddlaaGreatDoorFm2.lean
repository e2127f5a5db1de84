/- What is told of the functions, shown: turnstone/turnstoneref01.trim, turnstone/turnstoneref01.digit, turnstone/turnstoneref01.plus, turnstone/turnstoneref01.larger, turnstone/turnstoneref01.minus, turnstone/turnstoneref01.Add, turnstone/turnstoneref01.Neg, turnstone/turnstoneref01.Sub, turnstone/turnstoneref01.Cmp, turnstone/turnstoneref01.U, turnstone/turnstoneref01.N. -/
import Derived.Test.YtafhkgicekddlaaGreatDoorFm1
namespace Go.Proofs.YtafhkgicekddlaaGreatDoor.Fn
open Go Go.RowKit Go.Proofs.YtafhkgicekddlaaGreatDoor.Sy
set_option linter.unusedVariables false
set_option linter.unusedSimpArgs false
set_option maxRecDepth 100000
def t74 : Tr :=
  .br (.f (.rel 107401 [.lst 0 1] 65538 [.list [.int .i64]]) <|
   .br (.f (.is (.lt (.n 0) (.len 65538 0)) true) <|
    .br (.f (.is (.lt (.wrap .i64 (.bin .sub (.len 65538 0) (.n 1))) (.n 0)) false) <|
     .br (.f (.is (.lt (.wrap .i64 (.bin .sub (.len 65538 0) (.n 1))) (.len 65538 0)) true) <|
      .br (.f (.is (.eq (.at 65538 0 (.wrap .i64 (.bin .sub (.len 65538 0) (.n 1))) 0) (.n 0)) false) <|
       .br (.f (.is (.eq (.len 65538 0) (.n 0)) true) <|
        .ok [.tru (.lt (.n 0) (.n 0)), .rows []])
       (.f (.is (.eq (.len 65538 0) (.n 0)) false) <|
        .ok [.tru (.v 0 0), .lst 65538 0]))
      (.f (.is (.eq (.at 65538 0 (.wrap .i64 (.bin .sub (.len 65538 0) (.n 1))) 0) (.n 0)) true) <|
       .br (.f (.is (.le (.wrap .i64 (.bin .sub (.len 65538 0) (.n 1))) (.len 65538 0)) false) <|
        .bad)
       (.f (.is (.le (.wrap .i64 (.bin .sub (.len 65538 0) (.n 1))) (.len 65538 0)) true) <|
        .f (.lseq 65560 (.sub (.lst 65538 0) (.n 0) (.wrap .i64 (.bin .sub (.len 65538 0) (.n 1))))) <|
         .br (.f (.nrel 107401 [.lst 0 1] [.lst 65560 0]) <|
          .bad)
         (.f (.ndec 107401 [.lst 0 1] [.lst 65538 0] [.lst 65560 0]) <|
          .bad))))
     (.f (.is (.lt (.wrap .i64 (.bin .sub (.len 65538 0) (.n 1))) (.len 65538 0)) false) <|
      .bad))
    (.f (.is (.lt (.wrap .i64 (.bin .sub (.len 65538 0) (.n 1))) (.n 0)) true) <|
     .bad))
   (.f (.is (.lt (.n 0) (.len 65538 0)) false) <|
    .br (.f (.is (.eq (.len 65538 0) (.n 0)) true) <|
     .ok [.tru (.lt (.n 0) (.n 0)), .rows []])
    (.f (.is (.eq (.len 65538 0) (.n 0)) false) <|
     .ok [.tru (.v 0 0), .lst 65538 0])))
  (.f (.nrel 107401 [.lst 0 1] [.lst 0 1]) <|
   .bad)
theorem c74 : ConS Tryz.prog T C74 := con_tr (cs := []) (lcs := [L107401]) (known := []) (cons_nil _ _) (Known.nil _) (N := 400) (d := 40) (t := t74) (by kernel_rfl) <| by
  intro E hl hp
  have hl1 := hl 1 _ rfl
  clear hl
  have hp := hp rfl
  simp only [C74, show T.pre 74 = Q74 from rfl, flatS, SP.flat, dvs, List.append_nil, List.cons_append, List.nil_append, Q74, U64, U32, I64, Big, W, wv, s64, WT, PR, MR, MB] at hp
  simp only [t74, C74, Tr.good, Fact.den, LX.den, DX.ls, DV.ls, DX.den, Bx.den, Ex.den, eo_add, eo_sub, eo_mul, eo_quo, eo_rem, eo_fdv, eo_mn, eo_mx, eo_land, eo_lor, eo_lxor, eo_landn, eo_shl, eo_shr, dvs, flatS, SP.flat, ST.flat, List.map_cons, List.map_nil, List.append_nil, List.cons_append, List.nil_append, ltb_t, ltb_f, leb_t, leb_f, eqb_t, eqb_f, decide_eq_true_eq, decide_eq_false_iff_not, Bool.not_eq_true', Bool.not_eq_false', Bool.and_eq_true, Bool.and_eq_false_imp, beq_iff_eq, beq_eq_false_iff_ne, bne_iff_ne, U64, U32, I64, Big, W, wv, Told, s64, WT, PR, MR, MB, Int.zero_mul, Int.zero_add, Int.add_zero, Int.mul_zero, IntKind.wrap_u64, IntKind.wrap_i64, IntKind.wrap_u32, ne_eq, forall_const, true_implies, show T.rel 74 = R74 from rfl, R74, show T.rel 107401 = R107401 from rfl, R107401, show T.mu 107401 = M107401 from rfl, M107401, show T.pre 74 = Q74 from rfl, Q74]
  revert hp hl1
  generalize (E.r 0).c 0 = n
  generalize (E.r 0).l 1 = l
  generalize (E.r 65538).l 0 = x2_0
  generalize (E.r 65560).l 0 = x24_0
  try simp only [mxI, mnI]
  try simp only [ltb, leb, eqb, Int.lt_irrefl, decide_false, Int.le_refl, decide_true]
  intro hl hp
  refine ⟨fun ⟨i0, i1, i2⟩ => ?_, fun n => n ⟨hp.1, hp.2, by first | trivial | rfl⟩⟩
  have hb : bval n l = bval n x2_0 := by simp only [bval, i2]
  have z : x2_0.length = 0 → BOK false [] ∧ bval false [] = bval n l := by
    intro h
    rw [List.eq_nil_of_length_eq_zero h] at hb
    rw [hb]
    refine ⟨BOK_nil, ?_⟩
    cases n <;> rfl
  by_cases h0 : x2_0.length = 0
  · have := z h0
    refine ⟨by omega, fun _ => ⟨fun _ => this, by omega⟩⟩
  obtain ⟨k, hk⟩ : ∃ k, x2_0.length = k + 1 := ⟨x2_0.length - 1, by omega⟩
  have ew : ((x2_0.length : Int) - 1 + 9223372036854775808) % 18446744073709551616 - 9223372036854775808 = (k : Int) := by omega
  simp only [ew, Int.toNat_natCast, Int.toNat_zero, List.drop_zero]
  refine ⟨fun _ => ⟨fun _ => ⟨fun _ => ⟨fun c => ⟨by omega, fun _ => ?_⟩, fun c => ⟨by omega, fun _ e => ?_⟩⟩, by omega⟩, by omega⟩, by omega⟩
  · exact ⟨⟨i0, fun _ => by rw [hk, show ((k + 1 : Nat) : Int) - 1 = k by omega]; exact c, by omega⟩, hb.symm⟩
  · subst e
    have e1 := dval_trim hk c
    refine ⟨fun n => n ⟨dig_take i0 k, by rw [List.length_take]; omega, by rw [e1]; exact i2⟩, fun n => n (by rw [List.length_take]; omega)⟩
end Go.Proofs.YtafhkgicekddlaaGreatDoor.Fn
namespace Go.Proofs.YtafhkgicekddlaaGreatDoor.Fn
open Go Go.RowKit Go.Proofs.YtafhkgicekddlaaGreatDoor.Sy
set_option linter.unusedVariables false
set_option linter.unusedSimpArgs false
set_option maxRecDepth 100000
def t89 : Tr :=
  .br (.f (.is (.lt (.v 0 2) (.len 0 1)) true) <|
   .br (.f (.is (.lt (.v 0 2) (.n 0)) false) <|
    .ok [.num (.at 0 1 (.v 0 2) 0)])
   (.f (.is (.lt (.v 0 2) (.n 0)) true) <|
    .bad))
  (.f (.is (.lt (.v 0 2) (.len 0 1)) false) <|
   .ok [.num (.n 0)])
theorem c89 : ConS Tryz.prog T C89 := con_tr (cs := []) (lcs := []) (known := []) (cons_nil _ _) (Known.nil _) (N := 400) (d := 40) (t := t89) (by kernel_rfl) <| by
  intro E hl hp
  have hl1 := hl 1 _ rfl
  clear hl
  have hp := hp rfl
  simp only [C89, show T.pre 89 = Q89 from rfl, flatS, SP.flat, dvs, List.append_nil, List.cons_append, List.nil_append, Q89, U64, U32, I64, Big, W, wv, s64, WT, PR, MR, MB] at hp
  simp only [t89, C89, Tr.good, Fact.den, LX.den, DX.ls, DV.ls, DX.den, Bx.den, Ex.den, eo_add, eo_sub, eo_mul, eo_quo, eo_rem, eo_fdv, eo_mn, eo_mx, eo_land, eo_lor, eo_lxor, eo_landn, eo_shl, eo_shr, dvs, flatS, SP.flat, ST.flat, List.map_cons, List.map_nil, List.append_nil, List.cons_append, List.nil_append, ltb_t, ltb_f, leb_t, leb_f, eqb_t, eqb_f, decide_eq_true_eq, decide_eq_false_iff_not, Bool.not_eq_true', Bool.not_eq_false', Bool.and_eq_true, Bool.and_eq_false_imp, beq_iff_eq, beq_eq_false_iff_ne, bne_iff_ne, U64, U32, I64, Big, W, wv, Told, s64, WT, PR, MR, MB, Int.zero_mul, Int.zero_add, Int.add_zero, Int.mul_zero, IntKind.wrap_u64, IntKind.wrap_i64, IntKind.wrap_u32, ne_eq, forall_const, true_implies, show T.rel 89 = R89 from rfl, R89, show T.pre 89 = Q89 from rfl, Q89]
  revert hp hl1
  generalize (E.r 0).c 0 = n
  generalize (E.r 0).l 1 = l
  generalize (E.r 0).i 2 = i
  try simp only [mxI, mnI]
  try simp only [ltb, leb, eqb, Int.lt_irrefl, decide_false, Int.le_refl, decide_true]
  intro hl hp
  refine ⟨fun h => ⟨fun _ => trivial, by omega⟩, fun h => ?_⟩
  exact (rowAt_out (by omega) 0).symm
end Go.Proofs.YtafhkgicekddlaaGreatDoor.Fn
namespace Go.Proofs.YtafhkgicekddlaaGreatDoor.Fn
open Go Go.RowKit Go.Proofs.YtafhkgicekddlaaGreatDoor.Sy
set_option linter.unusedVariables false
set_option linter.unusedSimpArgs false
set_option maxRecDepth 100000
def t75 : Tr :=
  .br (.f (.rel 107504 [.lst 0 1, .lst 0 3, .rows [], .num (.n 0), .num (.n 0)] 65542 [.list [.int .i64], .int .i64, .int .i64]) <|
   .br (.f (.is (.lt (.v 65542 2) (.len 0 1)) false) <|
    .br (.f (.is (.lt (.v 65542 2) (.len 0 3)) false) <|
     .br (.f (.is (.lt (.n 0) (.v 65542 1)) false) <|
      .ok [.lst 65542 0])
     (.f (.is (.lt (.n 0) (.v 65542 1)) true) <|
      .br (.f (.npre 89 [.tru (.v 0 0), .lst 0 1, .num (.v 65542 2)]) <|
       .bad)
      (.f (.rel 89 [.tru (.v 0 0), .lst 0 1, .num (.v 65542 2)] 65561 [.int .i64]) <|
       .br (.f (.npre 89 [.tru (.v 0 2), .lst 0 3, .num (.v 65542 2)]) <|
        .bad)
       (.f (.rel 89 [.tru (.v 0 2), .lst 0 3, .num (.v 65542 2)] 65564 [.int .i64]) <|
        .f (.is (.eq (.v 65569 0) (.wrap .i64 (.bin .add (.wrap .i64 (.bin .add (.v 65561 0) (.v 65564 0))) (.v 65542 1)))) true) <|
         .br (.f (.is (.le (.len 65542 0) (.n 1000000000)) false) <|
          .bad)
         (.f (.is (.le (.len 65542 0) (.n 1000000000)) true) <|
          .f (.lseq 65574 (.app (.lst 65542 0) (.rows [[.bin .rem (.v 65569 0) (.n 10000)]]))) <|
           .br (.f (.nrel 107504 [.lst 0 1, .lst 0 3, .rows [], .num (.n 0), .num (.n 0)] [.lst 65574 0, .num (.wrap .i64 (.bin .quo (.v 65569 0) (.n 10000))), .num (.wrap .i64 (.bin .add (.v 65542 2) (.n 1)))]) <|
            .bad)
           (.f (.ndec 107504 [.lst 0 1, .lst 0 3, .rows [], .num (.n 0), .num (.n 0)] [.lst 65542 0, .num (.v 65542 1), .num (.v 65542 2)] [.lst 65574 0, .num (.wrap .i64 (.bin .quo (.v 65569 0) (.n 10000))), .num (.wrap .i64 (.bin .add (.v 65542 2) (.n 1)))]) <|
            .bad))))))
    (.f (.is (.lt (.v 65542 2) (.len 0 3)) true) <|
     .br (.f (.npre 89 [.tru (.v 0 0), .lst 0 1, .num (.v 65542 2)]) <|
      .bad)
     (.f (.rel 89 [.tru (.v 0 0), .lst 0 1, .num (.v 65542 2)] 65561 [.int .i64]) <|
      .br (.f (.npre 89 [.tru (.v 0 2), .lst 0 3, .num (.v 65542 2)]) <|
       .bad)
      (.f (.rel 89 [.tru (.v 0 2), .lst 0 3, .num (.v 65542 2)] 65564 [.int .i64]) <|
       .f (.is (.eq (.v 65569 0) (.wrap .i64 (.bin .add (.wrap .i64 (.bin .add (.v 65561 0) (.v 65564 0))) (.v 65542 1)))) true) <|
        .br (.f (.is (.le (.len 65542 0) (.n 1000000000)) false) <|
         .bad)
        (.f (.is (.le (.len 65542 0) (.n 1000000000)) true) <|
         .f (.lseq 65574 (.app (.lst 65542 0) (.rows [[.bin .rem (.v 65569 0) (.n 10000)]]))) <|
          .br (.f (.nrel 107504 [.lst 0 1, .lst 0 3, .rows [], .num (.n 0), .num (.n 0)] [.lst 65574 0, .num (.wrap .i64 (.bin .quo (.v 65569 0) (.n 10000))), .num (.wrap .i64 (.bin .add (.v 65542 2) (.n 1)))]) <|
           .bad)
          (.f (.ndec 107504 [.lst 0 1, .lst 0 3, .rows [], .num (.n 0), .num (.n 0)] [.lst 65542 0, .num (.v 65542 1), .num (.v 65542 2)] [.lst 65574 0, .num (.wrap .i64 (.bin .quo (.v 65569 0) (.n 10000))), .num (.wrap .i64 (.bin .add (.v 65542 2) (.n 1)))]) <|
           .bad))))))
   (.f (.is (.lt (.v 65542 2) (.len 0 1)) true) <|
    .br (.f (.npre 89 [.tru (.v 0 0), .lst 0 1, .num (.v 65542 2)]) <|
     .bad)
    (.f (.rel 89 [.tru (.v 0 0), .lst 0 1, .num (.v 65542 2)] 65561 [.int .i64]) <|
     .br (.f (.npre 89 [.tru (.v 0 2), .lst 0 3, .num (.v 65542 2)]) <|
      .bad)
     (.f (.rel 89 [.tru (.v 0 2), .lst 0 3, .num (.v 65542 2)] 65564 [.int .i64]) <|
      .f (.is (.eq (.v 65569 0) (.wrap .i64 (.bin .add (.wrap .i64 (.bin .add (.v 65561 0) (.v 65564 0))) (.v 65542 1)))) true) <|
       .br (.f (.is (.le (.len 65542 0) (.n 1000000000)) false) <|
        .bad)
       (.f (.is (.le (.len 65542 0) (.n 1000000000)) true) <|
        .f (.lseq 65574 (.app (.lst 65542 0) (.rows [[.bin .rem (.v 65569 0) (.n 10000)]]))) <|
         .br (.f (.nrel 107504 [.lst 0 1, .lst 0 3, .rows [], .num (.n 0), .num (.n 0)] [.lst 65574 0, .num (.wrap .i64 (.bin .quo (.v 65569 0) (.n 10000))), .num (.wrap .i64 (.bin .add (.v 65542 2) (.n 1)))]) <|
          .bad)
         (.f (.ndec 107504 [.lst 0 1, .lst 0 3, .rows [], .num (.n 0), .num (.n 0)] [.lst 65542 0, .num (.v 65542 1), .num (.v 65542 2)] [.lst 65574 0, .num (.wrap .i64 (.bin .quo (.v 65569 0) (.n 10000))), .num (.wrap .i64 (.bin .add (.v 65542 2) (.n 1)))]) <|
          .bad))))))
  (.f (.nrel 107504 [.lst 0 1, .lst 0 3, .rows [], .num (.n 0), .num (.n 0)] [.rows [], .num (.n 0), .num (.n 0)]) <|
   .bad)
theorem c75 : ConS Tryz.prog T C75 := con_tr (cs := [C89]) (lcs := [L107504]) (known := []) (cons_cons c89 (cons_nil _ _)) (Known.nil _) (N := 400) (d := 40) (t := t75) (by kernel_rfl) <| by
  intro E hl hp
  have hl1 := hl 1 _ rfl
  have hl3 := hl 3 _ rfl
  clear hl
  have hp := hp rfl
  simp only [C75, show T.pre 75 = Q75 from rfl, flatS, SP.flat, dvs, List.append_nil, List.cons_append, List.nil_append, Q75, U64, U32, I64, Big, W, wv, s64, WT, PR, MR, MB] at hp
  simp only [t75, C75, Tr.good, Fact.den, LX.den, DX.ls, DV.ls, DX.den, Bx.den, Ex.den, eo_add, eo_sub, eo_mul, eo_quo, eo_rem, eo_fdv, eo_mn, eo_mx, eo_land, eo_lor, eo_lxor, eo_landn, eo_shl, eo_shr, dvs, flatS, SP.flat, ST.flat, List.map_cons, List.map_nil, List.append_nil, List.cons_append, List.nil_append, ltb_t, ltb_f, leb_t, leb_f, eqb_t, eqb_f, decide_eq_true_eq, decide_eq_false_iff_not, Bool.not_eq_true', Bool.not_eq_false', Bool.and_eq_true, Bool.and_eq_false_imp, beq_iff_eq, beq_eq_false_iff_ne, bne_iff_ne, U64, U32, I64, Big, W, wv, Told, s64, WT, PR, MR, MB, Int.zero_mul, Int.zero_add, Int.add_zero, Int.mul_zero, IntKind.wrap_u64, IntKind.wrap_i64, IntKind.wrap_u32, ne_eq, forall_const, true_implies, show T.rel 75 = R75 from rfl, R75, show T.rel 89 = R89 from rfl, R89, show T.rel 107504 = R107504 from rfl, R107504, show T.mu 107504 = M107504 from rfl, M107504, show T.pre 75 = Q75 from rfl, Q75, show T.pre 89 = Q89 from rfl, Q89]
  revert hp hl1 hl3
  generalize (E.r 0).c 0 = an
  generalize (E.r 0).l 1 = al
  generalize (E.r 0).c 2 = bn
  generalize (E.r 0).l 3 = bl
  generalize (E.r 65542).l 0 = x6_0
  generalize (E.r 65542).i 1 = x6_1
  generalize (E.r 65542).i 2 = x6_2
  generalize (E.r 65561).i 0 = x25_0
  generalize (E.r 65564).i 0 = x28_0
  generalize (E.r 65569).i 0 = x33_0
  generalize (E.r 65574).l 0 = x38_0
  try simp only [mxI, mnI]
  try simp only [ltb, leb, eqb, Int.lt_irrefl, decide_false, Int.le_refl, decide_true]
  intro hal hbl hp
  obtain ⟨da, db, la, lb⟩ := hp
  refine ⟨fun ⟨i0, i1, i2, i3, i4, i5, i6⟩ => ?_, fun n => n ⟨by first | trivial | omega, by first | trivial | rfl, dig_nil, by first | trivial | omega, by first | trivial | omega, by first | trivial | omega, by simp [dval, P4]⟩⟩
  obtain ⟨k, rfl⟩ := Int.eq_ofNat_of_zero_le i0
  have hk : x6_0.length = k := by omega
  have ew : ((k : Int) + 1 + 9223372036854775808) % 18446744073709551616 - 9223372036854775808 = ((k + 1 : Nat) : Int) := by omega
  simp only [ew, Int.toNat_natCast] at *
  have ra := da k
  have rb := db k
  have step : ∀ s : Int, s = Sy.rowAt al k 0 + Sy.rowAt bl k 0 + x6_1 → (k < al.length ∨ k < bl.length ∨ 0 < x6_1) → ∀ y : List (List Int), y = x6_0 ++ [[s.tmod 10000]] →
      (0 ≤ ((k + 1 : Nat) : Int) ∧ (y.length : Int) = ((k + 1 : Nat) : Int) ∧ dig y ∧ 0 ≤ (s.tdiv 10000 + 9223372036854775808) % 18446744073709551616 - 9223372036854775808 ∧ (s.tdiv 10000 + 9223372036854775808) % 18446744073709551616 - 9223372036854775808 ≤ 1 ∧
        (((k + 1 : Nat) : Int) ≤ al.length ∨ ((k + 1 : Nat) : Int) ≤ bl.length ∨ (s.tdiv 10000 + 9223372036854775808) % 18446744073709551616 - 9223372036854775808 = 0 ∧ (((k + 1 : Nat) : Int) ≤ al.length + 1 ∨ ((k + 1 : Nat) : Int) ≤ bl.length + 1)) ∧
        dval y + P4 (k + 1) * ((s.tdiv 10000 + 9223372036854775808) % 18446744073709551616 - 9223372036854775808 + dval (al.drop (k + 1)) + dval (bl.drop (k + 1))) = dval al + dval bl) := by
    intro s hs ho y hy
    have s0 : 0 ≤ s := by omega
    rw [Int.tmod_eq_emod_of_nonneg s0] at hy
    rw [Int.tdiv_eq_ediv_of_nonneg s0]
    have eq : (s / 10000 + 9223372036854775808) % 18446744073709551616 - 9223372036854775808 = s / 10000 := by omega
    rw [eq]
    subst hy
    refine ⟨by omega, by simp [hk], dig_snoc i2 (by omega) (by omega), by omega, by omega, ?_, ?_⟩
    · by_cases c1 : k < al.length
      · left; omega
      · by_cases c2 : k < bl.length
        · right; left; omega
        · have := rowAt_out (L := al) (i := k) (by omega) 0
          have := rowAt_out (L := bl) (i := k) (by omega) 0
          right; right; omega
    · rw [dval_snoc, hk]
      rw [dval_drop al k, dval_drop bl k] at i6
      have em : s = 10000 * (s / 10000) + s % 10000 := by omega
      have e2 : x6_1 + (Sy.rowAt al k 0 + 10000 * dval (al.drop (k + 1))) + (Sy.rowAt bl k 0 + 10000 * dval (bl.drop (k + 1))) = s + 10000 * dval (al.drop (k + 1)) + 10000 * dval (bl.drop (k + 1)) := by omega
      rw [e2] at i6
      simp only [P4]
      generalize s / 10000 = q at *
      generalize s % 10000 = r at *
      subst em
      grind
  repeat' (first | exact i2 | intro _ | refine And.intro ?_ ?_)
  all_goals first
    | omega
    | (rename_i n; exact n (step _ (by omega) (by omega) _ (by assumption)))
    | exact i2
    | (rw [List.drop_of_length_le (show al.length ≤ k by omega), List.drop_of_length_le (show bl.length ≤ k by omega)] at i6
       simp only [dval, Int.add_zero, Int.zero_add] at i6
       have : x6_1 = 0 := by omega
       rw [this] at i6
       omega)
end Go.Proofs.YtafhkgicekddlaaGreatDoor.Fn
namespace Go.Proofs.YtafhkgicekddlaaGreatDoor.Fn
open Go Go.RowKit Go.Proofs.YtafhkgicekddlaaGreatDoor.Sy
set_option linter.unusedVariables false
set_option linter.unusedSimpArgs false
set_option maxRecDepth 100000
def t76 : Tr :=
  .br (.f (.rel 107602 [.lst 0 1, .lst 0 3, .num (.wrap .i64 (.bin .sub (.bin .mx (.len 0 1) (.len 0 3)) (.n 1)))] 65548 [.int .i64]) <|
   .br (.f (.is (.le (.n 0) (.v 65548 0)) true) <|
    .br (.f (.rel 89 [.tru (.v 0 0), .lst 0 1, .num (.v 65548 0)] 65553 [.int .i64]) <|
     .br (.f (.rel 89 [.tru (.v 0 2), .lst 0 3, .num (.v 65548 0)] 65556 [.int .i64]) <|
      .br (.f (.is (.lt (.v 65553 0) (.v 65556 0)) true) <|
       .ok [.num (.n (-1))])
      (.f (.is (.lt (.v 65553 0) (.v 65556 0)) false) <|
       .br (.f (.rel 89 [.tru (.v 0 0), .lst 0 1, .num (.v 65548 0)] 65560 [.int .i64]) <|
        .br (.f (.rel 89 [.tru (.v 0 2), .lst 0 3, .num (.v 65548 0)] 65563 [.int .i64]) <|
         .br (.f (.is (.lt (.v 65563 0) (.v 65560 0)) true) <|
          .ok [.num (.n 1)])
         (.f (.is (.lt (.v 65563 0) (.v 65560 0)) false) <|
          .br (.f (.nrel 107602 [.lst 0 1, .lst 0 3, .num (.wrap .i64 (.bin .sub (.bin .mx (.len 0 1) (.len 0 3)) (.n 1)))] [.num (.wrap .i64 (.bin .sub (.v 65548 0) (.n 1)))]) <|
           .bad)
          (.f (.ndec 107602 [.lst 0 1, .lst 0 3, .num (.wrap .i64 (.bin .sub (.bin .mx (.len 0 1) (.len 0 3)) (.n 1)))] [.num (.v 65548 0)] [.num (.wrap .i64 (.bin .sub (.v 65548 0) (.n 1)))]) <|
           .bad)))
        (.f (.npre 89 [.tru (.v 0 2), .lst 0 3, .num (.v 65548 0)]) <|
         .bad))
       (.f (.npre 89 [.tru (.v 0 0), .lst 0 1, .num (.v 65548 0)]) <|
        .bad)))
     (.f (.npre 89 [.tru (.v 0 2), .lst 0 3, .num (.v 65548 0)]) <|
      .bad))
    (.f (.npre 89 [.tru (.v 0 0), .lst 0 1, .num (.v 65548 0)]) <|
     .bad))
   (.f (.is (.le (.n 0) (.v 65548 0)) false) <|
    .ok [.num (.n 0)]))
  (.f (.nrel 107602 [.lst 0 1, .lst 0 3, .num (.wrap .i64 (.bin .sub (.bin .mx (.len 0 1) (.len 0 3)) (.n 1)))] [.num (.wrap .i64 (.bin .sub (.bin .mx (.len 0 1) (.len 0 3)) (.n 1)))]) <|
   .bad)
theorem c76 : ConS Tryz.prog T C76 := con_tr (cs := [C89]) (lcs := [L107602]) (known := []) (cons_cons c89 (cons_nil _ _)) (Known.nil _) (N := 400) (d := 40) (t := t76) (by kernel_rfl) <| by
  intro E hl hp
  have hl1 := hl 1 _ rfl
  have hl3 := hl 3 _ rfl
  clear hl
  have hp := hp rfl
  simp only [C76, show T.pre 76 = Q76 from rfl, flatS, SP.flat, dvs, List.append_nil, List.cons_append, List.nil_append, Q76, U64, U32, I64, Big, W, wv, s64, WT, PR, MR, MB] at hp
  simp only [t76, C76, Tr.good, Fact.den, LX.den, DX.ls, DV.ls, DX.den, Bx.den, Ex.den, eo_add, eo_sub, eo_mul, eo_quo, eo_rem, eo_fdv, eo_mn, eo_mx, eo_land, eo_lor, eo_lxor, eo_landn, eo_shl, eo_shr, dvs, flatS, SP.flat, ST.flat, List.map_cons, List.map_nil, List.append_nil, List.cons_append, List.nil_append, ltb_t, ltb_f, leb_t, leb_f, eqb_t, eqb_f, decide_eq_true_eq, decide_eq_false_iff_not, Bool.not_eq_true', Bool.not_eq_false', Bool.and_eq_true, Bool.and_eq_false_imp, beq_iff_eq, beq_eq_false_iff_ne, bne_iff_ne, U64, U32, I64, Big, W, wv, Told, s64, WT, PR, MR, MB, Int.zero_mul, Int.zero_add, Int.add_zero, Int.mul_zero, IntKind.wrap_u64, IntKind.wrap_i64, IntKind.wrap_u32, ne_eq, forall_const, true_implies, show T.rel 76 = R76 from rfl, R76, show T.rel 89 = R89 from rfl, R89, show T.rel 107602 = R107602 from rfl, R107602, show T.mu 107602 = M107602 from rfl, M107602, show T.pre 76 = Q76 from rfl, Q76, show T.pre 89 = Q89 from rfl, Q89]
  revert hp hl1 hl3
  generalize (E.r 0).c 0 = an
  generalize (E.r 0).l 1 = al
  generalize (E.r 0).c 2 = bn
  generalize (E.r 0).l 3 = bl
  generalize (E.r 65548).i 0 = x12_0
  generalize (E.r 65553).i 0 = x17_0
  generalize (E.r 65556).i 0 = x20_0
  generalize (E.r 65560).i 0 = x24_0
  generalize (E.r 65563).i 0 = x27_0
  try simp only [mxI, mnI]
  try simp only [ltb, leb, eqb, Int.lt_irrefl, decide_false, Int.le_refl, decide_true]
  intro hal hbl hp
  obtain ⟨da, db, la, lb⟩ := hp
  refine ⟨fun ⟨i0, i1, i2⟩ => ⟨fun h0 => ?_, fun h0 => ?_⟩, ?_⟩
  · obtain ⟨k, rfl⟩ := Int.eq_ofNat_of_zero_le h0
    have ek : ((k : Int) + 1).toNat = k + 1 := by omega
    rw [ek] at i2
    have ew : ((k : Int) - 1 + 9223372036854775808) % 18446744073709551616 - 9223372036854775808 = (k : Int) - 1 := by omega
    simp only [ew]
    refine ⟨fun e1 => ⟨fun e2 => ⟨fun h1 => ?_, fun h1 => ⟨fun e3 => ⟨fun e4 => ⟨fun h2 => ?_, fun h2 => ?_⟩, fun n => n h0⟩, fun n => n h0⟩⟩, fun n => n h0⟩, fun n => n h0⟩
    · have := dval_le_of_top da db i2 (by omega)
      exact ⟨fun _ => trivial, by omega, by omega⟩
    · have := dval_le_of_top db da i2.symm (by omega)
      exact ⟨by omega, by omega, fun _ => trivial⟩
    · refine ⟨fun n => n ⟨by omega, by omega, ?_⟩, by omega⟩
      have e5 : ((k : Int) - 1 + 1).toNat = k := by omega
      rw [e5, dval_drop al k, dval_drop bl k, i2]
      omega
  · have e0 : (x12_0 + 1).toNat = 0 := by omega
    rw [e0, List.drop_zero, List.drop_zero] at i2
    exact ⟨by omega, fun _ => trivial, by omega⟩
  · intro n
    apply n
    have e1 : al.drop (((if (bl.length : Int) > (al.length : Int) then (bl.length : Int) else (al.length : Int)) - 1 + 9223372036854775808) % 18446744073709551616 - 9223372036854775808 + 1).toNat = [] := List.drop_of_length_le (by split <;> omega)
    have e2 : bl.drop (((if (bl.length : Int) > (al.length : Int) then (bl.length : Int) else (al.length : Int)) - 1 + 9223372036854775808) % 18446744073709551616 - 9223372036854775808 + 1).toNat = [] := List.drop_of_length_le (by split <;> omega)
    rw [e1, e2]
    refine ⟨by split <;> omega, by split <;> omega, rfl⟩
end Go.Proofs.YtafhkgicekddlaaGreatDoor.Fn
namespace Go.Proofs.YtafhkgicekddlaaGreatDoor.Fn
open Go Go.RowKit Go.Proofs.YtafhkgicekddlaaGreatDoor.Sy
set_option linter.unusedVariables false
set_option linter.unusedSimpArgs false
set_option maxRecDepth 100000
def t77 : Tr :=
  .br (.f (.rel 107704 [.lst 0 1, .lst 0 3, .rows [], .num (.n 0), .num (.n 0)] 65542 [.list [.int .i64], .int .i64, .int .i64]) <|
   .br (.f (.is (.lt (.v 65542 2) (.len 0 1)) false) <|
    .ok [.lst 65542 0])
   (.f (.is (.lt (.v 65542 2) (.len 0 1)) true) <|
    .br (.f (.is (.lt (.v 65542 2) (.n 0)) true) <|
     .bad)
    (.f (.is (.lt (.v 65542 2) (.n 0)) false) <|
     .br (.f (.npre 89 [.tru (.v 0 2), .lst 0 3, .num (.v 65542 2)]) <|
      .bad)
     (.f (.rel 89 [.tru (.v 0 2), .lst 0 3, .num (.v 65542 2)] 65555 [.int .i64]) <|
      .f (.is (.eq (.v 65560 0) (.wrap .i64 (.bin .sub (.wrap .i64 (.bin .sub (.at 0 1 (.v 65542 2) 0) (.v 65555 0))) (.v 65542 1)))) true) <|
       .br (.f (.is (.lt (.v 65560 0) (.n 0)) true) <|
        .br (.f (.is (.le (.len 65542 0) (.n 1000000000)) false) <|
         .bad)
        (.f (.is (.le (.len 65542 0) (.n 1000000000)) true) <|
         .f (.lseq 65571 (.app (.lst 65542 0) (.rows [[.wrap .i64 (.bin .add (.v 65560 0) (.n 10000))]]))) <|
          .br (.f (.nrel 107704 [.lst 0 1, .lst 0 3, .rows [], .num (.n 0), .num (.n 0)] [.lst 65571 0, .num (.n 1), .num (.wrap .i64 (.bin .add (.v 65542 2) (.n 1)))]) <|
           .bad)
          (.f (.ndec 107704 [.lst 0 1, .lst 0 3, .rows [], .num (.n 0), .num (.n 0)] [.lst 65542 0, .num (.v 65542 1), .num (.v 65542 2)] [.lst 65571 0, .num (.n 1), .num (.wrap .i64 (.bin .add (.v 65542 2) (.n 1)))]) <|
           .bad)))
       (.f (.is (.lt (.v 65560 0) (.n 0)) false) <|
        .br (.f (.is (.le (.len 65542 0) (.n 1000000000)) false) <|
         .bad)
        (.f (.is (.le (.len 65542 0) (.n 1000000000)) true) <|
         .f (.lseq 65567 (.app (.lst 65542 0) (.rows [[.v 65560 0]]))) <|
          .br (.f (.nrel 107704 [.lst 0 1, .lst 0 3, .rows [], .num (.n 0), .num (.n 0)] [.lst 65567 0, .num (.n 0), .num (.wrap .i64 (.bin .add (.v 65542 2) (.n 1)))]) <|
           .bad)
          (.f (.ndec 107704 [.lst 0 1, .lst 0 3, .rows [], .num (.n 0), .num (.n 0)] [.lst 65542 0, .num (.v 65542 1), .num (.v 65542 2)] [.lst 65567 0, .num (.n 0), .num (.wrap .i64 (.bin .add (.v 65542 2) (.n 1)))]) <|
           .bad)))))))
  (.f (.nrel 107704 [.lst 0 1, .lst 0 3, .rows [], .num (.n 0), .num (.n 0)] [.rows [], .num (.n 0), .num (.n 0)]) <|
   .bad)
theorem c77 : ConS Tryz.prog T C77 := con_tr (cs := [C89]) (lcs := [L107704]) (known := []) (cons_cons c89 (cons_nil _ _)) (Known.nil _) (N := 400) (d := 40) (t := t77) (by kernel_rfl) <| by
  intro E hl hp
  have hl1 := hl 1 _ rfl
  have hl3 := hl 3 _ rfl
  clear hl
  have hp := hp rfl
  simp only [C77, show T.pre 77 = Q77 from rfl, flatS, SP.flat, dvs, List.append_nil, List.cons_append, List.nil_append, Q77, U64, U32, I64, Big, W, wv, s64, WT, PR, MR, MB] at hp
  simp only [t77, C77, Tr.good, Fact.den, LX.den, DX.ls, DV.ls, DX.den, Bx.den, Ex.den, eo_add, eo_sub, eo_mul, eo_quo, eo_rem, eo_fdv, eo_mn, eo_mx, eo_land, eo_lor, eo_lxor, eo_landn, eo_shl, eo_shr, dvs, flatS, SP.flat, ST.flat, List.map_cons, List.map_nil, List.append_nil, List.cons_append, List.nil_append, ltb_t, ltb_f, leb_t, leb_f, eqb_t, eqb_f, decide_eq_true_eq, decide_eq_false_iff_not, Bool.not_eq_true', Bool.not_eq_false', Bool.and_eq_true, Bool.and_eq_false_imp, beq_iff_eq, beq_eq_false_iff_ne, bne_iff_ne, U64, U32, I64, Big, W, wv, Told, s64, WT, PR, MR, MB, Int.zero_mul, Int.zero_add, Int.add_zero, Int.mul_zero, IntKind.wrap_u64, IntKind.wrap_i64, IntKind.wrap_u32, ne_eq, forall_const, true_implies, show T.rel 77 = R77 from rfl, R77, show T.rel 89 = R89 from rfl, R89, show T.rel 107704 = R107704 from rfl, R107704, show T.mu 107704 = M107704 from rfl, M107704, show T.pre 77 = Q77 from rfl, Q77, show T.pre 89 = Q89 from rfl, Q89]
  revert hp hl1 hl3
  generalize (E.r 0).c 0 = an
  generalize (E.r 0).l 1 = al
  generalize (E.r 0).c 2 = bn
  generalize (E.r 0).l 3 = bl
  generalize (E.r 65542).l 0 = x6_0
  generalize (E.r 65542).i 1 = x6_1
  generalize (E.r 65542).i 2 = x6_2
  generalize (E.r 65555).i 0 = x19_0
  generalize (E.r 65560).i 0 = x24_0
  generalize (E.r 65567).l 0 = x31_0
  generalize (E.r 65571).l 0 = x35_0
  try simp only [mxI, mnI]
  try simp only [ltb, leb, eqb, Int.lt_irrefl, decide_false, Int.le_refl, decide_true]
  intro hal hbl hp
  obtain ⟨da, db, la, lb, lab⟩ := hp
  refine ⟨fun ⟨i0, i1, i2, i3, i4, i5, i6⟩ => ?_, fun n => n ⟨by first | trivial | omega, by first | trivial | omega, by first | trivial | rfl, dig_nil, by first | trivial | omega, by first | trivial | omega, by simp [dval, P4]⟩⟩
  obtain ⟨k, rfl⟩ := Int.eq_ofNat_of_zero_le i0
  have hk : x6_0.length = k := by omega
  have ew : ((k : Int) + 1 + 9223372036854775808) % 18446744073709551616 - 9223372036854775808 = ((k + 1 : Nat) : Int) := by omega
  simp only [ew, Int.toNat_natCast] at *
  have ra := da k
  have rb := db k
  have step : ∀ c s : Int, 0 ≤ c → c ≤ 1 → s = Sy.rowAt al k 0 - Sy.rowAt bl k 0 - x6_1 + 10000 * c → 0 ≤ s → s < 10000 → k < al.length → ∀ y : List (List Int), y = x6_0 ++ [[s]] →
      (0 ≤ ((k + 1 : Nat) : Int) ∧ ((k + 1 : Nat) : Int) ≤ al.length ∧ (y.length : Int) = ((k + 1 : Nat) : Int) ∧ dig y ∧ 0 ≤ c ∧ c ≤ 1 ∧ dval y + P4 (k + 1) * (dval (al.drop (k + 1)) - dval (bl.drop (k + 1)) - c) = dval al - dval bl) := by
    intro c s c0 c1 hs s0 s1 hl y hy
    subst hy
    refine ⟨by omega, by omega, by simp [hk], dig_snoc i3 s0 s1, c0, c1, ?_⟩
    rw [dval_snoc, hk]
    rw [dval_drop al k, dval_drop bl k] at i6
    have e2 : (Sy.rowAt al k 0 + 10000 * dval (al.drop (k + 1))) - (Sy.rowAt bl k 0 + 10000 * dval (bl.drop (k + 1))) - x6_1 = s + 10000 * (dval (al.drop (k + 1)) - dval (bl.drop (k + 1)) - c) := by omega
    rw [e2] at i6
    simp only [P4]
    grind
  have last : al.length ≤ k → dval x6_0 = dval al - dval bl := by
    intro hl
    rw [List.drop_of_length_le (show al.length ≤ k by omega)] at i6
    have d1 := dval_nonneg (dig_drop db k)
    have d2 := dval_lt i3
    rw [hk] at d2
    have p := P4_pos k
    by_cases hz : dval (bl.drop k) + x6_1 = 0
    · have e : dval [] - dval (bl.drop k) - x6_1 = 0 := by simp only [dval]; omega
      rw [e, Int.mul_zero] at i6
      omega
    · exfalso
      have e : dval [] - dval (bl.drop k) - x6_1 = -(dval (bl.drop k) + x6_1) := by simp only [dval]; omega
      rw [e, Int.mul_neg] at i6
      have := Int.mul_le_mul_of_nonneg_left (show 1 ≤ dval (bl.drop k) + x6_1 by omega) (show 0 ≤ P4 k by omega)
      omega
  repeat' (first | exact i3 | intro _ | refine And.intro ?_ ?_)
  all_goals first
    | omega
    | (rename_i h n; exact n (by simpa using step 0 _ (by omega) (by omega) (by omega) (by omega) (by omega) (by omega) _ h))
    | (rename_i h n; exact n (by simpa using step 1 _ (by omega) (by omega) (by omega) (by omega) (by omega) (by omega) _ h))
    | (have := last (by omega); omega)
end Go.Proofs.YtafhkgicekddlaaGreatDoor.Fn
namespace Go.Proofs.YtafhkgicekddlaaGreatDoor.Fn
open Go Go.RowKit Go.Proofs.YtafhkgicekddlaaGreatDoor.Sy
set_option linter.unusedVariables false
set_option linter.unusedSimpArgs false
set_option maxRecDepth 100000
def t42 : Tr :=
  .br (.f (.is (.beq (.v 0 0) (.v 0 2)) true) <|
   .br (.f (.rel 75 [.tru (.v 0 0), .lst 0 1, .tru (.v 0 2), .lst 0 3] 65548 [.list [.int .i64]]) <|
    .br (.f (.rel 74 [.tru (.v 0 0), .lst 65548 0] 65550 [.bool, .list [.int .i64]]) <|
     .ok [.tru (.v 65550 0), .lst 65550 1])
    (.f (.npre 74 [.tru (.v 0 0), .lst 65548 0]) <|
     .bad))
   (.f (.npre 75 [.tru (.v 0 0), .lst 0 1, .tru (.v 0 2), .lst 0 3]) <|
    .bad))
  (.f (.is (.beq (.v 0 0) (.v 0 2)) false) <|
   .br (.f (.rel 76 [.tru (.v 0 0), .lst 0 1, .tru (.v 0 2), .lst 0 3] 65546 [.int .i64]) <|
    .br (.f (.is (.le (.n 0) (.v 65546 0)) true) <|
     .br (.f (.rel 77 [.tru (.v 0 0), .lst 0 1, .tru (.v 0 2), .lst 0 3] 65552 [.list [.int .i64]]) <|
      .br (.f (.rel 74 [.tru (.v 0 0), .lst 65552 0] 65554 [.bool, .list [.int .i64]]) <|
       .ok [.tru (.v 65554 0), .lst 65554 1])
      (.f (.npre 74 [.tru (.v 0 0), .lst 65552 0]) <|
       .bad))
     (.f (.npre 77 [.tru (.v 0 0), .lst 0 1, .tru (.v 0 2), .lst 0 3]) <|
      .bad))
    (.f (.is (.le (.n 0) (.v 65546 0)) false) <|
     .br (.f (.rel 77 [.tru (.v 0 2), .lst 0 3, .tru (.v 0 0), .lst 0 1] 65552 [.list [.int .i64]]) <|
      .br (.f (.rel 74 [.tru (.v 0 2), .lst 65552 0] 65554 [.bool, .list [.int .i64]]) <|
       .ok [.tru (.v 65554 0), .lst 65554 1])
      (.f (.npre 74 [.tru (.v 0 2), .lst 65552 0]) <|
       .bad))
     (.f (.npre 77 [.tru (.v 0 2), .lst 0 3, .tru (.v 0 0), .lst 0 1]) <|
      .bad)))
   (.f (.npre 76 [.tru (.v 0 0), .lst 0 1, .tru (.v 0 2), .lst 0 3]) <|
    .bad))
theorem c42 : ConS Tryz.prog T C42 := con_tr (cs := [C74, C75, C76, C77]) (lcs := []) (known := []) (cons_cons c74 (cons_cons c75 (cons_cons c76 (cons_cons c77 (cons_nil _ _))))) (Known.nil _) (N := 400) (d := 40) (t := t42) (by kernel_rfl) <| by
  intro E hl hp
  have hl1 := hl 1 _ rfl
  have hl3 := hl 3 _ rfl
  clear hl
  have hp := hp rfl
  simp only [C42, show T.pre 42 = Q42 from rfl, flatS, SP.flat, dvs, List.append_nil, List.cons_append, List.nil_append, Q42, U64, U32, I64, Big, W, wv, s64, WT, PR, MR, MB] at hp
  simp only [t42, C42, Tr.good, Fact.den, LX.den, DX.ls, DV.ls, DX.den, Bx.den, Ex.den, eo_add, eo_sub, eo_mul, eo_quo, eo_rem, eo_fdv, eo_mn, eo_mx, eo_land, eo_lor, eo_lxor, eo_landn, eo_shl, eo_shr, dvs, flatS, SP.flat, ST.flat, List.map_cons, List.map_nil, List.append_nil, List.cons_append, List.nil_append, ltb_t, ltb_f, leb_t, leb_f, eqb_t, eqb_f, decide_eq_true_eq, decide_eq_false_iff_not, Bool.not_eq_true', Bool.not_eq_false', Bool.and_eq_true, Bool.and_eq_false_imp, beq_iff_eq, beq_eq_false_iff_ne, bne_iff_ne, U64, U32, I64, Big, W, wv, Told, s64, WT, PR, MR, MB, Int.zero_mul, Int.zero_add, Int.add_zero, Int.mul_zero, IntKind.wrap_u64, IntKind.wrap_i64, IntKind.wrap_u32, ne_eq, forall_const, true_implies, show T.rel 42 = R42 from rfl, R42, show T.rel 74 = R74 from rfl, R74, show T.rel 75 = R75 from rfl, R75, show T.rel 76 = R76 from rfl, R76, show T.rel 77 = R77 from rfl, R77, show T.pre 42 = Q42 from rfl, Q42, show T.pre 74 = Q74 from rfl, Q74, show T.pre 75 = Q75 from rfl, Q75, show T.pre 76 = Q76 from rfl, Q76, show T.pre 77 = Q77 from rfl, Q77]
  revert hp hl1 hl3
  generalize (E.r 0).c 0 = an
  generalize (E.r 0).l 1 = al
  generalize (E.r 0).c 2 = bn
  generalize (E.r 0).l 3 = bl
  generalize (E.r 65546).i 0 = x10_0
  generalize (E.r 65548).l 0 = x12_0
  generalize (E.r 65550).c 0 = x14_0
  generalize (E.r 65550).l 1 = x14_1
  generalize (E.r 65552).l 0 = x16_0
  generalize (E.r 65554).c 0 = x18_0
  generalize (E.r 65554).l 1 = x18_1
  try simp only [mxI, mnI]
  try simp only [ltb, leb, eqb, Int.lt_irrefl, decide_false, Int.le_refl, decide_true]
  intro hal hbl hp
  have la := Bg.len hp.1
  have lb := Bg.len hp.2
  have da := hp.1.1.1
  have db := hp.2.1.1
  refine ⟨fun h => ⟨fun e1 => ⟨fun e2 => ⟨e2.1, ?_⟩, fun n => n ⟨e1.1, by omega⟩⟩, fun n => n ⟨da, db, by omega, by omega⟩⟩, fun h => ⟨fun e0 => ⟨fun c => ⟨fun e1 => ⟨fun e2 => ⟨e2.1, ?_⟩, fun n => n ⟨e1.1, by omega⟩⟩, fun n => n ⟨da, db, by omega, by omega, by omega⟩⟩, fun c => ⟨fun e1 => ⟨fun e2 => ⟨e2.1, ?_⟩, fun n => n ⟨e1.1, by omega⟩⟩, fun n => n ⟨db, da, by omega, by omega, by omega⟩⟩⟩, fun n => n ⟨da, db, by omega, by omega⟩⟩⟩
  · rw [e2.2]
    subst h
    cases an <;> simp only [bval, cond_true, cond_false, e1.2.1] <;> omega
  · rw [e2.2]
    cases an <;> cases bn <;> simp_all [bval] <;> omega
  · rw [e2.2]
    cases an <;> cases bn <;> simp_all [bval] <;> omega
end Go.Proofs.YtafhkgicekddlaaGreatDoor.Fn
namespace Go.Proofs.YtafhkgicekddlaaGreatDoor.Fn
open Go Go.RowKit Go.Proofs.YtafhkgicekddlaaGreatDoor.Sy
set_option linter.unusedVariables false
set_option linter.unusedSimpArgs false
set_option maxRecDepth 100000
def t62 : Tr :=
  .br (.f (.rel 74 [.tru (.not (.v 0 0)), .lst 0 1] 65544 [.bool, .list [.int .i64]]) <|
   .ok [.tru (.v 65544 0), .lst 65544 1])
  (.f (.npre 74 [.tru (.not (.v 0 0)), .lst 0 1]) <|
   .bad)
theorem c62 : ConS Tryz.prog T C62 := con_tr (cs := [C74]) (lcs := []) (known := []) (cons_cons c74 (cons_nil _ _)) (Known.nil _) (N := 400) (d := 40) (t := t62) (by kernel_rfl) <| by
  intro E hl hp
  have hl1 := hl 1 _ rfl
  clear hl
  have hp := hp rfl
  simp only [C62, show T.pre 62 = Q62 from rfl, flatS, SP.flat, dvs, List.append_nil, List.cons_append, List.nil_append, Q62, U64, U32, I64, Big, W, wv, s64, WT, PR, MR, MB] at hp
  simp only [t62, C62, Tr.good, Fact.den, LX.den, DX.ls, DV.ls, DX.den, Bx.den, Ex.den, eo_add, eo_sub, eo_mul, eo_quo, eo_rem, eo_fdv, eo_mn, eo_mx, eo_land, eo_lor, eo_lxor, eo_landn, eo_shl, eo_shr, dvs, flatS, SP.flat, ST.flat, List.map_cons, List.map_nil, List.append_nil, List.cons_append, List.nil_append, ltb_t, ltb_f, leb_t, leb_f, eqb_t, eqb_f, decide_eq_true_eq, decide_eq_false_iff_not, Bool.not_eq_true', Bool.not_eq_false', Bool.and_eq_true, Bool.and_eq_false_imp, beq_iff_eq, beq_eq_false_iff_ne, bne_iff_ne, U64, U32, I64, Big, W, wv, Told, s64, WT, PR, MR, MB, Int.zero_mul, Int.zero_add, Int.add_zero, Int.mul_zero, IntKind.wrap_u64, IntKind.wrap_i64, IntKind.wrap_u32, ne_eq, forall_const, true_implies, show T.rel 62 = R62 from rfl, R62, show T.rel 74 = R74 from rfl, R74, show T.pre 62 = Q62 from rfl, Q62, show T.pre 74 = Q74 from rfl, Q74]
  revert hp hl1
  generalize (E.r 0).c 0 = n
  generalize (E.r 0).l 1 = l
  generalize (E.r 65544).c 0 = x8_0
  generalize (E.r 65544).l 1 = x8_1
  try simp only [mxI, mnI]
  try simp only [ltb, leb, eqb, Int.lt_irrefl, decide_false, Int.le_refl, decide_true]
  intro hl hp
  have := Bg.len hp
  refine ⟨fun h => ⟨h.1, ?_⟩, fun h => h ⟨hp.1.1, by omega⟩⟩
  rw [h.2]
  cases n <;> simp [bval]
end Go.Proofs.YtafhkgicekddlaaGreatDoor.Fn
namespace Go.Proofs.YtafhkgicekddlaaGreatDoor.Fn
open Go Go.RowKit Go.Proofs.YtafhkgicekddlaaGreatDoor.Sy
set_option linter.unusedVariables false
set_option linter.unusedSimpArgs false
set_option maxRecDepth 100000
def t60 : Tr :=
  .br (.f (.rel 62 [.tru (.v 0 2), .lst 0 3] 65541 [.bool, .list [.int .i64]]) <|
   .br (.f (.rel 42 [.tru (.v 0 0), .lst 0 1, .tru (.v 65541 0), .lst 65541 1] 65542 [.bool, .list [.int .i64]]) <|
    .ok [.tru (.v 65542 0), .lst 65542 1])
   (.f (.npre 42 [.tru (.v 0 0), .lst 0 1, .tru (.v 65541 0), .lst 65541 1]) <|
    .bad))
  (.f (.npre 62 [.tru (.v 0 2), .lst 0 3]) <|
   .bad)
theorem c60 : ConS Tryz.prog T C60 := con_tr (cs := [C42, C62]) (lcs := []) (known := []) (cons_cons c42 (cons_cons c62 (cons_nil _ _))) (Known.nil _) (N := 400) (d := 40) (t := t60) (by kernel_rfl) <| by
  intro E hl hp
  have hl1 := hl 1 _ rfl
  have hl3 := hl 3 _ rfl
  clear hl
  have hp := hp rfl
  simp only [C60, show T.pre 60 = Q60 from rfl, flatS, SP.flat, dvs, List.append_nil, List.cons_append, List.nil_append, Q60, U64, U32, I64, Big, W, wv, s64, WT, PR, MR, MB] at hp
  simp only [t60, C60, Tr.good, Fact.den, LX.den, DX.ls, DV.ls, DX.den, Bx.den, Ex.den, eo_add, eo_sub, eo_mul, eo_quo, eo_rem, eo_fdv, eo_mn, eo_mx, eo_land, eo_lor, eo_lxor, eo_landn, eo_shl, eo_shr, dvs, flatS, SP.flat, ST.flat, List.map_cons, List.map_nil, List.append_nil, List.cons_append, List.nil_append, ltb_t, ltb_f, leb_t, leb_f, eqb_t, eqb_f, decide_eq_true_eq, decide_eq_false_iff_not, Bool.not_eq_true', Bool.not_eq_false', Bool.and_eq_true, Bool.and_eq_false_imp, beq_iff_eq, beq_eq_false_iff_ne, bne_iff_ne, U64, U32, I64, Big, W, wv, Told, s64, WT, PR, MR, MB, Int.zero_mul, Int.zero_add, Int.add_zero, Int.mul_zero, IntKind.wrap_u64, IntKind.wrap_i64, IntKind.wrap_u32, ne_eq, forall_const, true_implies, show T.rel 42 = R42 from rfl, R42, show T.rel 60 = R60 from rfl, R60, show T.rel 62 = R62 from rfl, R62, show T.pre 42 = Q42 from rfl, Q42, show T.pre 60 = Q60 from rfl, Q60, show T.pre 62 = Q62 from rfl, Q62]
  revert hp hl1 hl3
  generalize (E.r 0).c 0 = an
  generalize (E.r 0).l 1 = al
  generalize (E.r 0).c 2 = bn
  generalize (E.r 0).l 3 = bl
  generalize (E.r 65541).c 0 = x5_0
  generalize (E.r 65541).l 1 = x5_1
  generalize (E.r 65542).c 0 = x6_0
  generalize (E.r 65542).l 1 = x6_1
  try simp only [mxI, mnI]
  try simp only [ltb, leb, eqb, Int.lt_irrefl, decide_false, Int.le_refl, decide_true]
  intro hal hbl hp
  refine ⟨fun e => ⟨fun e2 => ⟨e2.1, by rw [e2.2, e.2]; omega⟩, fun n => n ⟨hp.1, e.1, by rw [e.2]; omega, by rw [e.2]; omega⟩⟩, fun n => n hp.2⟩
end Go.Proofs.YtafhkgicekddlaaGreatDoor.Fn
namespace Go.Proofs.YtafhkgicekddlaaGreatDoor.Fn
open Go Go.RowKit Go.Proofs.YtafhkgicekddlaaGreatDoor.Sy
set_option linter.unusedVariables false
set_option linter.unusedSimpArgs false
set_option maxRecDepth 100000
def t22 : Tr :=
  .br (.f (.rel 60 [.tru (.v 0 0), .lst 0 1, .tru (.v 0 2), .lst 0 3] 65541 [.bool, .list [.int .i64]]) <|
   .br (.f (.rel 40 [.tru (.v 65541 0), .lst 65541 1] 65542 [.int .i64]) <|
    .ok [.num (.v 65542 0)])
   (.f (.npre 40 [.tru (.v 65541 0), .lst 65541 1]) <|
    .bad))
  (.f (.npre 60 [.tru (.v 0 0), .lst 0 1, .tru (.v 0 2), .lst 0 3]) <|
   .bad)
theorem c22 : ConS Tryz.prog T C22 := con_tr (cs := [C40, C60]) (lcs := []) (known := []) (cons_cons c40 (cons_cons c60 (cons_nil _ _))) (Known.nil _) (N := 400) (d := 40) (t := t22) (by kernel_rfl) <| by
  intro E hl hp
  have hl1 := hl 1 _ rfl
  have hl3 := hl 3 _ rfl
  clear hl
  have hp := hp rfl
  simp only [C22, show T.pre 22 = Q22 from rfl, flatS, SP.flat, dvs, List.append_nil, List.cons_append, List.nil_append, Q22, U64, U32, I64, Big, W, wv, s64, WT, PR, MR, MB] at hp
  simp only [t22, C22, Tr.good, Fact.den, LX.den, DX.ls, DV.ls, DX.den, Bx.den, Ex.den, eo_add, eo_sub, eo_mul, eo_quo, eo_rem, eo_fdv, eo_mn, eo_mx, eo_land, eo_lor, eo_lxor, eo_landn, eo_shl, eo_shr, dvs, flatS, SP.flat, ST.flat, List.map_cons, List.map_nil, List.append_nil, List.cons_append, List.nil_append, ltb_t, ltb_f, leb_t, leb_f, eqb_t, eqb_f, decide_eq_true_eq, decide_eq_false_iff_not, Bool.not_eq_true', Bool.not_eq_false', Bool.and_eq_true, Bool.and_eq_false_imp, beq_iff_eq, beq_eq_false_iff_ne, bne_iff_ne, U64, U32, I64, Big, W, wv, Told, s64, WT, PR, MR, MB, Int.zero_mul, Int.zero_add, Int.add_zero, Int.mul_zero, IntKind.wrap_u64, IntKind.wrap_i64, IntKind.wrap_u32, ne_eq, forall_const, true_implies, show T.rel 22 = R22 from rfl, R22, show T.rel 40 = R40 from rfl, R40, show T.rel 60 = R60 from rfl, R60, show T.pre 22 = Q22 from rfl, Q22, show T.pre 40 = Q40 from rfl, Q40, show T.pre 60 = Q60 from rfl, Q60]
  revert hp hl1 hl3
  generalize (E.r 0).c 0 = an
  generalize (E.r 0).l 1 = al
  generalize (E.r 0).c 2 = bn
  generalize (E.r 0).l 3 = bl
  generalize (E.r 65541).c 0 = x5_0
  generalize (E.r 65541).l 1 = x5_1
  generalize (E.r 65542).i 0 = x6_0
  try simp only [mxI, mnI]
  try simp only [ltb, leb, eqb, Int.lt_irrefl, decide_false, Int.le_refl, decide_true]
  intro hal hbl hp
  refine ⟨fun e => ⟨fun e2 => ?_, fun n => n e.1⟩, fun n => n hp⟩
  rw [e.2] at e2
  omega
end Go.Proofs.YtafhkgicekddlaaGreatDoor.Fn
namespace Go.Proofs.YtafhkgicekddlaaGreatDoor.Fn
open Go Go.RowKit Go.Proofs.YtafhkgicekddlaaGreatDoor.Sy
set_option linter.unusedVariables false
set_option linter.unusedSimpArgs false
set_option maxRecDepth 100000
def t59 : Tr :=
  .br (.f (.rel 105902 [.num (.v 0 0), .rows []] 65538 [.int .u64, .list [.int .i64]]) <|
   .br (.f (.is (.lt (.n 0) (.v 65538 0)) false) <|
    .ok [.tru (.lt (.n 0) (.n 0)), .lst 65538 1])
   (.f (.is (.lt (.n 0) (.v 65538 0)) true) <|
    .br (.f (.is (.le (.len 65538 1) (.n 1000000000)) false) <|
     .bad)
    (.f (.is (.le (.len 65538 1) (.n 1000000000)) true) <|
     .f (.lseq 65547 (.app (.lst 65538 1) (.rows [[.wrap .i64 (.bin .rem (.v 65538 0) (.n 10000))]]))) <|
      .br (.f (.nrel 105902 [.num (.v 0 0), .rows []] [.num (.wrap .u64 (.bin .quo (.v 65538 0) (.n 10000))), .lst 65547 0]) <|
       .bad)
      (.f (.ndec 105902 [.num (.v 0 0), .rows []] [.num (.v 65538 0), .lst 65538 1] [.num (.wrap .u64 (.bin .quo (.v 65538 0) (.n 10000))), .lst 65547 0]) <|
       .bad))))
  (.f (.nrel 105902 [.num (.v 0 0), .rows []] [.num (.v 0 0), .rows []]) <|
   .bad)
theorem c59 : ConS Tryz.prog T C59 := con_tr (cs := []) (lcs := [L105902]) (known := []) (cons_nil _ _) (Known.nil _) (N := 400) (d := 40) (t := t59) (by kernel_rfl) <| by
  intro E hl hp
  clear hl
  have hp := hp rfl
  simp only [C59, show T.pre 59 = Q59 from rfl, flatS, SP.flat, dvs, List.append_nil, List.cons_append, List.nil_append, Q59, U64, U32, I64, Big, W, wv, s64, WT, PR, MR, MB] at hp
  simp only [t59, C59, Tr.good, Fact.den, LX.den, DX.ls, DV.ls, DX.den, Bx.den, Ex.den, eo_add, eo_sub, eo_mul, eo_quo, eo_rem, eo_fdv, eo_mn, eo_mx, eo_land, eo_lor, eo_lxor, eo_landn, eo_shl, eo_shr, dvs, flatS, SP.flat, ST.flat, List.map_cons, List.map_nil, List.append_nil, List.cons_append, List.nil_append, ltb_t, ltb_f, leb_t, leb_f, eqb_t, eqb_f, decide_eq_true_eq, decide_eq_false_iff_not, Bool.not_eq_true', Bool.not_eq_false', Bool.and_eq_true, Bool.and_eq_false_imp, beq_iff_eq, beq_eq_false_iff_ne, bne_iff_ne, U64, U32, I64, Big, W, wv, Told, s64, WT, PR, MR, MB, Int.zero_mul, Int.zero_add, Int.add_zero, Int.mul_zero, IntKind.wrap_u64, IntKind.wrap_i64, IntKind.wrap_u32, ne_eq, forall_const, true_implies, show T.rel 59 = R59 from rfl, R59, show T.rel 105902 = R105902 from rfl, R105902, show T.mu 105902 = M105902 from rfl, M105902, show T.pre 59 = Q59 from rfl, Q59]
  revert hp
  generalize (E.r 0).i 0 = x
  generalize (E.r 65538).i 0 = x2_0
  generalize (E.r 65538).l 1 = x2_1
  generalize (E.r 65547).l 0 = x11_0
  try simp only [mxI, mnI]
  try simp only [ltb, leb, eqb, Int.lt_irrefl, decide_false, Int.le_refl, decide_true]
  intro hp
  refine ⟨fun ⟨i0, i1, i2, i3⟩ => ?_, fun n => n ⟨hp.1, dig_nil, by simp [dval, P4], by simp⟩⟩
  simp only [dval, Int.add_zero] at i2
  have p := P4_pos x2_1.length
  have d0 := dval_nonneg i1
  refine ⟨fun h => ?_, fun h => ?_⟩
  · have e : x2_0 = 0 := by omega
    rw [e, Int.mul_zero, Int.add_zero] at i2
    exact ⟨⟨i1, fun h => i3 e (by omega), by simp⟩, by simp only [bval, cond_false]; exact i2⟩
  · have l5 : x2_1.length < 5 := by
      refine Classical.byContradiction fun hn => ?_
      have a := P4_mono (show 5 ≤ x2_1.length by omega)
      have b : P4 5 = 100000000000000000000 := by decide
      have c := Int.mul_le_mul_of_nonneg_left (show 1 ≤ x2_0 by omega) (show 0 ≤ P4 x2_1.length by omega)
      omega
    have r0 := Int.emod_nonneg x2_0 (show (10000 : Int) ≠ 0 by omega)
    have r1 := Int.emod_lt_of_pos x2_0 (show (0 : Int) < 10000 by omega)
    have bnd : x2_0 < 18446744073709551616 := by
      have c := Int.mul_le_mul_of_nonneg_right (show 1 ≤ P4 x2_1.length by omega) (show 0 ≤ x2_0 by omega)
      omega
    rw [Int.tmod_eq_emod_of_nonneg i0, Int.tdiv_eq_ediv_of_nonneg i0]
    have e1 : (x2_0 % 10000 + 9223372036854775808) % 18446744073709551616 - 9223372036854775808 = x2_0 % 10000 := by omega
    have e2 : x2_0 / 10000 % 18446744073709551616 = x2_0 / 10000 := by omega
    simp only [e1, e2]
    refine ⟨by omega, fun _ e => ?_⟩
    subst e
    refine ⟨fun n => n ⟨by omega, dig_snoc i1 r0 r1, ?_, fun h5 _ => ?_⟩, by omega⟩
    · rw [dval_snoc, List.length_append, List.length_singleton, P4_add]
      simp only [P4, dval]
      have em : x2_0 = 10000 * (x2_0 / 10000) + x2_0 % 10000 := by omega
      generalize x2_0 / 10000 = q at *
      generalize x2_0 % 10000 = r at *
      subst em
      grind
    · rw [List.length_append, List.length_singleton, show ((x2_1.length + 1 : Nat) : Int) - 1 = x2_1.length by omega, rowAt_snoc]
      omega
end Go.Proofs.YtafhkgicekddlaaGreatDoor.Fn
namespace Go.Proofs.YtafhkgicekddlaaGreatDoor.Fn
open Go Go.RowKit Go.Proofs.YtafhkgicekddlaaGreatDoor.Sy
set_option linter.unusedVariables false
set_option linter.unusedSimpArgs false
set_option maxRecDepth 100000
def t23 : Tr :=
  .br (.f (.is (.le (.n 0) (.v 0 0)) true) <|
   .br (.f (.rel 59 [.num (.wrap .u64 (.v 0 0))] 65541 [.bool, .list [.int .i64]]) <|
    .ok [.tru (.v 65541 0), .lst 65541 1])
   (.f (.npre 59 [.num (.wrap .u64 (.v 0 0))]) <|
    .bad))
  (.f (.is (.le (.n 0) (.v 0 0)) false) <|
   .br (.f (.rel 59 [.num (.wrap .u64 (.bin .add (.wrap .u64 (.wrap .i64 (.bin .sub (.n 0) (.wrap .i64 (.bin .add (.v 0 0) (.n 1)))))) (.n 1)))] 65544 [.bool, .list [.int .i64]]) <|
    .f (.is (.eq (.v 65547 0) (.wrap .i64 (.bin .sub (.n 0) (.wrap .i64 (.bin .add (.v 0 0) (.n 1)))))) true) <|
     .ok [.tru (.le (.n 0) (.n 0)), .lst 65544 1])
   (.f (.npre 59 [.num (.wrap .u64 (.bin .add (.wrap .u64 (.wrap .i64 (.bin .sub (.n 0) (.wrap .i64 (.bin .add (.v 0 0) (.n 1)))))) (.n 1)))]) <|
    .bad))
theorem c23 : ConS Tryz.prog T C23 := con_tr (cs := [C59]) (lcs := []) (known := []) (cons_cons c59 (cons_nil _ _)) (Known.nil _) (N := 400) (d := 40) (t := t23) (by kernel_rfl) <| by
  intro E hl hp
  clear hl
  have hp := hp rfl
  simp only [C23, show T.pre 23 = Q23 from rfl, flatS, SP.flat, dvs, List.append_nil, List.cons_append, List.nil_append, Q23, U64, U32, I64, Big, W, wv, s64, WT, PR, MR, MB] at hp
  simp only [t23, C23, Tr.good, Fact.den, LX.den, DX.ls, DV.ls, DX.den, Bx.den, Ex.den, eo_add, eo_sub, eo_mul, eo_quo, eo_rem, eo_fdv, eo_mn, eo_mx, eo_land, eo_lor, eo_lxor, eo_landn, eo_shl, eo_shr, dvs, flatS, SP.flat, ST.flat, List.map_cons, List.map_nil, List.append_nil, List.cons_append, List.nil_append, ltb_t, ltb_f, leb_t, leb_f, eqb_t, eqb_f, decide_eq_true_eq, decide_eq_false_iff_not, Bool.not_eq_true', Bool.not_eq_false', Bool.and_eq_true, Bool.and_eq_false_imp, beq_iff_eq, beq_eq_false_iff_ne, bne_iff_ne, U64, U32, I64, Big, W, wv, Told, s64, WT, PR, MR, MB, Int.zero_mul, Int.zero_add, Int.add_zero, Int.mul_zero, IntKind.wrap_u64, IntKind.wrap_i64, IntKind.wrap_u32, ne_eq, forall_const, true_implies, show T.rel 23 = R23 from rfl, R23, show T.rel 59 = R59 from rfl, R59, show T.pre 23 = Q23 from rfl, Q23, show T.pre 59 = Q59 from rfl, Q59]
  revert hp
  generalize (E.r 0).i 0 = x
  generalize (E.r 65541).c 0 = x5_0
  generalize (E.r 65541).l 1 = x5_1
  generalize (E.r 65544).c 0 = x8_0
  generalize (E.r 65544).l 1 = x8_1
  generalize (E.r 65547).i 0 = x11_0
  try simp only [mxI, mnI]
  try simp only [ltb, leb, eqb, Int.lt_irrefl, decide_false, Int.le_refl, decide_true]
  intro hp
  refine ⟨fun h => ⟨fun e => ⟨e.1, by rw [e.2]; omega⟩, by omega⟩, fun h => ⟨fun e h2 => ?_, by omega⟩⟩
  have ev : (((0 - ((x + 1 + 9223372036854775808) % 18446744073709551616 - 9223372036854775808) + 9223372036854775808) % 18446744073709551616 - 9223372036854775808) % 18446744073709551616 + 1) % 18446744073709551616 = -x := by omega
  rw [ev] at e
  have pz := e.1.pos
  have b := bval_abs (n := true) e.1.1
  have b2 := bval_abs (n := x8_0) e.1.1
  have nz : x8_1.length ≠ 0 := (pz.1.1 (by omega)).1
  have e8 : x8_0 = false := (pz.1.1 (by omega)).2
  refine ⟨⟨e.1.1, e.1.h, fun h => absurd h nz⟩, ?_⟩
  rw [b.1 rfl, ← b2.2 e8]
  omega
end Go.Proofs.YtafhkgicekddlaaGreatDoor.Fn
