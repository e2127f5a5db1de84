/- What is told of the functions, shown: turnstone/turnstoneref01.Mul, turnstone/turnstoneref15.Move, turnstone/turnstoneref03.Since, turnstone/turnstoneref04.Right, turnstone/turnstoneref05.Right, turnstone/turnstoneref15.may, turnstone/turnstoneref15.Right, turnstone/turnstoneref15.Set, turnstone/turnstoneref15.New, turnstone/turnstoneref15.Moved, turnstone/turnstoneref15.Sliced. -/
import Derived.Test.YtjemohphaeiaiaaGreatDoorFm3
namespace Go.Proofs.YtjemohphaeiaiaaGreatDoor.Fn
open Go Go.RowKit Go.Proofs.YtjemohphaeiaiaaGreatDoor.Sy
set_option linter.unusedVariables false
set_option linter.unusedSimpArgs false
set_option maxRecDepth 100000
def t46 : Tr :=
  .br (.f (.is (.lt (.wrap .i64 (.bin .add (.wrap .i64 (.bin .add (.len 0 1) (.len 0 3))) (.n 1))) (.n 0)) false) <|
   .br (.f (.is (.le (.wrap .i64 (.bin .add (.wrap .i64 (.bin .add (.len 0 1) (.len 0 3))) (.n 1))) (.n 1000000000)) true) <|
    .f (.lseq 65547 (.rep (.wrap .i64 (.bin .add (.wrap .i64 (.bin .add (.len 0 1) (.len 0 3))) (.n 1))) [0])) <|
     .f (.is (.eq (.v 65549 0) (.wrap .i64 (.bin .add (.wrap .i64 (.bin .add (.len 0 1) (.len 0 3))) (.n 1)))) true) <|
      .br (.f (.rel 104603 [.lst 0 1, .lst 0 3, .lst 65547 0, .num (.n 0)] 65554 [.list [.int .i64], .int .i64]) <|
       .br (.f (.is (.lt (.v 65554 1) (.len 0 1)) false) <|
        .br (.f (.rel 66 [.tru (.not (.beq (.v 0 0) (.v 0 2))), .lst 65554 0] 65563 [.bool, .list [.int .i64]]) <|
         .ok [.tru (.v 65563 0), .lst 65563 1])
        (.f (.npre 66 [.tru (.not (.beq (.v 0 0) (.v 0 2))), .lst 65554 0]) <|
         .bad))
       (.f (.is (.lt (.v 65554 1) (.len 0 1)) true) <|
        .br (.f (.is (.lt (.v 65554 1) (.n 0)) true) <|
         .bad)
        (.f (.is (.lt (.v 65554 1) (.n 0)) false) <|
         .br (.f (.nrel 104607 [.lst 0 3, .num (.v 65554 1), .num (.at 0 1 (.v 65554 1) 0), .lst 65554 0, .num (.n 0), .num (.n 0)] [.lst 65554 0, .num (.n 0), .num (.n 0)]) <|
          .bad)
         (.f (.rel 104607 [.lst 0 3, .num (.v 65554 1), .num (.at 0 1 (.v 65554 1) 0), .lst 65554 0, .num (.n 0), .num (.n 0)] 65563 [.list [.int .i64], .int .i64, .int .i64]) <|
          .br (.f (.is (.lt (.v 65563 2) (.len 0 3)) true) <|
           .br (.f (.is (.lt (.wrap .i64 (.bin .add (.v 65554 1) (.v 65563 2))) (.n 0)) true) <|
            .bad)
           (.f (.is (.lt (.wrap .i64 (.bin .add (.v 65554 1) (.v 65563 2))) (.n 0)) false) <|
            .br (.f (.is (.lt (.wrap .i64 (.bin .add (.v 65554 1) (.v 65563 2))) (.len 65563 0)) false) <|
             .bad)
            (.f (.is (.lt (.wrap .i64 (.bin .add (.v 65554 1) (.v 65563 2))) (.len 65563 0)) true) <|
             .br (.f (.npre 70 [.tru (.v 0 2), .lst 0 3, .num (.v 65563 2)]) <|
              .bad)
             (.f (.rel 70 [.tru (.v 0 2), .lst 0 3, .num (.v 65563 2)] 65582 [.int .i64]) <|
              .f (.is (.eq (.v 65588 0) (.wrap .i64 (.bin .add (.at 65563 0 (.wrap .i64 (.bin .add (.v 65554 1) (.v 65563 2))) 0) (.wrap .i64 (.bin .mul (.at 0 1 (.v 65554 1) 0) (.v 65582 0)))))) true) <|
               .f (.lseq 65596 (.set (.lst 65563 0) (.wrap .i64 (.bin .add (.v 65554 1) (.v 65563 2))) 0 [.bin .rem (.wrap .i64 (.bin .add (.v 65588 0) (.v 65563 1))) (.n 10000)])) <|
                .f (.is (.eq (.v 65600 0) (.wrap .i64 (.bin .quo (.wrap .i64 (.bin .add (.v 65588 0) (.v 65563 1))) (.n 10000)))) true) <|
                 .br (.f (.nrel 104607 [.lst 0 3, .num (.v 65554 1), .num (.at 0 1 (.v 65554 1) 0), .lst 65554 0, .num (.n 0), .num (.n 0)] [.lst 65596 0, .num (.v 65600 0), .num (.wrap .i64 (.bin .add (.v 65563 2) (.n 1)))]) <|
                  .bad)
                 (.f (.ndec 104607 [.lst 0 3, .num (.v 65554 1), .num (.at 0 1 (.v 65554 1) 0), .lst 65554 0, .num (.n 0), .num (.n 0)] [.lst 65563 0, .num (.v 65563 1), .num (.v 65563 2)] [.lst 65596 0, .num (.v 65600 0), .num (.wrap .i64 (.bin .add (.v 65563 2) (.n 1)))]) <|
                  .bad)))))
          (.f (.is (.lt (.v 65563 2) (.len 0 3)) false) <|
           .br (.f (.is (.lt (.n 0) (.v 65563 1)) true) <|
            .br (.f (.is (.lt (.wrap .i64 (.bin .add (.v 65554 1) (.v 65563 2))) (.n 0)) true) <|
             .bad)
            (.f (.is (.lt (.wrap .i64 (.bin .add (.v 65554 1) (.v 65563 2))) (.n 0)) false) <|
             .br (.f (.is (.lt (.wrap .i64 (.bin .add (.v 65554 1) (.v 65563 2))) (.len 65563 0)) false) <|
              .bad)
             (.f (.is (.lt (.wrap .i64 (.bin .add (.v 65554 1) (.v 65563 2))) (.len 65563 0)) true) <|
              .br (.f (.npre 70 [.tru (.v 0 2), .lst 0 3, .num (.v 65563 2)]) <|
               .bad)
              (.f (.rel 70 [.tru (.v 0 2), .lst 0 3, .num (.v 65563 2)] 65582 [.int .i64]) <|
               .f (.is (.eq (.v 65588 0) (.wrap .i64 (.bin .add (.at 65563 0 (.wrap .i64 (.bin .add (.v 65554 1) (.v 65563 2))) 0) (.wrap .i64 (.bin .mul (.at 0 1 (.v 65554 1) 0) (.v 65582 0)))))) true) <|
                .f (.lseq 65596 (.set (.lst 65563 0) (.wrap .i64 (.bin .add (.v 65554 1) (.v 65563 2))) 0 [.bin .rem (.wrap .i64 (.bin .add (.v 65588 0) (.v 65563 1))) (.n 10000)])) <|
                 .f (.is (.eq (.v 65600 0) (.wrap .i64 (.bin .quo (.wrap .i64 (.bin .add (.v 65588 0) (.v 65563 1))) (.n 10000)))) true) <|
                  .br (.f (.nrel 104607 [.lst 0 3, .num (.v 65554 1), .num (.at 0 1 (.v 65554 1) 0), .lst 65554 0, .num (.n 0), .num (.n 0)] [.lst 65596 0, .num (.v 65600 0), .num (.wrap .i64 (.bin .add (.v 65563 2) (.n 1)))]) <|
                   .bad)
                  (.f (.ndec 104607 [.lst 0 3, .num (.v 65554 1), .num (.at 0 1 (.v 65554 1) 0), .lst 65554 0, .num (.n 0), .num (.n 0)] [.lst 65563 0, .num (.v 65563 1), .num (.v 65563 2)] [.lst 65596 0, .num (.v 65600 0), .num (.wrap .i64 (.bin .add (.v 65563 2) (.n 1)))]) <|
                   .bad)))))
           (.f (.is (.lt (.n 0) (.v 65563 1)) false) <|
            .br (.f (.nrel 104603 [.lst 0 1, .lst 0 3, .lst 65547 0, .num (.n 0)] [.lst 65563 0, .num (.wrap .i64 (.bin .add (.v 65554 1) (.n 1)))]) <|
             .bad)
            (.f (.ndec 104603 [.lst 0 1, .lst 0 3, .lst 65547 0, .num (.n 0)] [.lst 65554 0, .num (.v 65554 1)] [.lst 65563 0, .num (.wrap .i64 (.bin .add (.v 65554 1) (.n 1)))]) <|
             .bad)))))))
      (.f (.nrel 104603 [.lst 0 1, .lst 0 3, .lst 65547 0, .num (.n 0)] [.lst 65547 0, .num (.n 0)]) <|
       .bad))
   (.f (.is (.le (.wrap .i64 (.bin .add (.wrap .i64 (.bin .add (.len 0 1) (.len 0 3))) (.n 1))) (.n 1000000000)) false) <|
    .bad))
  (.f (.is (.lt (.wrap .i64 (.bin .add (.wrap .i64 (.bin .add (.len 0 1) (.len 0 3))) (.n 1))) (.n 0)) true) <|
   .bad)
theorem c46 : ConS Tryz.prog T C46 := con_tr (cs := [C66, C70]) (lcs := [L104603, L104607]) (known := []) (cons_cons c66 (cons_cons c70 (cons_nil _ _))) (Known.nil _) (N := 400) (d := 40) (t := t46) (by kernel_rfl) <| by
  intro E hl hp
  have hl1 := hl 1 _ rfl
  have hl3 := hl 3 _ rfl
  clear hl
  have hp := hp rfl
  simp only [C46, show T.pre 46 = Q46 from rfl, flatS, SP.flat, dvs, List.append_nil, List.cons_append, List.nil_append, Q46, U64, U32, I64, Big, W, wv, s64, WT, PR, MR, MB] at hp
  simp only [t46, C46, Tr.good, Fact.den, LX.den, DX.ls, DV.ls, DX.den, Bx.den, Ex.den, eo_add, eo_sub, eo_mul, eo_quo, eo_rem, eo_fdv, eo_mn, eo_mx, eo_land, eo_lor, eo_lxor, eo_landn, eo_shl, eo_shr, dvs, flatS, SP.flat, ST.flat, List.map_cons, List.map_nil, List.append_nil, List.cons_append, List.nil_append, ltb_t, ltb_f, leb_t, leb_f, eqb_t, eqb_f, decide_eq_true_eq, decide_eq_false_iff_not, Bool.not_eq_true', Bool.not_eq_false', Bool.and_eq_true, Bool.and_eq_false_imp, beq_iff_eq, beq_eq_false_iff_ne, bne_iff_ne, U64, U32, I64, Big, W, wv, Told, s64, WT, PR, MR, MB, Int.zero_mul, Int.zero_add, Int.add_zero, Int.mul_zero, IntKind.wrap_u64, IntKind.wrap_i64, IntKind.wrap_u32, ne_eq, forall_const, true_implies, show T.rel 46 = R46 from rfl, R46, show T.rel 66 = R66 from rfl, R66, show T.rel 70 = R70 from rfl, R70, show T.rel 104603 = R104603 from rfl, R104603, show T.rel 104607 = R104607 from rfl, R104607, show T.mu 104603 = M104603 from rfl, M104603, show T.mu 104607 = M104607 from rfl, M104607, show T.pre 46 = Q46 from rfl, Q46, show T.pre 66 = Q66 from rfl, Q66, show T.pre 70 = Q70 from rfl, Q70]
  revert hp hl1 hl3
  generalize (E.r 0).c 0 = an
  generalize (E.r 0).l 1 = al
  generalize (E.r 0).c 2 = bn
  generalize (E.r 0).l 3 = bl
  generalize (E.r 65547).l 0 = x11_0
  generalize (E.r 65549).i 0 = x13_0
  generalize (E.r 65554).l 0 = x18_0
  generalize (E.r 65554).i 1 = x18_1
  generalize (E.r 65563).l 0 = x27_0
  generalize (E.r 65563).c 0 = x27_0c
  generalize (E.r 65563).i 1 = x27_1
  generalize (E.r 65563).l 1 = x27_1l
  generalize (E.r 65563).i 2 = x27_2
  generalize (E.r 65582).i 0 = x46_0
  generalize (E.r 65588).i 0 = x52_0
  generalize (E.r 65596).l 0 = x60_0
  generalize (E.r 65600).i 0 = x64_0
  try simp only [mxI, mnI]
  try simp only [ltb, leb, eqb, Int.lt_irrefl, decide_false, Int.le_refl, decide_true]
  intro hal hbl hp
  have la := Bg.len hp.1
  have lb := Bg.len hp.2
  have e1 : (((al.length : Int) + bl.length + 9223372036854775808) % 18446744073709551616 - 9223372036854775808 + 1 + 9223372036854775808) % 18446744073709551616 - 9223372036854775808 = ((al.length + bl.length + 1 : Nat) : Int) := by omega
  simp only [e1, Int.toNat_natCast, implies_true, true_and, and_true, Int.toNat_zero, List.drop_zero]
  have da := hp.1.1.1
  have db := hp.2.1.1
  have ent : ∀ y : List (List Int), y = List.replicate (al.length + bl.length + 1) [0] → y.length = al.length + bl.length + 1 ∧ dig y ∧ (∀ k : Nat, Sy.rowAt y k 0 = 0) ∧ dval y = 0 := by
    intro y hy
    subst hy
    exact ⟨List.length_replicate, dig_rep _, rowAt_rep _, dval_rep _⟩
  refine ⟨fun _ => ⟨fun _ y0 _ => ⟨fun ⟨i0, i1, i2, i3, i4, i5⟩ => ⟨fun c1 => ⟨fun e => ⟨e.1, ?_⟩, fun n => n ⟨i3, by omega⟩⟩, fun c1 => ⟨by omega, fun _ => ⟨fun n => n ⟨by omega, i3, by omega⟩, fun ⟨j0, j1, j2, j3, j4, j5, j6, j7⟩ => ?_⟩⟩⟩, ?_⟩, by omega⟩, by omega⟩
  · rw [e.2]
    rw [List.drop_of_length_le (by omega)] at i5
    simp only [dval, Int.zero_mul, Int.mul_zero, Int.add_zero] at i5
    have v1 := bval_abs (n := an) da
    have v2 := bval_abs (n := bn) db
    have v3 := bval_abs (n := (!an == bn)) i3
    cases an <;> cases bn <;> simp only [bval, cond_true, cond_false, Bool.not_true, Bool.not_false, BEq.rfl, beq_iff_eq, reduceCtorEq, i5, Bool.true_beq, Bool.false_beq, Int.neg_mul, Int.mul_neg, Int.neg_neg]
  · obtain ⟨m, rfl⟩ := Int.eq_ofNat_of_zero_le i0
    obtain ⟨n, rfl⟩ := Int.eq_ofNat_of_zero_le j0
    have ew : ((m : Int) + n + 9223372036854775808) % 18446744073709551616 - 9223372036854775808 = ((m + n : Nat) : Int) := by omega
    have ew2 : ((n : Int) + 1 + 9223372036854775808) % 18446744073709551616 - 9223372036854775808 = ((n + 1 : Nat) : Int) := by omega
    have ew3 : ((m : Int) + n).toNat = m + n := by omega
    have ew4 : ((m : Int) + ((n + 1 : Nat) : Int)).toNat = m + n + 1 := by omega
    have ew5 : ((m : Int) + 1 + 9223372036854775808) % 18446744073709551616 - 9223372036854775808 = ((m + 1 : Nat) : Int) := by omega
    simp only [ew, ew2, ew3, ew4, ew5, Int.toNat_natCast] at *
    have dm := da m
    have step : ∀ s t u : Int, s = (Sy.rowAt x27_0 ((m + n : Nat) : Int) 0 + ((Sy.rowAt al m 0 * u + 9223372036854775808) % 18446744073709551616 - 9223372036854775808) + 9223372036854775808) % 18446744073709551616 - 9223372036854775808 → u = Sy.rowAt bl n 0 → (n < bl.length ∨ n = bl.length ∧ 0 < x27_1) →
        ∀ y : List (List Int), y = Sy.rowSet x27_0 ((m + n : Nat) : Int) 0 [((s + x27_1 + 9223372036854775808) % 18446744073709551616 - 9223372036854775808).tmod 10000] → t = (((s + x27_1 + 9223372036854775808) % 18446744073709551616 - 9223372036854775808).tdiv 10000 + 9223372036854775808) % 18446744073709551616 - 9223372036854775808 →
        (0 ≤ ((n + 1 : Nat) : Int) ∧ 0 ≤ t ∧ t < 10000 ∧ y.length = x18_0.length ∧ dig y ∧ (((n + 1 : Nat) : Int) ≤ bl.length ∨ ((n + 1 : Nat) : Int) ≤ bl.length + 1 ∧ t = 0) ∧ (∀ j : Nat, (m : Int) + ((n + 1 : Nat) : Int) ≤ j → Sy.rowAt y j 0 = Sy.rowAt x18_0 j 0) ∧
          dval y + P4 (m + n + 1) * (t + Sy.rowAt al m 0 * dval (bl.drop (n + 1))) = dval x18_0 + P4 m * (Sy.rowAt al m 0 * dval bl)) := by
      intro s t u hs hu hn y hy ht
      obtain ⟨q1, q2, q3, q4, q5⟩ := mul_step (m := m) (n := n) (c := x27_1) (x := Sy.rowAt al m 0) j4 db j1 j2 dm.1 dm.2 (by omega) (fun j hj => j6 j (by omega)) j7 _ rfl
      have dn := db n
      have pm := mul_below dm.1 (show Sy.rowAt al m 0 ≤ 9999 by omega) dn.1 (show Sy.rowAt bl n 0 ≤ 9999 by omega)
      have d1 := j4 (m + n)
      subst hu
      have es : (s + x27_1 + 9223372036854775808) % 18446744073709551616 - 9223372036854775808 = Sy.rowAt x27_0 ((m + n : Nat) : Int) 0 + Sy.rowAt al m 0 * Sy.rowAt bl n 0 + x27_1 := by
        generalize Sy.rowAt al m 0 * Sy.rowAt bl n 0 = z at *
        omega
      rw [es] at hy ht
      have z0 : n = bl.length → Sy.rowAt x27_0 ((m + n : Nat) : Int) 0 + Sy.rowAt al m 0 * Sy.rowAt bl n 0 + x27_1 = x27_1 := by
        intro e
        rw [rowAt_out (L := bl) (by omega), Int.mul_zero, j6 (m + n) (by omega), i4 (m + n) (by omega)]
        omega
      generalize Sy.rowAt x27_0 ((m + n : Nat) : Int) 0 + Sy.rowAt al m 0 * Sy.rowAt bl n 0 + x27_1 = S at *
      rw [Int.tmod_eq_emod_of_nonneg q1] at hy
      rw [Int.tdiv_eq_ediv_of_nonneg q1] at ht
      have et : t = S / 10000 := by omega
      subst et hy
      refine ⟨by omega, by omega, by omega, by rw [rowSet_len]; exact j3, q3, ?_, fun j hj => q4 j (by omega), q5⟩
      rcases hn with h | ⟨h, _⟩
      · left; omega
      · have := z0 h
        right; omega
    have next : bl.length ≤ n → x27_1 ≤ 0 → (0 ≤ ((m + 1 : Nat) : Int) ∧ ((m + 1 : Nat) : Int) ≤ al.length ∧ x27_0.length = al.length + bl.length + 1 ∧ dig x27_0 ∧ (∀ k : Nat, ((m + 1 : Nat) : Int) + bl.length ≤ k → Sy.rowAt x27_0 k 0 = 0) ∧ dval x27_0 + P4 (m + 1) * (dval (al.drop (m + 1)) * dval bl) = dval al * dval bl) := by
      intro h1 h2
      refine ⟨by omega, by omega, by omega, j4, fun k hk => ?_, ?_⟩
      · rw [j6 k (by omega), i4 k (by omega)]
      · rw [List.drop_of_length_le h1] at j7
        have c0 : x27_1 = 0 := by omega
        simp only [dval, c0, Int.mul_zero, Int.add_zero] at j7
        rw [j7, ← i5, dval_drop al m]
        simp only [P4]
        grind
    exact ⟨fun c => ⟨by omega, fun _ => ⟨by omega, fun _ => ⟨by omega, fun u1 u2 u3 u4 => ⟨fun n => n (step _ _ _ u2 u1 (Or.inl (by omega)) _ u3 u4), by omega⟩⟩⟩⟩, fun c => ⟨fun c2 => ⟨by omega, fun _ => ⟨by omega, fun _ => ⟨by omega, fun u1 u2 u3 u4 => ⟨fun n => n (step _ _ _ u2 u1 (Or.inr ⟨by omega, c2⟩) _ u3 u4), by omega⟩⟩⟩⟩, fun c2 => ⟨fun n => n (next (by omega) c2), by omega⟩⟩⟩
  · intro n
    obtain ⟨f1, f2, f3, f4⟩ := ent _ y0
    exact n ⟨by omega, f1, f2, fun k _ => f3 k, by rw [f4]; simp [P4]⟩
end Go.Proofs.YtjemohphaeiaiaaGreatDoor.Fn
namespace Go.Proofs.YtjemohphaeiaiaaGreatDoor.Fn
open Go Go.RowKit Go.Proofs.YtjemohphaeiaiaaGreatDoor.Sy
set_option linter.unusedVariables false
set_option linter.unusedSimpArgs false
set_option maxRecDepth 100000
def t30 : Tr :=
  .br (.f (.rel 45 [.num (.wrap .u64 (.v 0 1))] 65544 [.bool, .list [.int .i64]]) <|
   .br (.f (.rel 45 [.num (.v 0 3)] 65546 [.bool, .list [.int .i64]]) <|
    .br (.f (.rel 45 [.num (.n 1048576)] 65547 [.bool, .list [.int .i64]]) <|
     .br (.f (.rel 46 [.tru (.v 65546 0), .lst 65546 1, .tru (.v 65547 0), .lst 65547 1] 65548 [.bool, .list [.int .i64]]) <|
      .br (.f (.rel 44 [.tru (.v 65544 0), .lst 65544 1, .tru (.v 65548 0), .lst 65548 1] 65549 [.bool, .list [.int .i64]]) <|
       .br (.f (.rel 43 [.num (.v 0 0), .tru (.v 65549 0), .lst 65549 1, .num (.v 0 2)] 65552 [.int .u64, .int .u32, .int .u32, .bool]) <|
        .ok [.num (.v 65552 0), .num (.v 65552 1), .num (.v 65552 2), .tru (.v 65552 3)])
       (.f (.npre 43 [.num (.v 0 0), .tru (.v 65549 0), .lst 65549 1, .num (.v 0 2)]) <|
        .bad))
      (.f (.npre 44 [.tru (.v 65544 0), .lst 65544 1, .tru (.v 65548 0), .lst 65548 1]) <|
       .bad))
     (.f (.npre 46 [.tru (.v 65546 0), .lst 65546 1, .tru (.v 65547 0), .lst 65547 1]) <|
      .bad))
    (.f (.npre 45 [.num (.n 1048576)]) <|
     .bad))
   (.f (.npre 45 [.num (.v 0 3)]) <|
    .bad))
  (.f (.npre 45 [.num (.wrap .u64 (.v 0 1))]) <|
   .bad)
theorem c30 : ConS Tryz.prog T C30 := con_tr (cs := [C43, C44, C45, C46]) (lcs := []) (known := []) (cons_cons c43 (cons_cons c44 (cons_cons c45 (cons_cons c46 (cons_nil _ _))))) (Known.nil _) (N := 400) (d := 40) (t := t30) (by kernel_rfl) <| by
  intro E hl hp
  clear hl
  have hp := hp rfl
  simp only [C30, show T.pre 30 = Q30 from rfl, flatS, SP.flat, dvs, List.append_nil, List.cons_append, List.nil_append, Q30, U64, U32, I64, Big, W, wv, s64, WT, PR, MR, MB] at hp
  simp only [t30, C30, Tr.good, Fact.den, LX.den, DX.ls, DV.ls, DX.den, Bx.den, Ex.den, eo_add, eo_sub, eo_mul, eo_quo, eo_rem, eo_fdv, eo_mn, eo_mx, eo_land, eo_lor, eo_lxor, eo_landn, eo_shl, eo_shr, dvs, flatS, SP.flat, ST.flat, List.map_cons, List.map_nil, List.append_nil, List.cons_append, List.nil_append, ltb_t, ltb_f, leb_t, leb_f, eqb_t, eqb_f, decide_eq_true_eq, decide_eq_false_iff_not, Bool.not_eq_true', Bool.not_eq_false', Bool.and_eq_true, Bool.and_eq_false_imp, beq_iff_eq, beq_eq_false_iff_ne, bne_iff_ne, U64, U32, I64, Big, W, wv, Told, s64, WT, PR, MR, MB, Int.zero_mul, Int.zero_add, Int.add_zero, Int.mul_zero, IntKind.wrap_u64, IntKind.wrap_i64, IntKind.wrap_u32, ne_eq, forall_const, true_implies, show T.rel 30 = R30 from rfl, R30, show T.rel 43 = R43 from rfl, R43, show T.rel 44 = R44 from rfl, R44, show T.rel 45 = R45 from rfl, R45, show T.rel 46 = R46 from rfl, R46, show T.pre 30 = Q30 from rfl, Q30, show T.pre 43 = Q43 from rfl, Q43, show T.pre 44 = Q44 from rfl, Q44, show T.pre 45 = Q45 from rfl, Q45, show T.pre 46 = Q46 from rfl, Q46]
  revert hp
  generalize (E.r 0).i 0 = t
  generalize (E.r 0).i 1 = r
  generalize (E.r 0).i 2 = w
  generalize (E.r 0).i 3 = ns
  generalize (E.r 65544).c 0 = x8_0
  generalize (E.r 65544).l 1 = x8_1
  generalize (E.r 65546).c 0 = x10_0
  generalize (E.r 65546).l 1 = x10_1
  generalize (E.r 65547).c 0 = x11_0
  generalize (E.r 65547).l 1 = x11_1
  generalize (E.r 65548).c 0 = x12_0
  generalize (E.r 65548).l 1 = x12_1
  generalize (E.r 65549).c 0 = x13_0
  generalize (E.r 65549).l 1 = x13_1
  generalize (E.r 65552).i 0 = x16_0
  generalize (E.r 65552).i 1 = x16_1
  generalize (E.r 65552).i 2 = x16_2
  generalize (E.r 65552).c 3 = x16_3
  try simp only [Bg]
  try generalize bval x8_0 x8_1 = y8_0
  try generalize bval x10_0 x10_1 = y10_0
  try generalize bval x11_0 x11_1 = y11_0
  try generalize bval x12_0 x12_1 = y12_0
  try generalize bval x13_0 x13_1 = y13_0
  try simp only [mxI, mnI]
  try simp only [ltb, leb, eqb, Int.lt_irrefl, decide_false, Int.le_refl, decide_true]
  intro hp
  have e1 : r % 18446744073709551616 = r := by omega
  simp only [e1, mvt, mvr]
  repeat' (first | assumption | (intro (h : _ ∧ _); obtain ⟨h1, h2⟩ := h; (first | (subst h1; revert h2) | revert h1 h2)) | (intro h; (first | subst h | skip)) | refine And.intro ?_ ?_)
  all_goals try (show False; refine absurd ?_ ‹¬ _›)
  all_goals repeat' (first | assumption | refine And.intro ?_ ?_)
  all_goals try simp only [show ∀ a b : Int, a + b * 1048576 = b * 1048576 + a from fun a b => by omega] at *
  all_goals first | omega | grind
end Go.Proofs.YtjemohphaeiaiaaGreatDoor.Fn
namespace Go.Proofs.YtjemohphaeiaiaaGreatDoor.Fn
open Go Go.RowKit Go.Proofs.YtjemohphaeiaiaaGreatDoor.Sy
set_option linter.unusedVariables false
set_option linter.unusedSimpArgs false
set_option maxRecDepth 100000
def t52 : Tr :=
  .br (.f (.rel 45 [.num (.v 0 0)] 65538 [.bool, .list [.int .i64]]) <|
   .br (.f (.rel 45 [.num (.v 0 1)] 65540 [.bool, .list [.int .i64]]) <|
    .br (.f (.rel 75 [.tru (.v 65538 0), .lst 65538 1, .tru (.v 65540 0), .lst 65540 1] 65541 [.bool, .list [.int .i64]]) <|
     .br (.f (.rel 56 [.num (.n 63)] 65545 [.bool, .list [.int .i64]]) <|
      .br (.f (.rel 55 [.tru (.v 65541 0), .lst 65541 1, .tru (.v 65545 0), .lst 65545 1] 65546 [.int .i64]) <|
       .br (.f (.is (.le (.n 0) (.v 65546 0)) true) <|
        .br (.f (.rel 56 [.num (.n 64)] 65549 [.bool, .list [.int .i64]]) <|
         .br (.f (.rel 75 [.tru (.v 65541 0), .lst 65541 1, .tru (.v 65549 0), .lst 65549 1] 65550 [.bool, .list [.int .i64]]) <|
          .ok [.tru (.v 65550 0), .lst 65550 1])
         (.f (.npre 75 [.tru (.v 65541 0), .lst 65541 1, .tru (.v 65549 0), .lst 65549 1]) <|
          .bad))
        (.f (.npre 56 [.num (.n 64)]) <|
         .bad))
       (.f (.is (.le (.n 0) (.v 65546 0)) false) <|
        .br (.f (.rel 56 [.num (.n 63)] 65549 [.bool, .list [.int .i64]]) <|
         .br (.f (.rel 76 [.tru (.v 65549 0), .lst 65549 1] 65550 [.bool, .list [.int .i64]]) <|
          .br (.f (.rel 55 [.tru (.v 65541 0), .lst 65541 1, .tru (.v 65550 0), .lst 65550 1] 65551 [.int .i64]) <|
           .br (.f (.is (.lt (.v 65551 0) (.n 0)) true) <|
            .br (.f (.rel 56 [.num (.n 64)] 65554 [.bool, .list [.int .i64]]) <|
             .br (.f (.rel 44 [.tru (.v 65541 0), .lst 65541 1, .tru (.v 65554 0), .lst 65554 1] 65555 [.bool, .list [.int .i64]]) <|
              .ok [.tru (.v 65555 0), .lst 65555 1])
             (.f (.npre 44 [.tru (.v 65541 0), .lst 65541 1, .tru (.v 65554 0), .lst 65554 1]) <|
              .bad))
            (.f (.npre 56 [.num (.n 64)]) <|
             .bad))
           (.f (.is (.lt (.v 65551 0) (.n 0)) false) <|
            .ok [.tru (.v 65541 0), .lst 65541 1]))
          (.f (.npre 55 [.tru (.v 65541 0), .lst 65541 1, .tru (.v 65550 0), .lst 65550 1]) <|
           .bad))
         (.f (.npre 76 [.tru (.v 65549 0), .lst 65549 1]) <|
          .bad))
        (.f (.npre 56 [.num (.n 63)]) <|
         .bad)))
      (.f (.npre 55 [.tru (.v 65541 0), .lst 65541 1, .tru (.v 65545 0), .lst 65545 1]) <|
       .bad))
     (.f (.npre 56 [.num (.n 63)]) <|
      .bad))
    (.f (.npre 75 [.tru (.v 65538 0), .lst 65538 1, .tru (.v 65540 0), .lst 65540 1]) <|
     .bad))
   (.f (.npre 45 [.num (.v 0 1)]) <|
    .bad))
  (.f (.npre 45 [.num (.v 0 0)]) <|
   .bad)
theorem c52 : ConS Tryz.prog T C52 := con_tr (cs := [C44, C45, C55, C56, C75, C76]) (lcs := []) (known := []) (cons_cons c44 (cons_cons c45 (cons_cons c55 (cons_cons c56 (cons_cons c75 (cons_cons c76 (cons_nil _ _))))))) (Known.nil _) (N := 400) (d := 40) (t := t52) (by kernel_rfl) <| by
  intro E hl hp
  clear hl
  have hp := hp rfl
  simp only [C52, show T.pre 52 = Q52 from rfl, flatS, SP.flat, dvs, List.append_nil, List.cons_append, List.nil_append, Q52, U64, U32, I64, Big, W, wv, s64, WT, PR, MR, MB] at hp
  simp only [t52, C52, Tr.good, Fact.den, LX.den, DX.ls, DV.ls, DX.den, Bx.den, Ex.den, eo_add, eo_sub, eo_mul, eo_quo, eo_rem, eo_fdv, eo_mn, eo_mx, eo_land, eo_lor, eo_lxor, eo_landn, eo_shl, eo_shr, dvs, flatS, SP.flat, ST.flat, List.map_cons, List.map_nil, List.append_nil, List.cons_append, List.nil_append, ltb_t, ltb_f, leb_t, leb_f, eqb_t, eqb_f, decide_eq_true_eq, decide_eq_false_iff_not, Bool.not_eq_true', Bool.not_eq_false', Bool.and_eq_true, Bool.and_eq_false_imp, beq_iff_eq, beq_eq_false_iff_ne, bne_iff_ne, U64, U32, I64, Big, W, wv, Told, s64, WT, PR, MR, MB, Int.zero_mul, Int.zero_add, Int.add_zero, Int.mul_zero, IntKind.wrap_u64, IntKind.wrap_i64, IntKind.wrap_u32, ne_eq, forall_const, true_implies, show T.rel 44 = R44 from rfl, R44, show T.rel 45 = R45 from rfl, R45, show T.rel 52 = R52 from rfl, R52, show T.rel 55 = R55 from rfl, R55, show T.rel 56 = R56 from rfl, R56, show T.rel 75 = R75 from rfl, R75, show T.rel 76 = R76 from rfl, R76, show T.pre 44 = Q44 from rfl, Q44, show T.pre 45 = Q45 from rfl, Q45, show T.pre 52 = Q52 from rfl, Q52, show T.pre 55 = Q55 from rfl, Q55, show T.pre 56 = Q56 from rfl, Q56, show T.pre 75 = Q75 from rfl, Q75, show T.pre 76 = Q76 from rfl, Q76]
  revert hp
  generalize (E.r 0).i 0 = t
  generalize (E.r 0).i 1 = u
  generalize (E.r 65538).c 0 = x2_0
  generalize (E.r 65538).l 1 = x2_1
  generalize (E.r 65540).c 0 = x4_0
  generalize (E.r 65540).l 1 = x4_1
  generalize (E.r 65541).c 0 = x5_0
  generalize (E.r 65541).l 1 = x5_1
  generalize (E.r 65545).c 0 = x9_0
  generalize (E.r 65545).l 1 = x9_1
  generalize (E.r 65546).i 0 = x10_0
  generalize (E.r 65549).c 0 = x13_0
  generalize (E.r 65549).l 1 = x13_1
  generalize (E.r 65550).c 0 = x14_0
  generalize (E.r 65550).l 1 = x14_1
  generalize (E.r 65551).i 0 = x15_0
  generalize (E.r 65554).c 0 = x18_0
  generalize (E.r 65554).l 1 = x18_1
  generalize (E.r 65555).c 0 = x19_0
  generalize (E.r 65555).l 1 = x19_1
  try simp only [mxI, mnI]
  try simp only [ltb, leb, eqb, Int.lt_irrefl, decide_false, Int.le_refl, decide_true]
  intro hp
  rw [p2_63, p2_64]
  repeat' (first | assumption | (intro (h : _ ∧ _); obtain ⟨_, _⟩ := h) | intro _ | refine And.intro ?_ ?_)
  all_goals try (show False; refine absurd ?_ ‹¬ _›)
  all_goals repeat' (first | assumption | refine And.intro ?_ ?_)
  all_goals first | omega | (simp_all; done) | (simp_all; omega)
end Go.Proofs.YtjemohphaeiaiaaGreatDoor.Fn
namespace Go.Proofs.YtjemohphaeiaiaaGreatDoor.Fn
open Go Go.RowKit Go.Proofs.YtjemohphaeiaiaaGreatDoor.Sy
set_option linter.unusedVariables false
set_option linter.unusedSimpArgs false
set_option maxRecDepth 100000
def t53 : Tr :=
  .br (.f (.is (.le (.n 1) (.v 0 2)) true) <|
   .br (.f (.is (.le (.v 0 2) (.n 1048576)) true) <|
    .ok [.tru (.lt (.v 0 1) (.v 0 2))])
   (.f (.is (.le (.v 0 2) (.n 1048576)) false) <|
    .ok [.tru (.lt (.n 0) (.n 0))]))
  (.f (.is (.le (.n 1) (.v 0 2)) false) <|
   .ok [.tru (.lt (.n 0) (.n 0))])
theorem c53 : ConS Tryz.prog T C53 := con_tr (cs := []) (lcs := []) (known := []) (cons_nil _ _) (Known.nil _) (N := 400) (d := 40) (t := t53) (by kernel_rfl) <| by
  intro E hl hp
  clear hl
  clear hp
  simp only [t53, C53, Tr.good, Fact.den, LX.den, DX.ls, DV.ls, DX.den, Bx.den, Ex.den, eo_add, eo_sub, eo_mul, eo_quo, eo_rem, eo_fdv, eo_mn, eo_mx, eo_land, eo_lor, eo_lxor, eo_landn, eo_shl, eo_shr, dvs, flatS, SP.flat, ST.flat, List.map_cons, List.map_nil, List.append_nil, List.cons_append, List.nil_append, ltb_t, ltb_f, leb_t, leb_f, eqb_t, eqb_f, decide_eq_true_eq, decide_eq_false_iff_not, Bool.not_eq_true', Bool.not_eq_false', Bool.and_eq_true, Bool.and_eq_false_imp, beq_iff_eq, beq_eq_false_iff_ne, bne_iff_ne, U64, U32, I64, Big, W, wv, Told, s64, WT, PR, MR, MB, Int.zero_mul, Int.zero_add, Int.add_zero, Int.mul_zero, IntKind.wrap_u64, IntKind.wrap_i64, IntKind.wrap_u32, ne_eq, forall_const, true_implies, show T.rel 53 = R53 from rfl, R53]
  generalize (E.r 0).i 0 = t
  generalize (E.r 0).i 1 = r
  generalize (E.r 0).i 2 = w
  try simp only [mxI, mnI]
  try simp only [ltb, leb, eqb, Int.lt_irrefl, decide_false, Int.le_refl, decide_true]
  simp only [Pq, PR]
  repeat' (first | intro _ | refine And.intro ?_ ?_ | refine Iff.intro ?_ ?_)
  all_goals first | omega | (simp_all; done) | (simp_all; omega)
end Go.Proofs.YtjemohphaeiaiaaGreatDoor.Fn
namespace Go.Proofs.YtjemohphaeiaiaaGreatDoor.Fn
open Go Go.RowKit Go.Proofs.YtjemohphaeiaiaaGreatDoor.Sy
set_option linter.unusedVariables false
set_option linter.unusedSimpArgs false
set_option maxRecDepth 100000
def t40 : Tr :=
  .br (.f (.rel 52 [.num (.v 0 4), .num (.v 0 0)] 65544 [.bool, .list [.int .i64]]) <|
   .f (.rel 53 [.num (.v 0 0), .num (.v 0 1), .num (.v 0 2)] 65549 [.bool]) <|
    .br (.f (.is (.v 65549 0) true) <|
     .f (.rel 53 [.num (.v 0 4), .num (.v 0 5), .num (.v 0 6)] 65553 [.bool]) <|
      .br (.f (.is (.v 65553 0) true) <|
       .br (.f (.is (.eq (.v 0 2) (.v 0 6)) true) <|
        .br (.f (.is (.lt (.n 0) (.v 0 3)) true) <|
         .br (.f (.rel 54 [.tru (.v 65544 0), .lst 65544 1] 65571 [.int .i64]) <|
          .br (.f (.is (.le (.n 0) (.v 65571 0)) true) <|
           .br (.f (.rel 56 [.num (.n 60)] 65576 [.bool, .list [.int .i64]]) <|
            .br (.f (.rel 55 [.tru (.v 65544 0), .lst 65544 1, .tru (.v 65576 0), .lst 65576 1] 65577 [.int .i64]) <|
             .ok [.tru (.le (.v 65577 0) (.n 0))])
            (.f (.npre 55 [.tru (.v 65544 0), .lst 65544 1, .tru (.v 65576 0), .lst 65576 1]) <|
             .bad))
           (.f (.npre 56 [.num (.n 60)]) <|
            .bad))
          (.f (.is (.le (.n 0) (.v 65571 0)) false) <|
           .ok [.tru (.lt (.n 0) (.n 0))]))
         (.f (.npre 54 [.tru (.v 65544 0), .lst 65544 1]) <|
          .bad))
        (.f (.is (.lt (.n 0) (.v 0 3)) false) <|
         .ok [.tru (.lt (.n 0) (.n 0))]))
       (.f (.is (.eq (.v 0 2) (.v 0 6)) false) <|
        .ok [.tru (.lt (.n 0) (.n 0))]))
      (.f (.is (.v 65553 0) false) <|
       .ok [.tru (.lt (.n 0) (.n 0))]))
    (.f (.is (.v 65549 0) false) <|
     .ok [.tru (.lt (.n 0) (.n 0))]))
  (.f (.npre 52 [.num (.v 0 4), .num (.v 0 0)]) <|
   .bad)
theorem c40 : ConS Tryz.prog T C40 := con_tr (cs := [C52, C53, C54, C55, C56]) (lcs := []) (known := []) (cons_cons c52 (cons_cons c53 (cons_cons c54 (cons_cons c55 (cons_cons c56 (cons_nil _ _)))))) (Known.nil _) (N := 400) (d := 40) (t := t40) (by kernel_rfl) <| by
  intro E hl hp
  clear hl
  have hp := hp rfl
  simp only [C40, show T.pre 40 = Q40 from rfl, flatS, SP.flat, dvs, List.append_nil, List.cons_append, List.nil_append, Q40, U64, U32, I64, Big, W, wv, s64, WT, PR, MR, MB] at hp
  simp only [t40, C40, Tr.good, Fact.den, LX.den, DX.ls, DV.ls, DX.den, Bx.den, Ex.den, eo_add, eo_sub, eo_mul, eo_quo, eo_rem, eo_fdv, eo_mn, eo_mx, eo_land, eo_lor, eo_lxor, eo_landn, eo_shl, eo_shr, dvs, flatS, SP.flat, ST.flat, List.map_cons, List.map_nil, List.append_nil, List.cons_append, List.nil_append, ltb_t, ltb_f, leb_t, leb_f, eqb_t, eqb_f, decide_eq_true_eq, decide_eq_false_iff_not, Bool.not_eq_true', Bool.not_eq_false', Bool.and_eq_true, Bool.and_eq_false_imp, beq_iff_eq, beq_eq_false_iff_ne, bne_iff_ne, U64, U32, I64, Big, W, wv, Told, s64, WT, PR, MR, MB, Int.zero_mul, Int.zero_add, Int.add_zero, Int.mul_zero, IntKind.wrap_u64, IntKind.wrap_i64, IntKind.wrap_u32, ne_eq, forall_const, true_implies, show T.rel 40 = R40 from rfl, R40, show T.rel 52 = R52 from rfl, R52, show T.rel 53 = R53 from rfl, R53, show T.rel 54 = R54 from rfl, R54, show T.rel 55 = R55 from rfl, R55, show T.rel 56 = R56 from rfl, R56, show T.pre 40 = Q40 from rfl, Q40, show T.pre 52 = Q52 from rfl, Q52, show T.pre 54 = Q54 from rfl, Q54, show T.pre 55 = Q55 from rfl, Q55, show T.pre 56 = Q56 from rfl, Q56]
  revert hp
  generalize (E.r 0).i 0 = t
  generalize (E.r 0).i 1 = r
  generalize (E.r 0).i 2 = w
  generalize (E.r 0).i 3 = id
  generalize (E.r 0).i 4 = dt
  generalize (E.r 0).i 5 = dr
  generalize (E.r 0).i 6 = dw
  generalize (E.r 65544).c 0 = x8_0
  generalize (E.r 65544).l 1 = x8_1
  generalize (E.r 65549).c 0 = x13_0
  generalize (E.r 65553).c 0 = x17_0
  generalize (E.r 65571).i 0 = x35_0
  generalize (E.r 65576).c 0 = x40_0
  generalize (E.r 65576).l 1 = x40_1
  generalize (E.r 65577).i 0 = x41_0
  try simp only [Bg]
  try generalize bval x8_0 x8_1 = y8_0
  try generalize bval x40_0 x40_1 = y40_0
  try simp only [mxI, mnI]
  try simp only [ltb, leb, eqb, Int.lt_irrefl, decide_false, Int.le_refl, decide_true]
  intro hp
  simp only [Pq]
  rw [show (2 : Int) ^ (Int.toNat 60) = 1152921504606846976 from rfl]
  repeat' (first | assumption | (intro (h : _ ∧ _); obtain ⟨h1, h2⟩ := h; (first | (subst h1; revert h2) | revert h1 h2)) | (intro h; (first | subst h | skip)) | refine And.intro ?_ ?_)
  all_goals try (show False; refine absurd ?_ ‹¬ _›)
  all_goals repeat' (first | assumption | refine And.intro ?_ ?_)
  all_goals first | omega | grind
end Go.Proofs.YtjemohphaeiaiaaGreatDoor.Fn
namespace Go.Proofs.YtjemohphaeiaiaaGreatDoor.Fn
open Go Go.RowKit Go.Proofs.YtjemohphaeiaiaaGreatDoor.Sy
set_option linter.unusedVariables false
set_option linter.unusedSimpArgs false
set_option maxRecDepth 100000
def t41 : Tr :=
  .br (.f (.is (.le (.n 1) (.v 0 0)) true) <|
   .ok [.tru (.le (.v 0 0) (.n 1099511627776))])
  (.f (.is (.le (.n 1) (.v 0 0)) false) <|
   .ok [.tru (.lt (.n 0) (.n 0))])
theorem c41 : ConS Tryz.prog T C41 := con_tr (cs := []) (lcs := []) (known := []) (cons_nil _ _) (Known.nil _) (N := 400) (d := 40) (t := t41) (by kernel_rfl) <| by
  intro E hl hp
  clear hl
  clear hp
  simp only [t41, C41, Tr.good, Fact.den, LX.den, DX.ls, DV.ls, DX.den, Bx.den, Ex.den, eo_add, eo_sub, eo_mul, eo_quo, eo_rem, eo_fdv, eo_mn, eo_mx, eo_land, eo_lor, eo_lxor, eo_landn, eo_shl, eo_shr, dvs, flatS, SP.flat, ST.flat, List.map_cons, List.map_nil, List.append_nil, List.cons_append, List.nil_append, ltb_t, ltb_f, leb_t, leb_f, eqb_t, eqb_f, decide_eq_true_eq, decide_eq_false_iff_not, Bool.not_eq_true', Bool.not_eq_false', Bool.and_eq_true, Bool.and_eq_false_imp, beq_iff_eq, beq_eq_false_iff_ne, bne_iff_ne, U64, U32, I64, Big, W, wv, Told, s64, WT, PR, MR, MB, Int.zero_mul, Int.zero_add, Int.add_zero, Int.mul_zero, IntKind.wrap_u64, IntKind.wrap_i64, IntKind.wrap_u32, ne_eq, forall_const, true_implies, show T.rel 41 = R41 from rfl, R41]
  generalize (E.r 0).i 0 = ns
  try simp only [mxI, mnI]
  try simp only [ltb, leb, eqb, Int.lt_irrefl, decide_false, Int.le_refl, decide_true]
  simp only [NS]
  repeat' (first | intro _ | refine And.intro ?_ ?_ | refine Iff.intro ?_ ?_)
  all_goals first | omega | (simp_all; done) | (simp_all; omega)
end Go.Proofs.YtjemohphaeiaiaaGreatDoor.Fn
namespace Go.Proofs.YtjemohphaeiaiaaGreatDoor.Fn
open Go Go.RowKit Go.Proofs.YtjemohphaeiaiaaGreatDoor.Sy
set_option linter.unusedVariables false
set_option linter.unusedSimpArgs false
set_option maxRecDepth 100000
def t27 : Tr :=
  .br (.f (.rel 30 [.num (.v 0 0), .num (.v 0 1), .num (.v 0 2), .num (.v 0 7)] 65543 [.int .u64, .int .u32, .int .u32, .bool]) <|
   .br (.f (.rel 40 [.num (.v 0 0), .num (.v 0 1), .num (.v 0 2), .num (.v 0 3), .num (.v 0 4), .num (.v 0 5), .num (.v 0 6)] 65552 [.bool]) <|
    .br (.f (.is (.v 65552 0) true) <|
     .f (.rel 41 [.num (.v 0 7)] 65556 [.bool]) <|
      .br (.f (.is (.v 65556 0) true) <|
       .f (.rel 41 [.num (.v 0 8)] 65561 [.bool]) <|
        .br (.f (.is (.v 65561 0) true) <|
         .br (.f (.is (.v 65543 3) true) <|
          .ok [.tru (.and (.eq (.v 65543 0) (.v 0 4)) (.and (.eq (.v 65543 1) (.v 0 5)) (.and (.eq (.v 65543 2) (.v 0 6)) (.le (.n 0) (.n 0)))))])
         (.f (.is (.v 65543 3) false) <|
          .ok [.tru (.lt (.n 0) (.n 0))]))
        (.f (.is (.v 65561 0) false) <|
         .ok [.tru (.lt (.n 0) (.n 0))]))
      (.f (.is (.v 65556 0) false) <|
       .ok [.tru (.lt (.n 0) (.n 0))]))
    (.f (.is (.v 65552 0) false) <|
     .ok [.tru (.lt (.n 0) (.n 0))]))
   (.f (.npre 40 [.num (.v 0 0), .num (.v 0 1), .num (.v 0 2), .num (.v 0 3), .num (.v 0 4), .num (.v 0 5), .num (.v 0 6)]) <|
    .bad))
  (.f (.npre 30 [.num (.v 0 0), .num (.v 0 1), .num (.v 0 2), .num (.v 0 7)]) <|
   .bad)
theorem c27 : ConS Tryz.prog T C27 := con_tr (cs := [C30, C40, C41]) (lcs := []) (known := []) (cons_cons c30 (cons_cons c40 (cons_cons c41 (cons_nil _ _)))) (Known.nil _) (N := 400) (d := 40) (t := t27) (by kernel_rfl) <| by
  intro E hl hp
  clear hl
  have hp := hp rfl
  simp only [C27, show T.pre 27 = Q27 from rfl, flatS, SP.flat, dvs, List.append_nil, List.cons_append, List.nil_append, Q27, U64, U32, I64, Big, W, wv, s64, MR, MB] at hp
  simp only [t27, C27, Tr.good, Fact.den, LX.den, DX.ls, DV.ls, DX.den, Bx.den, Ex.den, eo_add, eo_sub, eo_mul, eo_quo, eo_rem, eo_fdv, eo_mn, eo_mx, eo_land, eo_lor, eo_lxor, eo_landn, eo_shl, eo_shr, dvs, flatS, SP.flat, ST.flat, List.map_cons, List.map_nil, List.append_nil, List.cons_append, List.nil_append, ltb_t, ltb_f, leb_t, leb_f, eqb_t, eqb_f, decide_eq_true_eq, decide_eq_false_iff_not, Bool.not_eq_true', Bool.not_eq_false', Bool.and_eq_true, Bool.and_eq_false_imp, beq_iff_eq, beq_eq_false_iff_ne, bne_iff_ne, U64, U32, I64, Big, W, wv, Told, s64, MR, MB, Int.zero_mul, Int.zero_add, Int.add_zero, Int.mul_zero, IntKind.wrap_u64, IntKind.wrap_i64, IntKind.wrap_u32, ne_eq, forall_const, true_implies, show T.rel 27 = R27 from rfl, R27, show T.rel 30 = R30 from rfl, R30, show T.rel 40 = R40 from rfl, R40, show T.rel 41 = R41 from rfl, R41, show T.pre 27 = Q27 from rfl, Q27, show T.pre 30 = Q30 from rfl, Q30, show T.pre 40 = Q40 from rfl, Q40]
  revert hp
  generalize (E.r 0).i 0 = t
  generalize (E.r 0).i 1 = r
  generalize (E.r 0).i 2 = w
  generalize (E.r 0).i 3 = id
  generalize (E.r 0).i 4 = dt
  generalize (E.r 0).i 5 = dr
  generalize (E.r 0).i 6 = dw
  generalize (E.r 0).i 7 = l
  generalize (E.r 0).i 8 = s
  generalize (E.r 0).c 9 = a
  generalize (E.r 65543).i 0 = x7_0
  generalize (E.r 65543).i 1 = x7_1
  generalize (E.r 65543).i 2 = x7_2
  generalize (E.r 65543).c 3 = x7_3
  generalize (E.r 65552).c 0 = x16_0
  generalize (E.r 65556).c 0 = x20_0
  generalize (E.r 65561).c 0 = x25_0
  try simp only [Bg]
  try simp only [mxI, mnI]
  try simp only [ltb, leb, eqb, Int.lt_irrefl, decide_false, Int.le_refl, decide_true]
  intro hp
  simp only [RQ]
  have d := due_right (t := t) (r := r) (w := w) (l := l) hp.1 hp.2.1.1
  have wt : PR r w → WT w := fun h => ⟨h.1, h.2.1⟩
  simp only [s64] at d
  repeat' (first | assumption | (intro (h : _ ∧ _); obtain ⟨h1, h2⟩ := h; (first | (subst h1; revert h2) | revert h1 h2)) | (intro h; (first | subst h | skip)) | refine And.intro ?_ ?_)
  all_goals try (show False; refine absurd ?_ ‹¬ _›)
  all_goals repeat' (first | assumption | refine And.intro ?_ ?_)
  all_goals first | omega | grind
end Go.Proofs.YtjemohphaeiaiaaGreatDoor.Fn
namespace Go.Proofs.YtjemohphaeiaiaaGreatDoor.Fn
open Go Go.RowKit Go.Proofs.YtjemohphaeiaiaaGreatDoor.Sy
set_option linter.unusedVariables false
set_option linter.unusedSimpArgs false
set_option maxRecDepth 100000
def t31 : Tr :=
  .br (.f (.rel 30 [.num (.v 0 0), .num (.v 0 1), .num (.v 0 2), .num (.v 0 7)] 65544 [.int .u64, .int .u32, .int .u32, .bool]) <|
   .br (.f (.rel 27 [.num (.v 0 0), .num (.v 0 1), .num (.v 0 2), .num (.v 0 3), .num (.v 65544 0), .num (.v 65544 1), .num (.v 65544 2), .num (.v 0 7), .num (.v 0 8), .tru (.v 0 9)] 65552 [.bool]) <|
    .br (.f (.is (.v 65552 0) false) <|
     .ok [.num (.n 0), .num (.n 0), .num (.n 0), .num (.n 0), .num (.n 0), .num (.n 0), .num (.n 0), .num (.n 0), .num (.n 0), .tru (.lt (.n 0) (.n 0)), .tru (.lt (.n 0) (.n 0))])
    (.f (.is (.v 65552 0) true) <|
     .ok [.num (.v 0 0), .num (.v 0 1), .num (.v 0 2), .num (.v 0 3), .num (.v 65544 0), .num (.v 65544 1), .num (.v 65544 2), .num (.v 0 7), .num (.v 0 8), .tru (.v 0 9), .tru (.le (.n 0) (.n 0))]))
   (.f (.npre 27 [.num (.v 0 0), .num (.v 0 1), .num (.v 0 2), .num (.v 0 3), .num (.v 65544 0), .num (.v 65544 1), .num (.v 65544 2), .num (.v 0 7), .num (.v 0 8), .tru (.v 0 9)]) <|
    .bad))
  (.f (.npre 30 [.num (.v 0 0), .num (.v 0 1), .num (.v 0 2), .num (.v 0 7)]) <|
   .bad)
theorem c31 : ConS Tryz.prog T C31 := con_tr (cs := [C27, C30]) (lcs := []) (known := []) (cons_cons c27 (cons_cons c30 (cons_nil _ _))) (Known.nil _) (N := 400) (d := 40) (t := t31) (by kernel_rfl) <| by
  intro E hl hp
  clear hl
  have hp := hp rfl
  simp only [C31, show T.pre 31 = Q31 from rfl, flatS, SP.flat, dvs, List.append_nil, List.cons_append, List.nil_append, Q31, U64, U32, I64, Big, W, wv, s64, MR, MB] at hp
  simp only [t31, C31, Tr.good, Fact.den, LX.den, DX.ls, DV.ls, DX.den, Bx.den, Ex.den, eo_add, eo_sub, eo_mul, eo_quo, eo_rem, eo_fdv, eo_mn, eo_mx, eo_land, eo_lor, eo_lxor, eo_landn, eo_shl, eo_shr, dvs, flatS, SP.flat, ST.flat, List.map_cons, List.map_nil, List.append_nil, List.cons_append, List.nil_append, ltb_t, ltb_f, leb_t, leb_f, eqb_t, eqb_f, decide_eq_true_eq, decide_eq_false_iff_not, Bool.not_eq_true', Bool.not_eq_false', Bool.and_eq_true, Bool.and_eq_false_imp, beq_iff_eq, beq_eq_false_iff_ne, bne_iff_ne, U64, U32, I64, Big, W, wv, Told, s64, MR, MB, Int.zero_mul, Int.zero_add, Int.add_zero, Int.mul_zero, IntKind.wrap_u64, IntKind.wrap_i64, IntKind.wrap_u32, ne_eq, forall_const, true_implies, show T.rel 27 = R27 from rfl, R27, show T.rel 30 = R30 from rfl, R30, show T.rel 31 = R31 from rfl, R31, show T.pre 27 = Q27 from rfl, Q27, show T.pre 30 = Q30 from rfl, Q30, show T.pre 31 = Q31 from rfl, Q31]
  revert hp
  generalize (E.r 0).i 0 = t
  generalize (E.r 0).i 1 = r
  generalize (E.r 0).i 2 = w
  generalize (E.r 0).i 3 = id
  generalize (E.r 0).i 4 = dt
  generalize (E.r 0).i 5 = dr
  generalize (E.r 0).i 6 = dw
  generalize (E.r 0).i 7 = l
  generalize (E.r 0).i 8 = s
  generalize (E.r 0).c 9 = a
  generalize (E.r 65544).i 0 = x8_0
  generalize (E.r 65544).i 1 = x8_1
  generalize (E.r 65544).i 2 = x8_2
  generalize (E.r 65544).c 3 = x8_3
  generalize (E.r 65552).c 0 = x16_0
  try simp only [mxI, mnI]
  try simp only [ltb, leb, eqb, Int.lt_irrefl, decide_false, Int.le_refl, decide_true]
  intro hp
  simp only [RQ]
  have d := due_right (t := t) (r := r) (w := w) (l := l) hp.1 hp.2.1.1
  have wt : PR r w → WT w := fun h => ⟨h.1, h.2.1⟩
  simp only [s64] at d
  have mu := mvt_u t r w l
  have ru := fun h : WT w => mvr_u r l h
  repeat' (first | assumption | (intro (h : _ ∧ _); obtain ⟨h1, h2⟩ := h; (first | (subst h1; revert h2) | revert h1 h2)) | (intro h; (first | subst h | skip)) | refine And.intro ?_ ?_)
  all_goals try (show False; refine absurd ?_ ‹¬ _›)
  all_goals repeat' (first | assumption | refine And.intro ?_ ?_)
  all_goals first | omega | grind
end Go.Proofs.YtjemohphaeiaiaaGreatDoor.Fn
namespace Go.Proofs.YtjemohphaeiaiaaGreatDoor.Fn
open Go Go.RowKit Go.Proofs.YtjemohphaeiaiaaGreatDoor.Sy
set_option linter.unusedVariables false
set_option linter.unusedSimpArgs false
set_option maxRecDepth 100000
def t23 : Tr :=
  .br (.f (.rel 31 [.num (.v 0 0), .num (.v 0 1), .num (.v 0 2), .num (.v 0 3), .num (.n 0), .num (.n 0), .num (.n 0), .num (.v 0 4), .num (.v 0 4), .tru (.lt (.n 0) (.n 0))] 65545 [.int .u64, .int .u32, .int .u32, .int .i64, .int .u64, .int .u32, .int .u32, .int .u64, .int .u64, .bool, .bool]) <|
   .ok [.num (.v 65545 0), .num (.v 65545 1), .num (.v 65545 2), .num (.v 65545 3), .num (.v 65545 4), .num (.v 65545 5), .num (.v 65545 6), .num (.v 65545 7), .num (.v 65545 8), .tru (.v 65545 9), .tru (.v 65545 10)])
  (.f (.npre 31 [.num (.v 0 0), .num (.v 0 1), .num (.v 0 2), .num (.v 0 3), .num (.n 0), .num (.n 0), .num (.n 0), .num (.v 0 4), .num (.v 0 4), .tru (.lt (.n 0) (.n 0))]) <|
   .bad)
theorem c23 : ConS Tryz.prog T C23 := con_tr (cs := [C31]) (lcs := []) (known := []) (cons_cons c31 (cons_nil _ _)) (Known.nil _) (N := 400) (d := 40) (t := t23) (by kernel_rfl) <| by
  intro E hl hp
  clear hl
  have hp := hp rfl
  simp only [C23, show T.pre 23 = Q23 from rfl, flatS, SP.flat, dvs, List.append_nil, List.cons_append, List.nil_append, Q23, U64, U32, I64, Big, W, wv, s64, MR, MB] at hp
  simp only [t23, C23, Tr.good, Fact.den, LX.den, DX.ls, DV.ls, DX.den, Bx.den, Ex.den, eo_add, eo_sub, eo_mul, eo_quo, eo_rem, eo_fdv, eo_mn, eo_mx, eo_land, eo_lor, eo_lxor, eo_landn, eo_shl, eo_shr, dvs, flatS, SP.flat, ST.flat, List.map_cons, List.map_nil, List.append_nil, List.cons_append, List.nil_append, ltb_t, ltb_f, leb_t, leb_f, eqb_t, eqb_f, decide_eq_true_eq, decide_eq_false_iff_not, Bool.not_eq_true', Bool.not_eq_false', Bool.and_eq_true, Bool.and_eq_false_imp, beq_iff_eq, beq_eq_false_iff_ne, bne_iff_ne, U64, U32, I64, Big, W, wv, Told, s64, MR, MB, Int.zero_mul, Int.zero_add, Int.add_zero, Int.mul_zero, IntKind.wrap_u64, IntKind.wrap_i64, IntKind.wrap_u32, ne_eq, forall_const, true_implies, show T.rel 23 = R23 from rfl, R23, show T.rel 31 = R31 from rfl, R31, show T.pre 23 = Q23 from rfl, Q23, show T.pre 31 = Q31 from rfl, Q31]
  revert hp
  generalize (E.r 0).i 0 = t
  generalize (E.r 0).i 1 = r
  generalize (E.r 0).i 2 = w
  generalize (E.r 0).i 3 = id
  generalize (E.r 0).i 4 = s
  generalize (E.r 65545).i 0 = x9_0
  generalize (E.r 65545).i 1 = x9_1
  generalize (E.r 65545).i 2 = x9_2
  generalize (E.r 65545).i 3 = x9_3
  generalize (E.r 65545).i 4 = x9_4
  generalize (E.r 65545).i 5 = x9_5
  generalize (E.r 65545).i 6 = x9_6
  generalize (E.r 65545).i 7 = x9_7
  generalize (E.r 65545).i 8 = x9_8
  generalize (E.r 65545).c 9 = x9_9
  generalize (E.r 65545).c 10 = x9_10
  try simp only [mxI, mnI]
  try simp only [ltb, leb, eqb, Int.lt_irrefl, decide_false, Int.le_refl, decide_true]
  intro hp
  repeat' (first | assumption | (intro (h : _ ∧ _); obtain ⟨h1, h2⟩ := h; (first | (subst h1; revert h2) | revert h1 h2)) | (intro h; (first | subst h | skip)) | refine And.intro ?_ ?_)
  all_goals try (show False; refine absurd ?_ ‹¬ _›)
  all_goals repeat' (first | assumption | refine And.intro ?_ ?_)
  all_goals first | omega | grind
end Go.Proofs.YtjemohphaeiaiaaGreatDoor.Fn
namespace Go.Proofs.YtjemohphaeiaiaaGreatDoor.Fn
open Go Go.RowKit Go.Proofs.YtjemohphaeiaiaaGreatDoor.Sy
set_option linter.unusedVariables false
set_option linter.unusedSimpArgs false
set_option maxRecDepth 100000
def t25 : Tr :=
  .br (.f (.rel 27 [.num (.v 0 0), .num (.v 0 1), .num (.v 0 2), .num (.v 0 3), .num (.v 0 4), .num (.v 0 5), .num (.v 0 6), .num (.v 0 7), .num (.v 0 8), .tru (.v 0 9)] 65541 [.bool]) <|
   .br (.f (.is (.v 65541 0) false) <|
    .ok [.num (.n 0), .num (.n 0), .num (.n 0), .num (.n 0), .num (.n 0), .num (.n 0), .num (.n 0), .num (.n 0), .num (.n 0), .tru (.lt (.n 0) (.n 0)), .tru (.lt (.n 0) (.n 0))])
   (.f (.is (.v 65541 0) true) <|
    .br (.f (.rel 31 [.num (.v 0 10), .num (.v 0 11), .num (.v 0 12), .num (.v 0 3), .num (.v 0 4), .num (.v 0 5), .num (.v 0 6), .num (.v 0 7), .num (.v 0 8), .tru (.v 0 9)] 65548 [.int .u64, .int .u32, .int .u32, .int .i64, .int .u64, .int .u32, .int .u32, .int .u64, .int .u64, .bool, .bool]) <|
     .ok [.num (.v 65548 0), .num (.v 65548 1), .num (.v 65548 2), .num (.v 65548 3), .num (.v 65548 4), .num (.v 65548 5), .num (.v 65548 6), .num (.v 65548 7), .num (.v 65548 8), .tru (.v 65548 9), .tru (.v 65548 10)])
    (.f (.npre 31 [.num (.v 0 10), .num (.v 0 11), .num (.v 0 12), .num (.v 0 3), .num (.v 0 4), .num (.v 0 5), .num (.v 0 6), .num (.v 0 7), .num (.v 0 8), .tru (.v 0 9)]) <|
     .bad)))
  (.f (.npre 27 [.num (.v 0 0), .num (.v 0 1), .num (.v 0 2), .num (.v 0 3), .num (.v 0 4), .num (.v 0 5), .num (.v 0 6), .num (.v 0 7), .num (.v 0 8), .tru (.v 0 9)]) <|
   .bad)
theorem c25 : ConS Tryz.prog T C25 := con_tr (cs := [C27, C31]) (lcs := []) (known := []) (cons_cons c27 (cons_cons c31 (cons_nil _ _))) (Known.nil _) (N := 400) (d := 40) (t := t25) (by kernel_rfl) <| by
  intro E hl hp
  clear hl
  have hp := hp rfl
  simp only [C25, show T.pre 25 = Q25 from rfl, flatS, SP.flat, dvs, List.append_nil, List.cons_append, List.nil_append, Q25, U64, U32, I64, Big, W, wv, s64, MR, MB] at hp
  simp only [t25, C25, Tr.good, Fact.den, LX.den, DX.ls, DV.ls, DX.den, Bx.den, Ex.den, eo_add, eo_sub, eo_mul, eo_quo, eo_rem, eo_fdv, eo_mn, eo_mx, eo_land, eo_lor, eo_lxor, eo_landn, eo_shl, eo_shr, dvs, flatS, SP.flat, ST.flat, List.map_cons, List.map_nil, List.append_nil, List.cons_append, List.nil_append, ltb_t, ltb_f, leb_t, leb_f, eqb_t, eqb_f, decide_eq_true_eq, decide_eq_false_iff_not, Bool.not_eq_true', Bool.not_eq_false', Bool.and_eq_true, Bool.and_eq_false_imp, beq_iff_eq, beq_eq_false_iff_ne, bne_iff_ne, U64, U32, I64, Big, W, wv, Told, s64, MR, MB, Int.zero_mul, Int.zero_add, Int.add_zero, Int.mul_zero, IntKind.wrap_u64, IntKind.wrap_i64, IntKind.wrap_u32, ne_eq, forall_const, true_implies, show T.rel 25 = R25 from rfl, R25, show T.rel 27 = R27 from rfl, R27, show T.rel 31 = R31 from rfl, R31, show T.pre 25 = Q25 from rfl, Q25, show T.pre 27 = Q27 from rfl, Q27, show T.pre 31 = Q31 from rfl, Q31]
  revert hp
  generalize (E.r 0).i 0 = t
  generalize (E.r 0).i 1 = r
  generalize (E.r 0).i 2 = w
  generalize (E.r 0).i 3 = id
  generalize (E.r 0).i 4 = dt
  generalize (E.r 0).i 5 = dr
  generalize (E.r 0).i 6 = dw
  generalize (E.r 0).i 7 = l
  generalize (E.r 0).i 8 = s
  generalize (E.r 0).c 9 = a
  generalize (E.r 0).i 10 = u
  generalize (E.r 0).i 11 = q
  generalize (E.r 0).i 12 = v
  generalize (E.r 65541).c 0 = x5_0
  generalize (E.r 65548).i 0 = x12_0
  generalize (E.r 65548).i 1 = x12_1
  generalize (E.r 65548).i 2 = x12_2
  generalize (E.r 65548).i 3 = x12_3
  generalize (E.r 65548).i 4 = x12_4
  generalize (E.r 65548).i 5 = x12_5
  generalize (E.r 65548).i 6 = x12_6
  generalize (E.r 65548).i 7 = x12_7
  generalize (E.r 65548).i 8 = x12_8
  generalize (E.r 65548).c 9 = x12_9
  generalize (E.r 65548).c 10 = x12_10
  try simp only [mxI, mnI]
  try simp only [ltb, leb, eqb, Int.lt_irrefl, decide_false, Int.le_refl, decide_true]
  intro hp
  have e : RQ t r w id dt dr dw l s → 0 < id ∧ NS l ∧ NS s := fun h => ⟨h.2.1, h.2.2.1, h.2.2.2.1⟩
  repeat' (first | assumption | (intro (h : _ ∧ _); obtain ⟨h1, h2⟩ := h; (first | (subst h1; revert h2) | revert h1 h2)) | (intro h; (first | subst h | skip)) | refine And.intro ?_ ?_)
  all_goals try (show False; refine absurd ?_ ‹¬ _›)
  all_goals repeat' (first | assumption | refine And.intro ?_ ?_)
  all_goals first | omega | grind
end Go.Proofs.YtjemohphaeiaiaaGreatDoor.Fn
namespace Go.Proofs.YtjemohphaeiaiaaGreatDoor.Fn
open Go Go.RowKit Go.Proofs.YtjemohphaeiaiaaGreatDoor.Sy
set_option linter.unusedVariables false
set_option linter.unusedSimpArgs false
set_option maxRecDepth 100000
def t26 : Tr :=
  .br (.f (.rel 27 [.num (.v 0 0), .num (.v 0 1), .num (.v 0 2), .num (.v 0 3), .num (.v 0 4), .num (.v 0 5), .num (.v 0 6), .num (.v 0 7), .num (.v 0 8), .tru (.v 0 9)] 65540 [.bool]) <|
   .br (.f (.is (.v 65540 0) false) <|
    .ok [.num (.n 0), .num (.n 0), .num (.n 0), .num (.n 0), .num (.n 0), .num (.n 0), .num (.n 0), .num (.n 0), .num (.n 0), .tru (.lt (.n 0) (.n 0)), .tru (.lt (.n 0) (.n 0))])
   (.f (.is (.v 65540 0) true) <|
    .br (.f (.rel 31 [.num (.v 0 0), .num (.v 0 1), .num (.v 0 2), .num (.v 0 3), .num (.v 0 4), .num (.v 0 5), .num (.v 0 6), .num (.v 0 7), .num (.v 0 10), .tru (.v 0 9)] 65546 [.int .u64, .int .u32, .int .u32, .int .i64, .int .u64, .int .u32, .int .u32, .int .u64, .int .u64, .bool, .bool]) <|
     .ok [.num (.v 65546 0), .num (.v 65546 1), .num (.v 65546 2), .num (.v 65546 3), .num (.v 65546 4), .num (.v 65546 5), .num (.v 65546 6), .num (.v 65546 7), .num (.v 65546 8), .tru (.v 65546 9), .tru (.v 65546 10)])
    (.f (.npre 31 [.num (.v 0 0), .num (.v 0 1), .num (.v 0 2), .num (.v 0 3), .num (.v 0 4), .num (.v 0 5), .num (.v 0 6), .num (.v 0 7), .num (.v 0 10), .tru (.v 0 9)]) <|
     .bad)))
  (.f (.npre 27 [.num (.v 0 0), .num (.v 0 1), .num (.v 0 2), .num (.v 0 3), .num (.v 0 4), .num (.v 0 5), .num (.v 0 6), .num (.v 0 7), .num (.v 0 8), .tru (.v 0 9)]) <|
   .bad)
theorem c26 : ConS Tryz.prog T C26 := con_tr (cs := [C27, C31]) (lcs := []) (known := []) (cons_cons c27 (cons_cons c31 (cons_nil _ _))) (Known.nil _) (N := 400) (d := 40) (t := t26) (by kernel_rfl) <| by
  intro E hl hp
  clear hl
  have hp := hp rfl
  simp only [C26, show T.pre 26 = Q26 from rfl, flatS, SP.flat, dvs, List.append_nil, List.cons_append, List.nil_append, Q26, U64, U32, I64, Big, W, wv, s64, MR, MB] at hp
  simp only [t26, C26, Tr.good, Fact.den, LX.den, DX.ls, DV.ls, DX.den, Bx.den, Ex.den, eo_add, eo_sub, eo_mul, eo_quo, eo_rem, eo_fdv, eo_mn, eo_mx, eo_land, eo_lor, eo_lxor, eo_landn, eo_shl, eo_shr, dvs, flatS, SP.flat, ST.flat, List.map_cons, List.map_nil, List.append_nil, List.cons_append, List.nil_append, ltb_t, ltb_f, leb_t, leb_f, eqb_t, eqb_f, decide_eq_true_eq, decide_eq_false_iff_not, Bool.not_eq_true', Bool.not_eq_false', Bool.and_eq_true, Bool.and_eq_false_imp, beq_iff_eq, beq_eq_false_iff_ne, bne_iff_ne, U64, U32, I64, Big, W, wv, Told, s64, MR, MB, Int.zero_mul, Int.zero_add, Int.add_zero, Int.mul_zero, IntKind.wrap_u64, IntKind.wrap_i64, IntKind.wrap_u32, ne_eq, forall_const, true_implies, show T.rel 26 = R26 from rfl, R26, show T.rel 27 = R27 from rfl, R27, show T.rel 31 = R31 from rfl, R31, show T.pre 26 = Q26 from rfl, Q26, show T.pre 27 = Q27 from rfl, Q27, show T.pre 31 = Q31 from rfl, Q31]
  revert hp
  generalize (E.r 0).i 0 = t
  generalize (E.r 0).i 1 = r
  generalize (E.r 0).i 2 = w
  generalize (E.r 0).i 3 = id
  generalize (E.r 0).i 4 = dt
  generalize (E.r 0).i 5 = dr
  generalize (E.r 0).i 6 = dw
  generalize (E.r 0).i 7 = l
  generalize (E.r 0).i 8 = s
  generalize (E.r 0).c 9 = a
  generalize (E.r 0).i 10 = y
  generalize (E.r 65540).c 0 = x4_0
  generalize (E.r 65546).i 0 = x10_0
  generalize (E.r 65546).i 1 = x10_1
  generalize (E.r 65546).i 2 = x10_2
  generalize (E.r 65546).i 3 = x10_3
  generalize (E.r 65546).i 4 = x10_4
  generalize (E.r 65546).i 5 = x10_5
  generalize (E.r 65546).i 6 = x10_6
  generalize (E.r 65546).i 7 = x10_7
  generalize (E.r 65546).i 8 = x10_8
  generalize (E.r 65546).c 9 = x10_9
  generalize (E.r 65546).c 10 = x10_10
  try simp only [mxI, mnI]
  try simp only [ltb, leb, eqb, Int.lt_irrefl, decide_false, Int.le_refl, decide_true]
  intro hp
  have e : RQ t r w id dt dr dw l s → PR r w ∧ 0 < id ∧ NS l ∧ dt = mvt t r w l ∧ dr = mvr r w l ∧ dw = w := fun h => ⟨h.1, h.2.1, h.2.2.1, h.2.2.2.2.1, h.2.2.2.2.2.1, h.2.2.2.2.2.2⟩
  repeat' (first | assumption | (intro (h : _ ∧ _); obtain ⟨h1, h2⟩ := h; (first | (subst h1; revert h2) | revert h1 h2)) | (intro h; (first | subst h | skip)) | refine And.intro ?_ ?_)
  all_goals try (show False; refine absurd ?_ ‹¬ _›)
  all_goals repeat' (first | assumption | refine And.intro ?_ ?_)
  all_goals first | omega | grind
end Go.Proofs.YtjemohphaeiaiaaGreatDoor.Fn
