/- What is told of the functions, shown: turnstone/turnstoneref01.Mul, turnstone/turnstoneref01.Wide, turnstone/turnstonelaw01.Of, turnstone/turnstonelaw04.Of, (turnstone/wide.Int).Cmp, (turnstone/wide.Int).Sign, turnstone/lag.Sign, turnstone/turnstoneref08.Right, turnstone/turnstoneref04.Right, turnstone/turnstoneref01.Power, turnstone/turnstoneref03.Since, turnstone/turnstoneref04.Distance, turnstone/turnstoneref01.Is. -/
import Derived.Test.YtafhkgicekddlaaGreatDoorFm2
namespace Go.Proofs.YtafhkgicekddlaaGreatDoor.Fn
open Go Go.RowKit Go.Proofs.YtafhkgicekddlaaGreatDoor.Sy
set_option linter.unusedVariables false
set_option linter.unusedSimpArgs false
set_option maxRecDepth 100000
def t58 : Tr :=
  .br (.f (.is (.lt (.wrap .i64 (.bin .add (.wrap .i64 (.bin .add (.len 0 1) (.len 0 3))) (.n 1))) (.n 0)) false) <|
   .br (.f (.is (.le (.wrap .i64 (.bin .add (.wrap .i64 (.bin .add (.len 0 1) (.len 0 3))) (.n 1))) (.n 1000000000)) true) <|
    .f (.lseq 65547 (.rep (.wrap .i64 (.bin .add (.wrap .i64 (.bin .add (.len 0 1) (.len 0 3))) (.n 1))) [0])) <|
     .f (.is (.eq (.v 65549 0) (.wrap .i64 (.bin .add (.wrap .i64 (.bin .add (.len 0 1) (.len 0 3))) (.n 1)))) true) <|
      .br (.f (.rel 105803 [.lst 0 1, .lst 0 3, .lst 65547 0, .num (.n 0)] 65554 [.list [.int .i64], .int .i64]) <|
       .br (.f (.is (.lt (.v 65554 1) (.len 0 1)) false) <|
        .br (.f (.rel 74 [.tru (.not (.beq (.v 0 0) (.v 0 2))), .lst 65554 0] 65563 [.bool, .list [.int .i64]]) <|
         .ok [.tru (.v 65563 0), .lst 65563 1])
        (.f (.npre 74 [.tru (.not (.beq (.v 0 0) (.v 0 2))), .lst 65554 0]) <|
         .bad))
       (.f (.is (.lt (.v 65554 1) (.len 0 1)) true) <|
        .br (.f (.is (.lt (.v 65554 1) (.n 0)) true) <|
         .bad)
        (.f (.is (.lt (.v 65554 1) (.n 0)) false) <|
         .br (.f (.nrel 105807 [.lst 0 3, .num (.v 65554 1), .num (.at 0 1 (.v 65554 1) 0), .lst 65554 0, .num (.n 0), .num (.n 0)] [.lst 65554 0, .num (.n 0), .num (.n 0)]) <|
          .bad)
         (.f (.rel 105807 [.lst 0 3, .num (.v 65554 1), .num (.at 0 1 (.v 65554 1) 0), .lst 65554 0, .num (.n 0), .num (.n 0)] 65563 [.list [.int .i64], .int .i64, .int .i64]) <|
          .br (.f (.is (.lt (.v 65563 2) (.len 0 3)) true) <|
           .br (.f (.is (.lt (.wrap .i64 (.bin .add (.v 65554 1) (.v 65563 2))) (.n 0)) true) <|
            .bad)
           (.f (.is (.lt (.wrap .i64 (.bin .add (.v 65554 1) (.v 65563 2))) (.n 0)) false) <|
            .br (.f (.is (.lt (.wrap .i64 (.bin .add (.v 65554 1) (.v 65563 2))) (.len 65563 0)) false) <|
             .bad)
            (.f (.is (.lt (.wrap .i64 (.bin .add (.v 65554 1) (.v 65563 2))) (.len 65563 0)) true) <|
             .br (.f (.npre 89 [.tru (.v 0 2), .lst 0 3, .num (.v 65563 2)]) <|
              .bad)
             (.f (.rel 89 [.tru (.v 0 2), .lst 0 3, .num (.v 65563 2)] 65582 [.int .i64]) <|
              .f (.is (.eq (.v 65588 0) (.wrap .i64 (.bin .add (.at 65563 0 (.wrap .i64 (.bin .add (.v 65554 1) (.v 65563 2))) 0) (.wrap .i64 (.bin .mul (.at 0 1 (.v 65554 1) 0) (.v 65582 0)))))) true) <|
               .f (.lseq 65596 (.set (.lst 65563 0) (.wrap .i64 (.bin .add (.v 65554 1) (.v 65563 2))) 0 [.bin .rem (.wrap .i64 (.bin .add (.v 65588 0) (.v 65563 1))) (.n 10000)])) <|
                .f (.is (.eq (.v 65600 0) (.wrap .i64 (.bin .quo (.wrap .i64 (.bin .add (.v 65588 0) (.v 65563 1))) (.n 10000)))) true) <|
                 .br (.f (.nrel 105807 [.lst 0 3, .num (.v 65554 1), .num (.at 0 1 (.v 65554 1) 0), .lst 65554 0, .num (.n 0), .num (.n 0)] [.lst 65596 0, .num (.v 65600 0), .num (.wrap .i64 (.bin .add (.v 65563 2) (.n 1)))]) <|
                  .bad)
                 (.f (.ndec 105807 [.lst 0 3, .num (.v 65554 1), .num (.at 0 1 (.v 65554 1) 0), .lst 65554 0, .num (.n 0), .num (.n 0)] [.lst 65563 0, .num (.v 65563 1), .num (.v 65563 2)] [.lst 65596 0, .num (.v 65600 0), .num (.wrap .i64 (.bin .add (.v 65563 2) (.n 1)))]) <|
                  .bad)))))
          (.f (.is (.lt (.v 65563 2) (.len 0 3)) false) <|
           .br (.f (.is (.lt (.n 0) (.v 65563 1)) true) <|
            .br (.f (.is (.lt (.wrap .i64 (.bin .add (.v 65554 1) (.v 65563 2))) (.n 0)) true) <|
             .bad)
            (.f (.is (.lt (.wrap .i64 (.bin .add (.v 65554 1) (.v 65563 2))) (.n 0)) false) <|
             .br (.f (.is (.lt (.wrap .i64 (.bin .add (.v 65554 1) (.v 65563 2))) (.len 65563 0)) false) <|
              .bad)
             (.f (.is (.lt (.wrap .i64 (.bin .add (.v 65554 1) (.v 65563 2))) (.len 65563 0)) true) <|
              .br (.f (.npre 89 [.tru (.v 0 2), .lst 0 3, .num (.v 65563 2)]) <|
               .bad)
              (.f (.rel 89 [.tru (.v 0 2), .lst 0 3, .num (.v 65563 2)] 65582 [.int .i64]) <|
               .f (.is (.eq (.v 65588 0) (.wrap .i64 (.bin .add (.at 65563 0 (.wrap .i64 (.bin .add (.v 65554 1) (.v 65563 2))) 0) (.wrap .i64 (.bin .mul (.at 0 1 (.v 65554 1) 0) (.v 65582 0)))))) true) <|
                .f (.lseq 65596 (.set (.lst 65563 0) (.wrap .i64 (.bin .add (.v 65554 1) (.v 65563 2))) 0 [.bin .rem (.wrap .i64 (.bin .add (.v 65588 0) (.v 65563 1))) (.n 10000)])) <|
                 .f (.is (.eq (.v 65600 0) (.wrap .i64 (.bin .quo (.wrap .i64 (.bin .add (.v 65588 0) (.v 65563 1))) (.n 10000)))) true) <|
                  .br (.f (.nrel 105807 [.lst 0 3, .num (.v 65554 1), .num (.at 0 1 (.v 65554 1) 0), .lst 65554 0, .num (.n 0), .num (.n 0)] [.lst 65596 0, .num (.v 65600 0), .num (.wrap .i64 (.bin .add (.v 65563 2) (.n 1)))]) <|
                   .bad)
                  (.f (.ndec 105807 [.lst 0 3, .num (.v 65554 1), .num (.at 0 1 (.v 65554 1) 0), .lst 65554 0, .num (.n 0), .num (.n 0)] [.lst 65563 0, .num (.v 65563 1), .num (.v 65563 2)] [.lst 65596 0, .num (.v 65600 0), .num (.wrap .i64 (.bin .add (.v 65563 2) (.n 1)))]) <|
                   .bad)))))
           (.f (.is (.lt (.n 0) (.v 65563 1)) false) <|
            .br (.f (.nrel 105803 [.lst 0 1, .lst 0 3, .lst 65547 0, .num (.n 0)] [.lst 65563 0, .num (.wrap .i64 (.bin .add (.v 65554 1) (.n 1)))]) <|
             .bad)
            (.f (.ndec 105803 [.lst 0 1, .lst 0 3, .lst 65547 0, .num (.n 0)] [.lst 65554 0, .num (.v 65554 1)] [.lst 65563 0, .num (.wrap .i64 (.bin .add (.v 65554 1) (.n 1)))]) <|
             .bad)))))))
      (.f (.nrel 105803 [.lst 0 1, .lst 0 3, .lst 65547 0, .num (.n 0)] [.lst 65547 0, .num (.n 0)]) <|
       .bad))
   (.f (.is (.le (.wrap .i64 (.bin .add (.wrap .i64 (.bin .add (.len 0 1) (.len 0 3))) (.n 1))) (.n 1000000000)) false) <|
    .bad))
  (.f (.is (.lt (.wrap .i64 (.bin .add (.wrap .i64 (.bin .add (.len 0 1) (.len 0 3))) (.n 1))) (.n 0)) true) <|
   .bad)
theorem c58 : ConS Tryz.prog T C58 := con_tr (cs := [C74, C89]) (lcs := [L105803, L105807]) (known := []) (cons_cons c74 (cons_cons c89 (cons_nil _ _))) (Known.nil _) (N := 400) (d := 40) (t := t58) (by kernel_rfl) <| by
  intro E hl hp
  have hl1 := hl 1 _ rfl
  have hl3 := hl 3 _ rfl
  clear hl
  have hp := hp rfl
  simp only [C58, show T.pre 58 = Q58 from rfl, flatS, SP.flat, dvs, List.append_nil, List.cons_append, List.nil_append, Q58, U64, U32, I64, Big, W, wv, s64, WT, PR, MR, MB] at hp
  simp only [t58, C58, Tr.good, Fact.den, LX.den, DX.ls, DV.ls, DX.den, Bx.den, Ex.den, eo_add, eo_sub, eo_mul, eo_quo, eo_rem, eo_fdv, eo_mn, eo_mx, eo_land, eo_lor, eo_lxor, eo_landn, eo_shl, eo_shr, dvs, flatS, SP.flat, ST.flat, List.map_cons, List.map_nil, List.append_nil, List.cons_append, List.nil_append, ltb_t, ltb_f, leb_t, leb_f, eqb_t, eqb_f, decide_eq_true_eq, decide_eq_false_iff_not, Bool.not_eq_true', Bool.not_eq_false', Bool.and_eq_true, Bool.and_eq_false_imp, beq_iff_eq, beq_eq_false_iff_ne, bne_iff_ne, U64, U32, I64, Big, W, wv, Told, s64, WT, PR, MR, MB, Int.zero_mul, Int.zero_add, Int.add_zero, Int.mul_zero, IntKind.wrap_u64, IntKind.wrap_i64, IntKind.wrap_u32, ne_eq, forall_const, true_implies, show T.rel 58 = R58 from rfl, R58, show T.rel 74 = R74 from rfl, R74, show T.rel 89 = R89 from rfl, R89, show T.rel 105803 = R105803 from rfl, R105803, show T.rel 105807 = R105807 from rfl, R105807, show T.mu 105803 = M105803 from rfl, M105803, show T.mu 105807 = M105807 from rfl, M105807, show T.pre 58 = Q58 from rfl, Q58, show T.pre 74 = Q74 from rfl, Q74, show T.pre 89 = Q89 from rfl, Q89]
  revert hp hl1 hl3
  generalize (E.r 0).c 0 = an
  generalize (E.r 0).l 1 = al
  generalize (E.r 0).c 2 = bn
  generalize (E.r 0).l 3 = bl
  generalize (E.r 65547).l 0 = x11_0
  generalize (E.r 65549).i 0 = x13_0
  generalize (E.r 65554).l 0 = x18_0
  generalize (E.r 65554).i 1 = x18_1
  generalize (E.r 65563).l 0 = x27_0
  generalize (E.r 65563).c 0 = x27_0c
  generalize (E.r 65563).i 1 = x27_1
  generalize (E.r 65563).l 1 = x27_1l
  generalize (E.r 65563).i 2 = x27_2
  generalize (E.r 65582).i 0 = x46_0
  generalize (E.r 65588).i 0 = x52_0
  generalize (E.r 65596).l 0 = x60_0
  generalize (E.r 65600).i 0 = x64_0
  try simp only [mxI, mnI]
  try simp only [ltb, leb, eqb, Int.lt_irrefl, decide_false, Int.le_refl, decide_true]
  intro hal hbl hp
  have la := Bg.len hp.1
  have lb := Bg.len hp.2
  have e1 : (((al.length : Int) + bl.length + 9223372036854775808) % 18446744073709551616 - 9223372036854775808 + 1 + 9223372036854775808) % 18446744073709551616 - 9223372036854775808 = ((al.length + bl.length + 1 : Nat) : Int) := by omega
  simp only [e1, Int.toNat_natCast, implies_true, true_and, and_true, Int.toNat_zero, List.drop_zero]
  have da := hp.1.1.1
  have db := hp.2.1.1
  have ent : ∀ y : List (List Int), y = List.replicate (al.length + bl.length + 1) [0] → y.length = al.length + bl.length + 1 ∧ dig y ∧ (∀ k : Nat, Sy.rowAt y k 0 = 0) ∧ dval y = 0 := by
    intro y hy
    subst hy
    exact ⟨List.length_replicate, dig_rep _, rowAt_rep _, dval_rep _⟩
  refine ⟨fun _ => ⟨fun _ y0 _ => ⟨fun ⟨i0, i1, i2, i3, i4, i5⟩ => ⟨fun c1 => ⟨fun e => ⟨e.1, ?_⟩, fun n => n ⟨i3, by omega⟩⟩, fun c1 => ⟨by omega, fun _ => ⟨fun n => n ⟨by omega, i3, by omega⟩, fun ⟨j0, j1, j2, j3, j4, j5, j6, j7⟩ => ?_⟩⟩⟩, ?_⟩, by omega⟩, by omega⟩
  · rw [e.2]
    rw [List.drop_of_length_le (by omega)] at i5
    simp only [dval, Int.zero_mul, Int.mul_zero, Int.add_zero] at i5
    have v1 := bval_abs (n := an) da
    have v2 := bval_abs (n := bn) db
    have v3 := bval_abs (n := (!an == bn)) i3
    cases an <;> cases bn <;> simp only [bval, cond_true, cond_false, Bool.not_true, Bool.not_false, BEq.rfl, beq_iff_eq, reduceCtorEq, i5, Bool.true_beq, Bool.false_beq, Int.neg_mul, Int.mul_neg, Int.neg_neg]
  · obtain ⟨m, rfl⟩ := Int.eq_ofNat_of_zero_le i0
    obtain ⟨n, rfl⟩ := Int.eq_ofNat_of_zero_le j0
    have ew : ((m : Int) + n + 9223372036854775808) % 18446744073709551616 - 9223372036854775808 = ((m + n : Nat) : Int) := by omega
    have ew2 : ((n : Int) + 1 + 9223372036854775808) % 18446744073709551616 - 9223372036854775808 = ((n + 1 : Nat) : Int) := by omega
    have ew3 : ((m : Int) + n).toNat = m + n := by omega
    have ew4 : ((m : Int) + ((n + 1 : Nat) : Int)).toNat = m + n + 1 := by omega
    have ew5 : ((m : Int) + 1 + 9223372036854775808) % 18446744073709551616 - 9223372036854775808 = ((m + 1 : Nat) : Int) := by omega
    simp only [ew, ew2, ew3, ew4, ew5, Int.toNat_natCast] at *
    have dm := da m
    have step : ∀ s t u : Int, s = (Sy.rowAt x27_0 ((m + n : Nat) : Int) 0 + ((Sy.rowAt al m 0 * u + 9223372036854775808) % 18446744073709551616 - 9223372036854775808) + 9223372036854775808) % 18446744073709551616 - 9223372036854775808 → u = Sy.rowAt bl n 0 → (n < bl.length ∨ n = bl.length ∧ 0 < x27_1) →
        ∀ y : List (List Int), y = Sy.rowSet x27_0 ((m + n : Nat) : Int) 0 [((s + x27_1 + 9223372036854775808) % 18446744073709551616 - 9223372036854775808).tmod 10000] → t = (((s + x27_1 + 9223372036854775808) % 18446744073709551616 - 9223372036854775808).tdiv 10000 + 9223372036854775808) % 18446744073709551616 - 9223372036854775808 →
        (0 ≤ ((n + 1 : Nat) : Int) ∧ 0 ≤ t ∧ t < 10000 ∧ y.length = x18_0.length ∧ dig y ∧ (((n + 1 : Nat) : Int) ≤ bl.length ∨ ((n + 1 : Nat) : Int) ≤ bl.length + 1 ∧ t = 0) ∧ (∀ j : Nat, (m : Int) + ((n + 1 : Nat) : Int) ≤ j → Sy.rowAt y j 0 = Sy.rowAt x18_0 j 0) ∧
          dval y + P4 (m + n + 1) * (t + Sy.rowAt al m 0 * dval (bl.drop (n + 1))) = dval x18_0 + P4 m * (Sy.rowAt al m 0 * dval bl)) := by
      intro s t u hs hu hn y hy ht
      obtain ⟨q1, q2, q3, q4, q5⟩ := mul_step (m := m) (n := n) (c := x27_1) (x := Sy.rowAt al m 0) j4 db j1 j2 dm.1 dm.2 (by omega) (fun j hj => j6 j (by omega)) j7 _ rfl
      have dn := db n
      have pm := mul_below dm.1 (show Sy.rowAt al m 0 ≤ 9999 by omega) dn.1 (show Sy.rowAt bl n 0 ≤ 9999 by omega)
      have d1 := j4 (m + n)
      subst hu
      have es : (s + x27_1 + 9223372036854775808) % 18446744073709551616 - 9223372036854775808 = Sy.rowAt x27_0 ((m + n : Nat) : Int) 0 + Sy.rowAt al m 0 * Sy.rowAt bl n 0 + x27_1 := by
        generalize Sy.rowAt al m 0 * Sy.rowAt bl n 0 = z at *
        omega
      rw [es] at hy ht
      have z0 : n = bl.length → Sy.rowAt x27_0 ((m + n : Nat) : Int) 0 + Sy.rowAt al m 0 * Sy.rowAt bl n 0 + x27_1 = x27_1 := by
        intro e
        rw [rowAt_out (L := bl) (by omega), Int.mul_zero, j6 (m + n) (by omega), i4 (m + n) (by omega)]
        omega
      generalize Sy.rowAt x27_0 ((m + n : Nat) : Int) 0 + Sy.rowAt al m 0 * Sy.rowAt bl n 0 + x27_1 = S at *
      rw [Int.tmod_eq_emod_of_nonneg q1] at hy
      rw [Int.tdiv_eq_ediv_of_nonneg q1] at ht
      have et : t = S / 10000 := by omega
      subst et hy
      refine ⟨by omega, by omega, by omega, by rw [rowSet_len]; exact j3, q3, ?_, fun j hj => q4 j (by omega), q5⟩
      rcases hn with h | ⟨h, _⟩
      · left; omega
      · have := z0 h
        right; omega
    have next : bl.length ≤ n → x27_1 ≤ 0 → (0 ≤ ((m + 1 : Nat) : Int) ∧ ((m + 1 : Nat) : Int) ≤ al.length ∧ x27_0.length = al.length + bl.length + 1 ∧ dig x27_0 ∧ (∀ k : Nat, ((m + 1 : Nat) : Int) + bl.length ≤ k → Sy.rowAt x27_0 k 0 = 0) ∧ dval x27_0 + P4 (m + 1) * (dval (al.drop (m + 1)) * dval bl) = dval al * dval bl) := by
      intro h1 h2
      refine ⟨by omega, by omega, by omega, j4, fun k hk => ?_, ?_⟩
      · rw [j6 k (by omega), i4 k (by omega)]
      · rw [List.drop_of_length_le h1] at j7
        have c0 : x27_1 = 0 := by omega
        simp only [dval, c0, Int.mul_zero, Int.add_zero] at j7
        rw [j7, ← i5, dval_drop al m]
        simp only [P4]
        grind
    exact ⟨fun c => ⟨by omega, fun _ => ⟨by omega, fun _ => ⟨by omega, fun u1 u2 u3 u4 => ⟨fun n => n (step _ _ _ u2 u1 (Or.inl (by omega)) _ u3 u4), by omega⟩⟩⟩⟩, fun c => ⟨fun c2 => ⟨by omega, fun _ => ⟨by omega, fun _ => ⟨by omega, fun u1 u2 u3 u4 => ⟨fun n => n (step _ _ _ u2 u1 (Or.inr ⟨by omega, c2⟩) _ u3 u4), by omega⟩⟩⟩⟩, fun c2 => ⟨fun n => n (next (by omega) c2), by omega⟩⟩⟩
  · intro n
    obtain ⟨f1, f2, f3, f4⟩ := ent _ y0
    exact n ⟨by omega, f1, f2, fun k _ => f3 k, by rw [f4]; simp [P4]⟩
end Go.Proofs.YtafhkgicekddlaaGreatDoor.Fn
namespace Go.Proofs.YtafhkgicekddlaaGreatDoor.Fn
open Go Go.RowKit Go.Proofs.YtafhkgicekddlaaGreatDoor.Sy
set_option linter.unusedVariables false
set_option linter.unusedSimpArgs false
set_option maxRecDepth 100000
def t63 : Tr :=
  .br (.f (.rel 59 [.num (.n 4294967296)] 65537 [.bool, .list [.int .i64]]) <|
   .br (.f (.rel 59 [.num (.n 4294967296)] 65538 [.bool, .list [.int .i64]]) <|
    .br (.f (.rel 58 [.tru (.v 65537 0), .lst 65537 1, .tru (.v 65538 0), .lst 65538 1] 65539 [.bool, .list [.int .i64]]) <|
     .br (.f (.rel 23 [.num (.v 0 0)] 65543 [.bool, .list [.int .i64]]) <|
      .br (.f (.rel 58 [.tru (.v 65543 0), .lst 65543 1, .tru (.v 65539 0), .lst 65539 1] 65545 [.bool, .list [.int .i64]]) <|
       .br (.f (.rel 59 [.num (.v 0 1)] 65547 [.bool, .list [.int .i64]]) <|
        .br (.f (.rel 42 [.tru (.v 65545 0), .lst 65545 1, .tru (.v 65547 0), .lst 65547 1] 65548 [.bool, .list [.int .i64]]) <|
         .ok [.tru (.v 65548 0), .lst 65548 1])
        (.f (.npre 42 [.tru (.v 65545 0), .lst 65545 1, .tru (.v 65547 0), .lst 65547 1]) <|
         .bad))
       (.f (.npre 59 [.num (.v 0 1)]) <|
        .bad))
      (.f (.npre 58 [.tru (.v 65543 0), .lst 65543 1, .tru (.v 65539 0), .lst 65539 1]) <|
       .bad))
     (.f (.npre 23 [.num (.v 0 0)]) <|
      .bad))
    (.f (.npre 58 [.tru (.v 65537 0), .lst 65537 1, .tru (.v 65538 0), .lst 65538 1]) <|
     .bad))
   (.f (.npre 59 [.num (.n 4294967296)]) <|
    .bad))
  (.f (.npre 59 [.num (.n 4294967296)]) <|
   .bad)
theorem c63 : ConS Tryz.prog T C63 := con_tr (cs := [C23, C42, C58, C59]) (lcs := []) (known := []) (cons_cons c23 (cons_cons c42 (cons_cons c58 (cons_cons c59 (cons_nil _ _))))) (Known.nil _) (N := 400) (d := 40) (t := t63) (by kernel_rfl) <| by
  intro E hl hp
  clear hl
  have hp := hp rfl
  simp only [C63, show T.pre 63 = Q63 from rfl, flatS, SP.flat, dvs, List.append_nil, List.cons_append, List.nil_append, Q63, U64, U32, I64, Big, W, wv, s64, WT, PR, MR, MB] at hp
  simp only [t63, C63, Tr.good, Fact.den, LX.den, DX.ls, DV.ls, DX.den, Bx.den, Ex.den, eo_add, eo_sub, eo_mul, eo_quo, eo_rem, eo_fdv, eo_mn, eo_mx, eo_land, eo_lor, eo_lxor, eo_landn, eo_shl, eo_shr, dvs, flatS, SP.flat, ST.flat, List.map_cons, List.map_nil, List.append_nil, List.cons_append, List.nil_append, ltb_t, ltb_f, leb_t, leb_f, eqb_t, eqb_f, decide_eq_true_eq, decide_eq_false_iff_not, Bool.not_eq_true', Bool.not_eq_false', Bool.and_eq_true, Bool.and_eq_false_imp, beq_iff_eq, beq_eq_false_iff_ne, bne_iff_ne, U64, U32, I64, Big, W, wv, Told, s64, WT, PR, MR, MB, Int.zero_mul, Int.zero_add, Int.add_zero, Int.mul_zero, IntKind.wrap_u64, IntKind.wrap_i64, IntKind.wrap_u32, ne_eq, forall_const, true_implies, show T.rel 23 = R23 from rfl, R23, show T.rel 42 = R42 from rfl, R42, show T.rel 58 = R58 from rfl, R58, show T.rel 59 = R59 from rfl, R59, show T.rel 63 = R63 from rfl, R63, show T.pre 23 = Q23 from rfl, Q23, show T.pre 42 = Q42 from rfl, Q42, show T.pre 58 = Q58 from rfl, Q58, show T.pre 59 = Q59 from rfl, Q59, show T.pre 63 = Q63 from rfl, Q63]
  revert hp
  generalize (E.r 0).i 0 = h
  generalize (E.r 0).i 1 = l
  generalize (E.r 65537).c 0 = x1_0
  generalize (E.r 65537).l 1 = x1_1
  generalize (E.r 65538).c 0 = x2_0
  generalize (E.r 65538).l 1 = x2_1
  generalize (E.r 65539).c 0 = x3_0
  generalize (E.r 65539).l 1 = x3_1
  generalize (E.r 65543).c 0 = x7_0
  generalize (E.r 65543).l 1 = x7_1
  generalize (E.r 65545).c 0 = x9_0
  generalize (E.r 65545).l 1 = x9_1
  generalize (E.r 65547).c 0 = x11_0
  generalize (E.r 65547).l 1 = x11_1
  generalize (E.r 65548).c 0 = x12_0
  generalize (E.r 65548).l 1 = x12_1
  try simp only [mxI, mnI]
  try simp only [ltb, leb, eqb, Int.lt_irrefl, decide_false, Int.le_refl, decide_true]
  intro hp
  refine ⟨fun e1 => ⟨fun e2 => ⟨fun e3 => ⟨fun e4 => ⟨fun e5 => ⟨fun e6 => ⟨fun e7 => ⟨e7.1, by rw [e7.2, e5.2, e6.2, e4.2, e3.2, e1.2, e2.2]; omega⟩, fun n => n ⟨⟨e5.1, by rw [e5.2, e4.2, e3.2, e1.2, e2.2]; omega, by rw [e5.2, e4.2, e3.2, e1.2, e2.2]; omega⟩, e6.1, by omega, by omega⟩⟩, by omega⟩, fun n => n ⟨⟨e4.1, by omega, by omega⟩, e3.1, by rw [e3.2, e1.2, e2.2]; omega, by rw [e3.2, e1.2, e2.2]; omega⟩⟩, by omega⟩, fun n => n ⟨⟨e1.1, by omega, by omega⟩, e2.1, by omega, by omega⟩⟩, by omega⟩, by omega⟩
end Go.Proofs.YtafhkgicekddlaaGreatDoor.Fn
namespace Go.Proofs.YtafhkgicekddlaaGreatDoor.Fn
open Go Go.RowKit Go.Proofs.YtafhkgicekddlaaGreatDoor.Sy
set_option linter.unusedVariables false
set_option linter.unusedSimpArgs false
set_option maxRecDepth 100000
def t26 : Tr :=
  .br (.f (.rel 63 [.num (.v 0 0), .num (.v 0 1)] 65542 [.bool, .list [.int .i64]]) <|
   .ok [.tru (.v 65542 0), .lst 65542 1])
  (.f (.npre 63 [.num (.v 0 0), .num (.v 0 1)]) <|
   .bad)
theorem c26 : ConS Tryz.prog T C26 := con_tr (cs := [C63]) (lcs := []) (known := []) (cons_cons c63 (cons_nil _ _)) (Known.nil _) (N := 400) (d := 40) (t := t26) (by kernel_rfl) <| by
  intro E hl hp
  clear hl
  have hp := hp rfl
  simp only [C26, show T.pre 26 = Q26 from rfl, flatS, SP.flat, dvs, List.append_nil, List.cons_append, List.nil_append, Q26, U64, U32, I64, Big, W, wv, s64, WT, PR, MR, MB] at hp
  simp only [t26, C26, Tr.good, Fact.den, LX.den, DX.ls, DV.ls, DX.den, Bx.den, Ex.den, eo_add, eo_sub, eo_mul, eo_quo, eo_rem, eo_fdv, eo_mn, eo_mx, eo_land, eo_lor, eo_lxor, eo_landn, eo_shl, eo_shr, dvs, flatS, SP.flat, ST.flat, List.map_cons, List.map_nil, List.append_nil, List.cons_append, List.nil_append, ltb_t, ltb_f, leb_t, leb_f, eqb_t, eqb_f, decide_eq_true_eq, decide_eq_false_iff_not, Bool.not_eq_true', Bool.not_eq_false', Bool.and_eq_true, Bool.and_eq_false_imp, beq_iff_eq, beq_eq_false_iff_ne, bne_iff_ne, U64, U32, I64, Big, W, wv, Told, s64, WT, PR, MR, MB, Int.zero_mul, Int.zero_add, Int.add_zero, Int.mul_zero, IntKind.wrap_u64, IntKind.wrap_i64, IntKind.wrap_u32, ne_eq, forall_const, true_implies, show T.rel 26 = R26 from rfl, R26, show T.rel 63 = R63 from rfl, R63, show T.pre 26 = Q26 from rfl, Q26, show T.pre 63 = Q63 from rfl, Q63]
  revert hp
  generalize (E.r 0).i 0 = h
  generalize (E.r 0).i 1 = l
  generalize (E.r 65542).c 0 = x6_0
  generalize (E.r 65542).l 1 = x6_1
  try simp only [mxI, mnI]
  try simp only [ltb, leb, eqb, Int.lt_irrefl, decide_false, Int.le_refl, decide_true]
  intro hp
  exact ⟨fun h => h, fun n => n hp⟩
end Go.Proofs.YtafhkgicekddlaaGreatDoor.Fn
namespace Go.Proofs.YtafhkgicekddlaaGreatDoor.Fn
open Go Go.RowKit Go.Proofs.YtafhkgicekddlaaGreatDoor.Sy
set_option linter.unusedVariables false
set_option linter.unusedSimpArgs false
set_option maxRecDepth 100000
def t28 : Tr :=
  .ok [.num (.v 0 0), .num (.v 0 1), .num (.v 0 2)]
theorem c28 : ConS Tryz.prog T C28 := con_tr (cs := []) (lcs := []) (known := []) (cons_nil _ _) (Known.nil _) (N := 400) (d := 40) (t := t28) (by kernel_rfl) <| by
  intro E hl hp
  clear hl
  have hp := hp rfl
  simp only [C28, show T.pre 28 = Q28 from rfl, flatS, SP.flat, dvs, List.append_nil, List.cons_append, List.nil_append, Q28, U64, U32, I64, Big, W, wv, s64, WT, PR, MR, MB] at hp
  simp only [t28, C28, Tr.good, Fact.den, LX.den, DX.ls, DV.ls, DX.den, Bx.den, Ex.den, eo_add, eo_sub, eo_mul, eo_quo, eo_rem, eo_fdv, eo_mn, eo_mx, eo_land, eo_lor, eo_lxor, eo_landn, eo_shl, eo_shr, dvs, flatS, SP.flat, ST.flat, List.map_cons, List.map_nil, List.append_nil, List.cons_append, List.nil_append, ltb_t, ltb_f, leb_t, leb_f, eqb_t, eqb_f, decide_eq_true_eq, decide_eq_false_iff_not, Bool.not_eq_true', Bool.not_eq_false', Bool.and_eq_true, Bool.and_eq_false_imp, beq_iff_eq, beq_eq_false_iff_ne, bne_iff_ne, U64, U32, I64, Big, W, wv, Told, s64, WT, PR, MR, MB, Int.zero_mul, Int.zero_add, Int.add_zero, Int.mul_zero, IntKind.wrap_u64, IntKind.wrap_i64, IntKind.wrap_u32, ne_eq, forall_const, true_implies, show T.rel 28 = R28 from rfl, R28, show T.pre 28 = Q28 from rfl, Q28]
  revert hp
  generalize (E.r 0).i 0 = t
  generalize (E.r 0).i 1 = r
  generalize (E.r 0).i 2 = w
  try simp only [mxI, mnI]
  try simp only [ltb, leb, eqb, Int.lt_irrefl, decide_false, Int.le_refl, decide_true]
  repeat' (first | intro _ | refine And.intro ?_ ?_ | refine Iff.intro ?_ ?_)
  all_goals first | omega | (simp_all; done) | (simp_all; omega)
end Go.Proofs.YtafhkgicekddlaaGreatDoor.Fn
namespace Go.Proofs.YtafhkgicekddlaaGreatDoor.Fn
open Go Go.RowKit Go.Proofs.YtafhkgicekddlaaGreatDoor.Sy
set_option linter.unusedVariables false
set_option linter.unusedSimpArgs false
set_option maxRecDepth 100000
def t61 : Tr :=
  .br (.f (.is (.lt (.v 0 0) (.v 0 2)) true) <|
   .br (.f (.is (.lt (.v 0 1) (.v 0 3)) true) <|
    .ok [.num (.n (-1))])
   (.f (.is (.lt (.v 0 1) (.v 0 3)) false) <|
    .br (.f (.is (.lt (.v 0 3) (.v 0 1)) true) <|
     .ok [.num (.n (-1))])
    (.f (.is (.lt (.v 0 3) (.v 0 1)) false) <|
     .ok [.num (.n (-1))])))
  (.f (.is (.lt (.v 0 0) (.v 0 2)) false) <|
   .br (.f (.is (.lt (.v 0 2) (.v 0 0)) true) <|
    .br (.f (.is (.lt (.v 0 1) (.v 0 3)) true) <|
     .ok [.num (.n 1)])
    (.f (.is (.lt (.v 0 1) (.v 0 3)) false) <|
     .br (.f (.is (.lt (.v 0 3) (.v 0 1)) true) <|
      .ok [.num (.n 1)])
     (.f (.is (.lt (.v 0 3) (.v 0 1)) false) <|
      .ok [.num (.n 1)])))
   (.f (.is (.lt (.v 0 2) (.v 0 0)) false) <|
    .br (.f (.is (.lt (.v 0 1) (.v 0 3)) true) <|
     .ok [.num (.n (-1))])
    (.f (.is (.lt (.v 0 1) (.v 0 3)) false) <|
     .br (.f (.is (.lt (.v 0 3) (.v 0 1)) true) <|
      .ok [.num (.n 1)])
     (.f (.is (.lt (.v 0 3) (.v 0 1)) false) <|
      .ok [.num (.n 0)]))))
theorem c61 : ConS Tryz.prog T C61 := con_tr (cs := []) (lcs := []) (known := []) (cons_nil _ _) (Known.nil _) (N := 400) (d := 40) (t := t61) (by kernel_rfl) <| by
  intro E hl hp
  clear hl
  have hp := hp rfl
  simp only [C61, show T.pre 61 = Q61 from rfl, flatS, SP.flat, dvs, List.append_nil, List.cons_append, List.nil_append, Q61, U64, U32, I64, Big, W, wv, s64, WT, PR, MR] at hp
  simp only [t61, C61, Tr.good, Fact.den, LX.den, DX.ls, DV.ls, DX.den, Bx.den, Ex.den, EO.den, dvs, flatS, SP.flat, ST.flat, List.map_cons, List.map_nil, List.append_nil, List.cons_append, List.nil_append, ltb_t, ltb_f, leb_t, leb_f, eqb_t, eqb_f, decide_eq_true_eq, decide_eq_false_iff_not, Bool.not_eq_true', Bool.not_eq_false', Bool.and_eq_true, Bool.and_eq_false_imp, beq_iff_eq, beq_eq_false_iff_ne, bne_iff_ne, U64, U32, I64, Big, W, wv, Told, s64, WT, PR, MR, Int.zero_mul, Int.zero_add, Int.add_zero, Int.mul_zero, IntKind.wrap_u64, IntKind.wrap_i64, IntKind.wrap_u32, ne_eq, forall_const, true_implies, show T.rel 61 = R61 from rfl, R61, show T.pre 61 = Q61 from rfl, Q61]
  revert hp
  generalize (E.r 0).i 0 = ah
  generalize (E.r 0).i 1 = al
  generalize (E.r 0).i 2 = bh
  generalize (E.r 0).i 3 = bl
  try simp only [ltb, leb, eqb, Int.lt_irrefl, decide_false, Int.le_refl, decide_true]
  repeat' (first | intro _ | refine And.intro ?_ ?_ | refine Iff.intro ?_ ?_)
  all_goals first | omega | (simp_all; done) | (simp_all; omega)
end Go.Proofs.YtafhkgicekddlaaGreatDoor.Fn
namespace Go.Proofs.YtafhkgicekddlaaGreatDoor.Fn
open Go Go.RowKit Go.Proofs.YtafhkgicekddlaaGreatDoor.Sy
set_option linter.unusedVariables false
set_option linter.unusedSimpArgs false
set_option maxRecDepth 100000
def t68 : Tr :=
  .br (.f (.rel 61 [.num (.v 0 0), .num (.v 0 1), .num (.n 0), .num (.n 0)] 65540 [.int .i64]) <|
   .ok [.num (.v 65540 0)])
  (.f (.npre 61 [.num (.v 0 0), .num (.v 0 1), .num (.n 0), .num (.n 0)]) <|
   .bad)
theorem c68 : ConS Tryz.prog T C68 := con_tr (cs := [C61]) (lcs := []) (known := []) (cons_cons c61 (cons_nil _ _)) (Known.nil _) (N := 400) (d := 40) (t := t68) (by kernel_rfl) <| by
  intro E hl hp
  clear hl
  have hp := hp rfl
  simp only [C68, show T.pre 68 = Q68 from rfl, flatS, SP.flat, dvs, List.append_nil, List.cons_append, List.nil_append, Q68, U64, U32, I64, Big, W, wv, s64, WT, PR, MR] at hp
  simp only [t68, C68, Tr.good, Fact.den, LX.den, DX.ls, DV.ls, DX.den, Bx.den, Ex.den, EO.den, dvs, flatS, SP.flat, ST.flat, List.map_cons, List.map_nil, List.append_nil, List.cons_append, List.nil_append, ltb_t, ltb_f, leb_t, leb_f, eqb_t, eqb_f, decide_eq_true_eq, decide_eq_false_iff_not, Bool.not_eq_true', Bool.not_eq_false', Bool.and_eq_true, Bool.and_eq_false_imp, beq_iff_eq, beq_eq_false_iff_ne, bne_iff_ne, U64, U32, I64, Big, W, wv, Told, s64, WT, PR, MR, Int.zero_mul, Int.zero_add, Int.add_zero, Int.mul_zero, IntKind.wrap_u64, IntKind.wrap_i64, IntKind.wrap_u32, ne_eq, forall_const, true_implies, show T.rel 61 = R61 from rfl, R61, show T.rel 68 = R68 from rfl, R68, show T.pre 61 = Q61 from rfl, Q61, show T.pre 68 = Q68 from rfl, Q68]
  revert hp
  generalize (E.r 0).i 0 = h
  generalize (E.r 0).i 1 = l
  generalize (E.r 65540).i 0 = x4_0
  try simp only [ltb, leb, eqb, Int.lt_irrefl, decide_false, Int.le_refl, decide_true]
  repeat' (first | intro _ | refine And.intro ?_ ?_ | refine Iff.intro ?_ ?_)
  all_goals first | omega | (simp_all; done) | (simp_all; omega)
end Go.Proofs.YtafhkgicekddlaaGreatDoor.Fn
namespace Go.Proofs.YtafhkgicekddlaaGreatDoor.Fn
open Go Go.RowKit Go.Proofs.YtafhkgicekddlaaGreatDoor.Sy
set_option linter.unusedVariables false
set_option linter.unusedSimpArgs false
set_option maxRecDepth 100000
def t36 : Tr :=
  .br (.f (.rel 52 [.num (.v 0 0), .num (.v 0 1), .num (.v 0 2), .num (.v 0 3), .num (.v 0 4), .num (.v 0 5), .num (.v 0 6), .num (.v 0 7)] 65542 [.int .i64, .int .u64, .bool]) <|
   .br (.f (.rel 68 [.num (.v 65542 0), .num (.v 65542 1)] 65550 [.int .i64]) <|
    .ok [.num (.v 65550 0), .tru (.v 65542 2)])
   (.f (.npre 68 [.num (.v 65542 0), .num (.v 65542 1)]) <|
    .bad))
  (.f (.npre 52 [.num (.v 0 0), .num (.v 0 1), .num (.v 0 2), .num (.v 0 3), .num (.v 0 4), .num (.v 0 5), .num (.v 0 6), .num (.v 0 7)]) <|
   .bad)
theorem c36 : ConS Tryz.prog T C36 := con_tr (cs := [C52, C68]) (lcs := []) (known := []) (cons_cons c52 (cons_cons c68 (cons_nil _ _))) (Known.nil _) (N := 400) (d := 40) (t := t36) (by kernel_rfl) <| by
  intro E hl hp
  clear hl
  have hp := hp rfl
  simp only [C36, show T.pre 36 = Q36 from rfl, flatS, SP.flat, dvs, List.append_nil, List.cons_append, List.nil_append, Q36, U64, U32, I64, s64, WT] at hp
  simp only [t36, C36, Tr.good, Fact.den, LX.den, DX.ls, DV.ls, DX.den, Bx.den, Ex.den, EO.den, dvs, flatS, SP.flat, ST.flat, List.map_cons, List.map_nil, List.append_nil, List.cons_append, List.nil_append, ltb_t, ltb_f, leb_t, leb_f, eqb_t, eqb_f, decide_eq_true_eq, decide_eq_false_iff_not, Bool.not_eq_true', Bool.not_eq_false', Bool.and_eq_true, Bool.and_eq_false_imp, beq_iff_eq, beq_eq_false_iff_ne, bne_iff_ne, U64, U32, I64, Told, s64, WT, Int.zero_mul, Int.zero_add, Int.add_zero, Int.mul_zero, IntKind.wrap_u64, IntKind.wrap_i64, IntKind.wrap_u32, ne_eq, forall_const, true_implies, show T.rel 36 = R36 from rfl, R36, show T.rel 52 = R52 from rfl, R52, show T.rel 68 = R68 from rfl, R68, show T.pre 36 = Q36 from rfl, Q36, show T.pre 52 = Q52 from rfl, Q52, show T.pre 68 = Q68 from rfl, Q68]
  revert hp
  generalize (E.r 0).i 0 = b
  generalize (E.r 0).i 1 = h
  generalize (E.r 0).i 2 = l
  generalize (E.r 0).i 3 = w
  generalize (E.r 0).i 4 = n
  generalize (E.r 0).i 5 = t
  generalize (E.r 0).i 6 = r
  generalize (E.r 0).i 7 = v
  generalize (E.r 65542).i 0 = x6_0
  generalize (E.r 65542).i 1 = x6_1
  generalize (E.r 65542).c 2 = x6_2
  generalize (E.r 65550).i 0 = x14_0
  try simp only [ltb, leb, eqb, Int.lt_irrefl, decide_false, Int.le_refl, decide_true]
  intro hp
  have W0 : W 0 0 := by omega
  have hw : MR h l w n → 0 < n → ¬ w = 0 := by omega
  repeat' (first | intro _ | refine And.intro ?_ ?_)
  all_goals first | (simp_all; done) | omega | (simp_all; omega)
end Go.Proofs.YtafhkgicekddlaaGreatDoor.Fn
namespace Go.Proofs.YtafhkgicekddlaaGreatDoor.Fn
open Go Go.RowKit Go.Proofs.YtafhkgicekddlaaGreatDoor.Sy
set_option linter.unusedVariables false
set_option linter.unusedSimpArgs false
set_option maxRecDepth 100000
def t69 : Tr :=
  .br (.f (.is (.eq (.v 0 4) (.n 0)) true) <|
   .br (.f (.is (.eq (.v 0 3) (.n 0)) true) <|
    .br (.f (.rel 40 [.tru (.v 0 1), .lst 0 2] 65547 [.int .i64]) <|
     .ok [.tru (.eq (.v 65547 0) (.n 0))])
    (.f (.npre 40 [.tru (.v 0 1), .lst 0 2]) <|
     .bad))
   (.f (.is (.eq (.v 0 3) (.n 0)) false) <|
    .ok [.tru (.lt (.n 0) (.n 0))]))
  (.f (.is (.eq (.v 0 4) (.n 0)) false) <|
   .br (.f (.is (.le (.n 1) (.v 0 4)) true) <|
    .br (.f (.is (.le (.v 0 4) (.n 32)) true) <|
     .br (.f (.is (.le (.wrap .u64 (.v 0 4)) (.v 0 3)) true) <|
      .ok [.tru (.le (.v 0 3) (.wrap .u64 (.bin .mul (.wrap .u64 (.v 0 4)) (.n 1048576))))])
     (.f (.is (.le (.wrap .u64 (.v 0 4)) (.v 0 3)) false) <|
      .ok [.tru (.lt (.n 0) (.n 0))]))
    (.f (.is (.le (.v 0 4) (.n 32)) false) <|
     .ok [.tru (.lt (.n 0) (.n 0))]))
   (.f (.is (.le (.n 1) (.v 0 4)) false) <|
    .ok [.tru (.lt (.n 0) (.n 0))]))
theorem c69 : ConS Tryz.prog T C69 := con_tr (cs := [C40]) (lcs := []) (known := []) (cons_cons c40 (cons_nil _ _)) (Known.nil _) (N := 400) (d := 40) (t := t69) (by kernel_rfl) <| by
  intro E hl hp
  have hl2 := hl 2 _ rfl
  clear hl
  have hp := hp rfl
  simp only [C69, show T.pre 69 = Q69 from rfl, flatS, SP.flat, dvs, List.append_nil, List.cons_append, List.nil_append, Q69, U64, U32, I64, Big, W, wv, s64, WT, PR, MR, MB] at hp
  simp only [t69, C69, Tr.good, Fact.den, LX.den, DX.ls, DV.ls, DX.den, Bx.den, Ex.den, eo_add, eo_sub, eo_mul, eo_quo, eo_rem, eo_fdv, eo_mn, eo_mx, eo_land, eo_lor, eo_lxor, eo_landn, eo_shl, eo_shr, dvs, flatS, SP.flat, ST.flat, List.map_cons, List.map_nil, List.append_nil, List.cons_append, List.nil_append, ltb_t, ltb_f, leb_t, leb_f, eqb_t, eqb_f, decide_eq_true_eq, decide_eq_false_iff_not, Bool.not_eq_true', Bool.not_eq_false', Bool.and_eq_true, Bool.and_eq_false_imp, beq_iff_eq, beq_eq_false_iff_ne, bne_iff_ne, U64, U32, I64, Big, W, wv, Told, s64, WT, PR, MR, MB, Int.zero_mul, Int.zero_add, Int.add_zero, Int.mul_zero, IntKind.wrap_u64, IntKind.wrap_i64, IntKind.wrap_u32, ne_eq, forall_const, true_implies, show T.rel 40 = R40 from rfl, R40, show T.rel 69 = R69 from rfl, R69, show T.pre 40 = Q40 from rfl, Q40, show T.pre 69 = Q69 from rfl, Q69]
  revert hp hl2
  generalize (E.r 0).i 0 = b
  generalize (E.r 0).c 1 = an
  generalize (E.r 0).l 2 = al
  generalize (E.r 0).i 3 = w
  generalize (E.r 0).i 4 = n
  generalize (E.r 65547).i 0 = x11_0
  try simp only [mxI, mnI]
  try simp only [ltb, leb, eqb, Int.lt_irrefl, decide_false, Int.le_refl, decide_true]
  intro hl hp
  simp only [Mq, MB]
  refine ⟨fun c => ⟨fun c2 => ⟨fun e => ?_, fun n => n hp.1⟩, fun c2 => ?_⟩, fun c => ⟨fun c2 => ⟨fun c3 => ⟨fun c4 => ?_, fun c4 => ?_⟩, fun c3 => ?_⟩, fun c2 => ?_⟩⟩
  · omega
  · refine ⟨fun h => h.elim, fun h => by omega⟩
  · have := hp.2
    omega
  all_goals refine ⟨fun h => h.elim, fun h => by have := hp.2; omega⟩
end Go.Proofs.YtafhkgicekddlaaGreatDoor.Fn
namespace Go.Proofs.YtafhkgicekddlaaGreatDoor.Fn
open Go Go.RowKit Go.Proofs.YtafhkgicekddlaaGreatDoor.Sy
set_option linter.unusedVariables false
set_option linter.unusedSimpArgs false
set_option maxRecDepth 100000
def t70 : Tr :=
  .br (.f (.is (.le (.n 1) (.v 0 2)) true) <|
   .br (.f (.is (.le (.v 0 2) (.n 1048576)) true) <|
    .ok [.tru (.lt (.v 0 1) (.v 0 2))])
   (.f (.is (.le (.v 0 2) (.n 1048576)) false) <|
    .ok [.tru (.lt (.n 0) (.n 0))]))
  (.f (.is (.le (.n 1) (.v 0 2)) false) <|
   .ok [.tru (.lt (.n 0) (.n 0))])
theorem c70 : ConS Tryz.prog T C70 := con_tr (cs := []) (lcs := []) (known := []) (cons_nil _ _) (Known.nil _) (N := 400) (d := 40) (t := t70) (by kernel_rfl) <| by
  intro E hl hp
  clear hl
  clear hp
  simp only [t70, C70, Tr.good, Fact.den, LX.den, DX.ls, DV.ls, DX.den, Bx.den, Ex.den, eo_add, eo_sub, eo_mul, eo_quo, eo_rem, eo_fdv, eo_mn, eo_mx, eo_land, eo_lor, eo_lxor, eo_landn, eo_shl, eo_shr, dvs, flatS, SP.flat, ST.flat, List.map_cons, List.map_nil, List.append_nil, List.cons_append, List.nil_append, ltb_t, ltb_f, leb_t, leb_f, eqb_t, eqb_f, decide_eq_true_eq, decide_eq_false_iff_not, Bool.not_eq_true', Bool.not_eq_false', Bool.and_eq_true, Bool.and_eq_false_imp, beq_iff_eq, beq_eq_false_iff_ne, bne_iff_ne, U64, U32, I64, Big, W, wv, Told, s64, WT, PR, MR, MB, Int.zero_mul, Int.zero_add, Int.add_zero, Int.mul_zero, IntKind.wrap_u64, IntKind.wrap_i64, IntKind.wrap_u32, ne_eq, forall_const, true_implies, show T.rel 70 = R70 from rfl, R70]
  generalize (E.r 0).i 0 = t
  generalize (E.r 0).i 1 = r
  generalize (E.r 0).i 2 = w
  try simp only [mxI, mnI]
  try simp only [ltb, leb, eqb, Int.lt_irrefl, decide_false, Int.le_refl, decide_true]
  simp only [Pq, PR]
  repeat' (first | intro _ | refine And.intro ?_ ?_ | refine Iff.intro ?_ ?_)
  all_goals first | omega | (simp_all; done) | (simp_all; omega)
end Go.Proofs.YtafhkgicekddlaaGreatDoor.Fn
namespace Go.Proofs.YtafhkgicekddlaaGreatDoor.Fn
open Go Go.RowKit Go.Proofs.YtafhkgicekddlaaGreatDoor.Sy
set_option linter.unusedVariables false
set_option linter.unusedSimpArgs false
set_option maxRecDepth 100000
def t97 : Tr :=
  .br (.f (.rel 23 [.num (.n 1)] 65537 [.bool, .list [.int .i64]]) <|
   .br (.f (.rel 109703 [.num (.v 0 0), .tru (.v 65537 0), .lst 65537 1, .num (.n 0)] 65541 [.bool, .list [.int .i64], .int .i64]) <|
    .br (.f (.is (.lt (.v 65541 2) (.v 0 0)) false) <|
     .ok [.tru (.v 65541 0), .lst 65541 1])
    (.f (.is (.lt (.v 65541 2) (.v 0 0)) true) <|
     .br (.f (.npre 42 [.tru (.v 65541 0), .lst 65541 1, .tru (.v 65541 0), .lst 65541 1]) <|
      .bad)
     (.f (.rel 42 [.tru (.v 65541 0), .lst 65541 1, .tru (.v 65541 0), .lst 65541 1] 65547 [.bool, .list [.int .i64]]) <|
      .br (.f (.nrel 109703 [.num (.v 0 0), .tru (.v 65537 0), .lst 65537 1, .num (.n 0)] [.tru (.v 65547 0), .lst 65547 1, .num (.wrap .i64 (.bin .add (.v 65541 2) (.n 1)))]) <|
       .bad)
      (.f (.ndec 109703 [.num (.v 0 0), .tru (.v 65537 0), .lst 65537 1, .num (.n 0)] [.tru (.v 65541 0), .lst 65541 1, .num (.v 65541 2)] [.tru (.v 65547 0), .lst 65547 1, .num (.wrap .i64 (.bin .add (.v 65541 2) (.n 1)))]) <|
       .bad))))
   (.f (.nrel 109703 [.num (.v 0 0), .tru (.v 65537 0), .lst 65537 1, .num (.n 0)] [.tru (.v 65537 0), .lst 65537 1, .num (.n 0)]) <|
    .bad))
  (.f (.npre 23 [.num (.n 1)]) <|
   .bad)
theorem c97 : ConS Tryz.prog T C97 := con_tr (cs := [C23, C42]) (lcs := [L109703]) (known := []) (cons_cons c23 (cons_cons c42 (cons_nil _ _))) (Known.nil _) (N := 400) (d := 40) (t := t97) (by kernel_rfl) <| by
  intro E hl hp
  clear hl
  have hp := hp rfl
  simp only [C97, show T.pre 97 = Q97 from rfl, flatS, SP.flat, dvs, List.append_nil, List.cons_append, List.nil_append, Q97, U64, U32, I64, Big, W, wv, s64, WT, PR, MR, MB] at hp
  simp only [t97, C97, Tr.good, Fact.den, LX.den, DX.ls, DV.ls, DX.den, Bx.den, Ex.den, eo_add, eo_sub, eo_mul, eo_quo, eo_rem, eo_fdv, eo_mn, eo_mx, eo_land, eo_lor, eo_lxor, eo_landn, eo_shl, eo_shr, dvs, flatS, SP.flat, ST.flat, List.map_cons, List.map_nil, List.append_nil, List.cons_append, List.nil_append, ltb_t, ltb_f, leb_t, leb_f, eqb_t, eqb_f, decide_eq_true_eq, decide_eq_false_iff_not, Bool.not_eq_true', Bool.not_eq_false', Bool.and_eq_true, Bool.and_eq_false_imp, beq_iff_eq, beq_eq_false_iff_ne, bne_iff_ne, U64, U32, I64, Big, W, wv, Told, s64, WT, PR, MR, MB, Int.zero_mul, Int.zero_add, Int.add_zero, Int.mul_zero, IntKind.wrap_u64, IntKind.wrap_i64, IntKind.wrap_u32, ne_eq, forall_const, true_implies, show T.rel 23 = R23 from rfl, R23, show T.rel 42 = R42 from rfl, R42, show T.rel 97 = R97 from rfl, R97, show T.rel 109703 = R109703 from rfl, R109703, show T.mu 109703 = M109703 from rfl, M109703, show T.pre 23 = Q23 from rfl, Q23, show T.pre 42 = Q42 from rfl, Q42, show T.pre 97 = Q97 from rfl, Q97]
  revert hp
  generalize (E.r 0).i 0 = n
  generalize (E.r 65537).c 0 = x1_0
  generalize (E.r 65537).l 1 = x1_1
  generalize (E.r 65541).c 0 = x5_0
  generalize (E.r 65541).l 1 = x5_1
  generalize (E.r 65541).i 2 = x5_2
  generalize (E.r 65547).c 0 = x11_0
  generalize (E.r 65547).l 1 = x11_1
  try simp only [mxI, mnI]
  try simp only [ltb, leb, eqb, Int.lt_irrefl, decide_false, Int.le_refl, decide_true]
  intro hp
  refine ⟨fun e1 => ⟨fun ⟨i0, i1, i2, i3⟩ => ⟨fun c => ?_, fun c => ?_⟩, fun n => n ⟨trivial, by omega, e1.1, e1.2⟩⟩, by omega⟩
  · have : x5_2 = n := by omega
    subst this
    exact ⟨i2, i3⟩
  · have p0 := p2_pos x5_2.toNat
    have p1 := p2_mono (show x5_2.toNat ≤ 200 by omega)
    rw [p2_200] at p1
    have ew : (x5_2 + 1 + 9223372036854775808) % 18446744073709551616 - 9223372036854775808 = x5_2 + 1 := by omega
    rw [ew]
    refine ⟨fun n => n ⟨⟨i2, by omega, by omega⟩, ⟨i2, by omega, by omega⟩⟩, fun e2 => ⟨fun n => n ⟨by omega, by omega, e2.1, ?_⟩, by omega⟩⟩
    rw [e2.2, i3, show (x5_2 + 1).toNat = x5_2.toNat + 1 by omega, Int.pow_succ]
    omega
end Go.Proofs.YtafhkgicekddlaaGreatDoor.Fn
namespace Go.Proofs.YtafhkgicekddlaaGreatDoor.Fn
open Go Go.RowKit Go.Proofs.YtafhkgicekddlaaGreatDoor.Sy
set_option linter.unusedVariables false
set_option linter.unusedSimpArgs false
set_option maxRecDepth 100000
def t96 : Tr :=
  .br (.f (.rel 59 [.num (.v 0 0)] 65538 [.bool, .list [.int .i64]]) <|
   .br (.f (.rel 59 [.num (.v 0 1)] 65540 [.bool, .list [.int .i64]]) <|
    .br (.f (.rel 60 [.tru (.v 65538 0), .lst 65538 1, .tru (.v 65540 0), .lst 65540 1] 65541 [.bool, .list [.int .i64]]) <|
     .br (.f (.rel 97 [.num (.n 63)] 65545 [.bool, .list [.int .i64]]) <|
      .br (.f (.rel 22 [.tru (.v 65541 0), .lst 65541 1, .tru (.v 65545 0), .lst 65545 1] 65546 [.int .i64]) <|
       .br (.f (.is (.le (.n 0) (.v 65546 0)) true) <|
        .br (.f (.rel 97 [.num (.n 64)] 65549 [.bool, .list [.int .i64]]) <|
         .br (.f (.rel 60 [.tru (.v 65541 0), .lst 65541 1, .tru (.v 65549 0), .lst 65549 1] 65550 [.bool, .list [.int .i64]]) <|
          .ok [.tru (.v 65550 0), .lst 65550 1])
         (.f (.npre 60 [.tru (.v 65541 0), .lst 65541 1, .tru (.v 65549 0), .lst 65549 1]) <|
          .bad))
        (.f (.npre 97 [.num (.n 64)]) <|
         .bad))
       (.f (.is (.le (.n 0) (.v 65546 0)) false) <|
        .br (.f (.rel 97 [.num (.n 63)] 65549 [.bool, .list [.int .i64]]) <|
         .br (.f (.rel 62 [.tru (.v 65549 0), .lst 65549 1] 65550 [.bool, .list [.int .i64]]) <|
          .br (.f (.rel 22 [.tru (.v 65541 0), .lst 65541 1, .tru (.v 65550 0), .lst 65550 1] 65551 [.int .i64]) <|
           .br (.f (.is (.lt (.v 65551 0) (.n 0)) true) <|
            .br (.f (.rel 97 [.num (.n 64)] 65554 [.bool, .list [.int .i64]]) <|
             .br (.f (.rel 42 [.tru (.v 65541 0), .lst 65541 1, .tru (.v 65554 0), .lst 65554 1] 65555 [.bool, .list [.int .i64]]) <|
              .ok [.tru (.v 65555 0), .lst 65555 1])
             (.f (.npre 42 [.tru (.v 65541 0), .lst 65541 1, .tru (.v 65554 0), .lst 65554 1]) <|
              .bad))
            (.f (.npre 97 [.num (.n 64)]) <|
             .bad))
           (.f (.is (.lt (.v 65551 0) (.n 0)) false) <|
            .ok [.tru (.v 65541 0), .lst 65541 1]))
          (.f (.npre 22 [.tru (.v 65541 0), .lst 65541 1, .tru (.v 65550 0), .lst 65550 1]) <|
           .bad))
         (.f (.npre 62 [.tru (.v 65549 0), .lst 65549 1]) <|
          .bad))
        (.f (.npre 97 [.num (.n 63)]) <|
         .bad)))
      (.f (.npre 22 [.tru (.v 65541 0), .lst 65541 1, .tru (.v 65545 0), .lst 65545 1]) <|
       .bad))
     (.f (.npre 97 [.num (.n 63)]) <|
      .bad))
    (.f (.npre 60 [.tru (.v 65538 0), .lst 65538 1, .tru (.v 65540 0), .lst 65540 1]) <|
     .bad))
   (.f (.npre 59 [.num (.v 0 1)]) <|
    .bad))
  (.f (.npre 59 [.num (.v 0 0)]) <|
   .bad)
theorem c96 : ConS Tryz.prog T C96 := con_tr (cs := [C22, C42, C59, C60, C62, C97]) (lcs := []) (known := []) (cons_cons c22 (cons_cons c42 (cons_cons c59 (cons_cons c60 (cons_cons c62 (cons_cons c97 (cons_nil _ _))))))) (Known.nil _) (N := 400) (d := 40) (t := t96) (by kernel_rfl) <| by
  intro E hl hp
  clear hl
  have hp := hp rfl
  simp only [C96, show T.pre 96 = Q96 from rfl, flatS, SP.flat, dvs, List.append_nil, List.cons_append, List.nil_append, Q96, U64, U32, I64, Big, W, wv, s64, WT, PR, MR, MB] at hp
  simp only [t96, C96, Tr.good, Fact.den, LX.den, DX.ls, DV.ls, DX.den, Bx.den, Ex.den, eo_add, eo_sub, eo_mul, eo_quo, eo_rem, eo_fdv, eo_mn, eo_mx, eo_land, eo_lor, eo_lxor, eo_landn, eo_shl, eo_shr, dvs, flatS, SP.flat, ST.flat, List.map_cons, List.map_nil, List.append_nil, List.cons_append, List.nil_append, ltb_t, ltb_f, leb_t, leb_f, eqb_t, eqb_f, decide_eq_true_eq, decide_eq_false_iff_not, Bool.not_eq_true', Bool.not_eq_false', Bool.and_eq_true, Bool.and_eq_false_imp, beq_iff_eq, beq_eq_false_iff_ne, bne_iff_ne, U64, U32, I64, Big, W, wv, Told, s64, WT, PR, MR, MB, Int.zero_mul, Int.zero_add, Int.add_zero, Int.mul_zero, IntKind.wrap_u64, IntKind.wrap_i64, IntKind.wrap_u32, ne_eq, forall_const, true_implies, show T.rel 22 = R22 from rfl, R22, show T.rel 42 = R42 from rfl, R42, show T.rel 59 = R59 from rfl, R59, show T.rel 60 = R60 from rfl, R60, show T.rel 62 = R62 from rfl, R62, show T.rel 96 = R96 from rfl, R96, show T.rel 97 = R97 from rfl, R97, show T.pre 22 = Q22 from rfl, Q22, show T.pre 42 = Q42 from rfl, Q42, show T.pre 59 = Q59 from rfl, Q59, show T.pre 60 = Q60 from rfl, Q60, show T.pre 62 = Q62 from rfl, Q62, show T.pre 96 = Q96 from rfl, Q96, show T.pre 97 = Q97 from rfl, Q97]
  revert hp
  generalize (E.r 0).i 0 = t
  generalize (E.r 0).i 1 = u
  generalize (E.r 65538).c 0 = x2_0
  generalize (E.r 65538).l 1 = x2_1
  generalize (E.r 65540).c 0 = x4_0
  generalize (E.r 65540).l 1 = x4_1
  generalize (E.r 65541).c 0 = x5_0
  generalize (E.r 65541).l 1 = x5_1
  generalize (E.r 65545).c 0 = x9_0
  generalize (E.r 65545).l 1 = x9_1
  generalize (E.r 65546).i 0 = x10_0
  generalize (E.r 65549).c 0 = x13_0
  generalize (E.r 65549).l 1 = x13_1
  generalize (E.r 65550).c 0 = x14_0
  generalize (E.r 65550).l 1 = x14_1
  generalize (E.r 65551).i 0 = x15_0
  generalize (E.r 65554).c 0 = x18_0
  generalize (E.r 65554).l 1 = x18_1
  generalize (E.r 65555).c 0 = x19_0
  generalize (E.r 65555).l 1 = x19_1
  try simp only [mxI, mnI]
  try simp only [ltb, leb, eqb, Int.lt_irrefl, decide_false, Int.le_refl, decide_true]
  intro hp
  rw [p2_63, p2_64]
  repeat' (first | assumption | (intro (h : _ ∧ _); obtain ⟨_, _⟩ := h) | intro _ | refine And.intro ?_ ?_)
  all_goals try (show False; refine absurd ?_ ‹¬ _›)
  all_goals repeat' (first | assumption | refine And.intro ?_ ?_)
  all_goals first | omega | (simp_all; done) | (simp_all; omega)
end Go.Proofs.YtafhkgicekddlaaGreatDoor.Fn
namespace Go.Proofs.YtafhkgicekddlaaGreatDoor.Fn
open Go Go.RowKit Go.Proofs.YtafhkgicekddlaaGreatDoor.Sy
set_option linter.unusedVariables false
set_option linter.unusedSimpArgs false
set_option maxRecDepth 100000
def t71 : Tr :=
  .br (.f (.rel 59 [.num (.wrap .u64 (.v 0 2))] 65541 [.bool, .list [.int .i64]]) <|
   .br (.f (.rel 96 [.num (.v 0 0), .num (.v 0 3)] 65545 [.bool, .list [.int .i64]]) <|
    .br (.f (.rel 58 [.tru (.v 65541 0), .lst 65541 1, .tru (.v 65545 0), .lst 65545 1] 65546 [.bool, .list [.int .i64]]) <|
     .br (.f (.rel 59 [.num (.wrap .u64 (.v 0 1))] 65550 [.bool, .list [.int .i64]]) <|
      .br (.f (.rel 42 [.tru (.v 65546 0), .lst 65546 1, .tru (.v 65550 0), .lst 65550 1] 65551 [.bool, .list [.int .i64]]) <|
       .ok [.tru (.v 65551 0), .lst 65551 1])
      (.f (.npre 42 [.tru (.v 65546 0), .lst 65546 1, .tru (.v 65550 0), .lst 65550 1]) <|
       .bad))
     (.f (.npre 59 [.num (.wrap .u64 (.v 0 1))]) <|
      .bad))
    (.f (.npre 58 [.tru (.v 65541 0), .lst 65541 1, .tru (.v 65545 0), .lst 65545 1]) <|
     .bad))
   (.f (.npre 96 [.num (.v 0 0), .num (.v 0 3)]) <|
    .bad))
  (.f (.npre 59 [.num (.wrap .u64 (.v 0 2))]) <|
   .bad)
theorem c71 : ConS Tryz.prog T C71 := con_tr (cs := [C42, C58, C59, C96]) (lcs := []) (known := []) (cons_cons c42 (cons_cons c58 (cons_cons c59 (cons_cons c96 (cons_nil _ _))))) (Known.nil _) (N := 400) (d := 40) (t := t71) (by kernel_rfl) <| by
  intro E hl hp
  clear hl
  have hp := hp rfl
  simp only [C71, show T.pre 71 = Q71 from rfl, flatS, SP.flat, dvs, List.append_nil, List.cons_append, List.nil_append, Q71, U64, U32, I64, Big, W, wv, s64, WT, PR, MR, MB] at hp
  simp only [t71, C71, Tr.good, Fact.den, LX.den, DX.ls, DV.ls, DX.den, Bx.den, Ex.den, eo_add, eo_sub, eo_mul, eo_quo, eo_rem, eo_fdv, eo_mn, eo_mx, eo_land, eo_lor, eo_lxor, eo_landn, eo_shl, eo_shr, dvs, flatS, SP.flat, ST.flat, List.map_cons, List.map_nil, List.append_nil, List.cons_append, List.nil_append, ltb_t, ltb_f, leb_t, leb_f, eqb_t, eqb_f, decide_eq_true_eq, decide_eq_false_iff_not, Bool.not_eq_true', Bool.not_eq_false', Bool.and_eq_true, Bool.and_eq_false_imp, beq_iff_eq, beq_eq_false_iff_ne, bne_iff_ne, U64, U32, I64, Big, W, wv, Told, s64, WT, PR, MR, MB, Int.zero_mul, Int.zero_add, Int.add_zero, Int.mul_zero, IntKind.wrap_u64, IntKind.wrap_i64, IntKind.wrap_u32, ne_eq, forall_const, true_implies, show T.rel 42 = R42 from rfl, R42, show T.rel 58 = R58 from rfl, R58, show T.rel 59 = R59 from rfl, R59, show T.rel 71 = R71 from rfl, R71, show T.rel 96 = R96 from rfl, R96, show T.pre 42 = Q42 from rfl, Q42, show T.pre 58 = Q58 from rfl, Q58, show T.pre 59 = Q59 from rfl, Q59, show T.pre 71 = Q71 from rfl, Q71, show T.pre 96 = Q96 from rfl, Q96]
  revert hp
  generalize (E.r 0).i 0 = t
  generalize (E.r 0).i 1 = r
  generalize (E.r 0).i 2 = w
  generalize (E.r 0).i 3 = base
  generalize (E.r 65541).c 0 = x5_0
  generalize (E.r 65541).l 1 = x5_1
  generalize (E.r 65545).c 0 = x9_0
  generalize (E.r 65545).l 1 = x9_1
  generalize (E.r 65546).c 0 = x10_0
  generalize (E.r 65546).l 1 = x10_1
  generalize (E.r 65550).c 0 = x14_0
  generalize (E.r 65550).l 1 = x14_1
  generalize (E.r 65551).c 0 = x15_0
  generalize (E.r 65551).l 1 = x15_1
  try simp only [mxI, mnI]
  try simp only [ltb, leb, eqb, Int.lt_irrefl, decide_false, Int.le_refl, decide_true]
  intro hp
  have e1 : w % 18446744073709551616 = w := by omega
  have e2 : r % 18446744073709551616 = r := by omega
  have s := mul_abs (w := w) (s := (t - base + 9223372036854775808) % 18446744073709551616 - 9223372036854775808) (A := 4294967295) (by omega) (by omega) (by omega) (by omega)
  simp only [e1, e2]
  refine ⟨fun a1 => ⟨fun a2 => ⟨fun a3 => ⟨fun a4 => ⟨fun a5 => ⟨a5.1, ?_⟩, fun n => n ⟨⟨a3.1, ?_, ?_⟩, a4.1, by omega, by omega⟩⟩, by omega⟩, fun n => n ⟨⟨a1.1, by omega, by omega⟩, a2.1, by omega, by omega⟩⟩, by omega⟩, by omega⟩
  · rw [a5.2, a3.2, a1.2, a2.2, a4.2]
  · rw [a3.2, a1.2, a2.2]; omega
  · rw [a3.2, a1.2, a2.2]; omega
end Go.Proofs.YtafhkgicekddlaaGreatDoor.Fn
namespace Go.Proofs.YtafhkgicekddlaaGreatDoor.Fn
open Go Go.RowKit Go.Proofs.YtafhkgicekddlaaGreatDoor.Sy
set_option linter.unusedVariables false
set_option linter.unusedSimpArgs false
set_option maxRecDepth 100000
def t72 : Tr :=
  .br (.f (.rel 97 [.num (.n 127)] 65538 [.bool, .list [.int .i64]]) <|
   .br (.f (.rel 22 [.tru (.v 0 0), .lst 0 1, .tru (.v 65538 0), .lst 65538 1] 65543 [.int .i64]) <|
    .br (.f (.is (.lt (.v 65543 0) (.n 0)) true) <|
     .br (.f (.rel 62 [.tru (.v 65538 0), .lst 65538 1] 65548 [.bool, .list [.int .i64]]) <|
      .br (.f (.rel 22 [.tru (.v 0 0), .lst 0 1, .tru (.v 65548 0), .lst 65548 1] 65549 [.int .i64]) <|
       .ok [.tru (.le (.n 0) (.v 65549 0))])
      (.f (.npre 22 [.tru (.v 0 0), .lst 0 1, .tru (.v 65548 0), .lst 65548 1]) <|
       .bad))
     (.f (.npre 62 [.tru (.v 65538 0), .lst 65538 1]) <|
      .bad))
    (.f (.is (.lt (.v 65543 0) (.n 0)) false) <|
     .ok [.tru (.lt (.n 0) (.n 0))]))
   (.f (.npre 22 [.tru (.v 0 0), .lst 0 1, .tru (.v 65538 0), .lst 65538 1]) <|
    .bad))
  (.f (.npre 97 [.num (.n 127)]) <|
   .bad)
theorem c72 : ConS Tryz.prog T C72 := con_tr (cs := [C22, C62, C97]) (lcs := []) (known := []) (cons_cons c22 (cons_cons c62 (cons_cons c97 (cons_nil _ _)))) (Known.nil _) (N := 400) (d := 40) (t := t72) (by kernel_rfl) <| by
  intro E hl hp
  have hl1 := hl 1 _ rfl
  clear hl
  have hp := hp rfl
  simp only [C72, show T.pre 72 = Q72 from rfl, flatS, SP.flat, dvs, List.append_nil, List.cons_append, List.nil_append, Q72, U64, U32, I64, Big, W, wv, s64, WT, PR, MR, MB] at hp
  simp only [t72, C72, Tr.good, Fact.den, LX.den, DX.ls, DV.ls, DX.den, Bx.den, Ex.den, eo_add, eo_sub, eo_mul, eo_quo, eo_rem, eo_fdv, eo_mn, eo_mx, eo_land, eo_lor, eo_lxor, eo_landn, eo_shl, eo_shr, dvs, flatS, SP.flat, ST.flat, List.map_cons, List.map_nil, List.append_nil, List.cons_append, List.nil_append, ltb_t, ltb_f, leb_t, leb_f, eqb_t, eqb_f, decide_eq_true_eq, decide_eq_false_iff_not, Bool.not_eq_true', Bool.not_eq_false', Bool.and_eq_true, Bool.and_eq_false_imp, beq_iff_eq, beq_eq_false_iff_ne, bne_iff_ne, U64, U32, I64, Big, W, wv, Told, s64, WT, PR, MR, MB, Int.zero_mul, Int.zero_add, Int.add_zero, Int.mul_zero, IntKind.wrap_u64, IntKind.wrap_i64, IntKind.wrap_u32, ne_eq, forall_const, true_implies, show T.rel 22 = R22 from rfl, R22, show T.rel 62 = R62 from rfl, R62, show T.rel 72 = R72 from rfl, R72, show T.rel 97 = R97 from rfl, R97, show T.pre 22 = Q22 from rfl, Q22, show T.pre 62 = Q62 from rfl, Q62, show T.pre 72 = Q72 from rfl, Q72, show T.pre 97 = Q97 from rfl, Q97]
  revert hp hl1
  generalize (E.r 0).c 0 = n
  generalize (E.r 0).l 1 = l
  generalize (E.r 65538).c 0 = x2_0
  generalize (E.r 65538).l 1 = x2_1
  generalize (E.r 65543).i 0 = x7_0
  generalize (E.r 65548).c 0 = x12_0
  generalize (E.r 65548).l 1 = x12_1
  generalize (E.r 65549).i 0 = x13_0
  try simp only [mxI, mnI]
  try simp only [ltb, leb, eqb, Int.lt_irrefl, decide_false, Int.le_refl, decide_true]
  intro hl hp
  simp only [Bi, Big]
  rw [p2_127]
  refine ⟨fun e1 => ⟨fun e2 => ⟨fun c => ⟨fun e3 => ⟨fun e4 => ?_, fun n => n ⟨hp, e3.1, by omega, by omega⟩⟩, fun n => n ⟨e1.1, by omega, by omega⟩⟩, fun c => ?_⟩, fun n => n ⟨hp, e1.1, by omega, by omega⟩⟩, by omega⟩
  · omega
  · refine ⟨fun h => h.elim, fun h => ?_⟩
    omega
end Go.Proofs.YtafhkgicekddlaaGreatDoor.Fn
