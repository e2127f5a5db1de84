/- What is told of the functions, shown: turnstone/turnstoneref01.U, turnstone/turnstoneref01.Sign, turnstone/turnstoneref01.Neg, turnstone/turnstoneref01.Sub, turnstone/turnstoneref01.Cmp, turnstone/turnstoneref01.N, turnstone/turnstoneref01.Power, turnstone/turnstoneref01.Div, turnstone/turnstoneref01.Small, turnstone/turnstoneref04.Word, turnstone/turnstoneref04.At. -/
import Derived.Test.YtjemohphaeiaiaaGreatDoorFm2
namespace Go.Proofs.YtjemohphaeiaiaaGreatDoor.Fn
open Go Go.RowKit Go.Proofs.YtjemohphaeiaiaaGreatDoor.Sy
set_option linter.unusedVariables false
set_option linter.unusedSimpArgs false
set_option maxRecDepth 100000
def t45 : Tr :=
  .br (.f (.rel 104502 [.num (.v 0 0), .rows []] 65538 [.int .u64, .list [.int .i64]]) <|
   .br (.f (.is (.lt (.n 0) (.v 65538 0)) false) <|
    .ok [.tru (.lt (.n 0) (.n 0)), .lst 65538 1])
   (.f (.is (.lt (.n 0) (.v 65538 0)) true) <|
    .br (.f (.is (.le (.len 65538 1) (.n 1000000000)) false) <|
     .bad)
    (.f (.is (.le (.len 65538 1) (.n 1000000000)) true) <|
     .f (.lseq 65547 (.app (.lst 65538 1) (.rows [[.wrap .i64 (.bin .rem (.v 65538 0) (.n 10000))]]))) <|
      .br (.f (.nrel 104502 [.num (.v 0 0), .rows []] [.num (.wrap .u64 (.bin .quo (.v 65538 0) (.n 10000))), .lst 65547 0]) <|
       .bad)
      (.f (.ndec 104502 [.num (.v 0 0), .rows []] [.num (.v 65538 0), .lst 65538 1] [.num (.wrap .u64 (.bin .quo (.v 65538 0) (.n 10000))), .lst 65547 0]) <|
       .bad))))
  (.f (.nrel 104502 [.num (.v 0 0), .rows []] [.num (.v 0 0), .rows []]) <|
   .bad)
theorem c45 : ConS Tryz.prog T C45 := con_tr (cs := []) (lcs := [L104502]) (known := []) (cons_nil _ _) (Known.nil _) (N := 400) (d := 40) (t := t45) (by kernel_rfl) <| by
  intro E hl hp
  clear hl
  have hp := hp rfl
  simp only [C45, show T.pre 45 = Q45 from rfl, flatS, SP.flat, dvs, List.append_nil, List.cons_append, List.nil_append, Q45, U64, U32, I64, Big, W, wv, s64, WT, PR, MR, MB] at hp
  simp only [t45, C45, Tr.good, Fact.den, LX.den, DX.ls, DV.ls, DX.den, Bx.den, Ex.den, eo_add, eo_sub, eo_mul, eo_quo, eo_rem, eo_fdv, eo_mn, eo_mx, eo_land, eo_lor, eo_lxor, eo_landn, eo_shl, eo_shr, dvs, flatS, SP.flat, ST.flat, List.map_cons, List.map_nil, List.append_nil, List.cons_append, List.nil_append, ltb_t, ltb_f, leb_t, leb_f, eqb_t, eqb_f, decide_eq_true_eq, decide_eq_false_iff_not, Bool.not_eq_true', Bool.not_eq_false', Bool.and_eq_true, Bool.and_eq_false_imp, beq_iff_eq, beq_eq_false_iff_ne, bne_iff_ne, U64, U32, I64, Big, W, wv, Told, s64, WT, PR, MR, MB, Int.zero_mul, Int.zero_add, Int.add_zero, Int.mul_zero, IntKind.wrap_u64, IntKind.wrap_i64, IntKind.wrap_u32, ne_eq, forall_const, true_implies, show T.rel 45 = R45 from rfl, R45, show T.rel 104502 = R104502 from rfl, R104502, show T.mu 104502 = M104502 from rfl, M104502, show T.pre 45 = Q45 from rfl, Q45]
  revert hp
  generalize (E.r 0).i 0 = x
  generalize (E.r 65538).i 0 = x2_0
  generalize (E.r 65538).l 1 = x2_1
  generalize (E.r 65547).l 0 = x11_0
  try simp only [mxI, mnI]
  try simp only [ltb, leb, eqb, Int.lt_irrefl, decide_false, Int.le_refl, decide_true]
  intro hp
  refine ⟨fun ⟨i0, i1, i2, i3⟩ => ?_, fun n => n ⟨hp.1, dig_nil, by simp [dval, P4], by simp⟩⟩
  simp only [dval, Int.add_zero] at i2
  have p := P4_pos x2_1.length
  have d0 := dval_nonneg i1
  refine ⟨fun h => ?_, fun h => ?_⟩
  · have e : x2_0 = 0 := by omega
    rw [e, Int.mul_zero, Int.add_zero] at i2
    exact ⟨⟨i1, fun h => i3 e (by omega), by simp⟩, by simp only [bval, cond_false]; exact i2⟩
  · have l5 : x2_1.length < 5 := by
      refine Classical.byContradiction fun hn => ?_
      have a := P4_mono (show 5 ≤ x2_1.length by omega)
      have b : P4 5 = 100000000000000000000 := by decide
      have c := Int.mul_le_mul_of_nonneg_left (show 1 ≤ x2_0 by omega) (show 0 ≤ P4 x2_1.length by omega)
      omega
    have r0 := Int.emod_nonneg x2_0 (show (10000 : Int) ≠ 0 by omega)
    have r1 := Int.emod_lt_of_pos x2_0 (show (0 : Int) < 10000 by omega)
    have bnd : x2_0 < 18446744073709551616 := by
      have c := Int.mul_le_mul_of_nonneg_right (show 1 ≤ P4 x2_1.length by omega) (show 0 ≤ x2_0 by omega)
      omega
    rw [Int.tmod_eq_emod_of_nonneg i0, Int.tdiv_eq_ediv_of_nonneg i0]
    have e1 : (x2_0 % 10000 + 9223372036854775808) % 18446744073709551616 - 9223372036854775808 = x2_0 % 10000 := by omega
    have e2 : x2_0 / 10000 % 18446744073709551616 = x2_0 / 10000 := by omega
    simp only [e1, e2]
    refine ⟨by omega, fun _ e => ?_⟩
    subst e
    refine ⟨fun n => n ⟨by omega, dig_snoc i1 r0 r1, ?_, fun h5 _ => ?_⟩, by omega⟩
    · rw [dval_snoc, List.length_append, List.length_singleton, P4_add]
      simp only [P4, dval]
      have em : x2_0 = 10000 * (x2_0 / 10000) + x2_0 % 10000 := by omega
      generalize x2_0 / 10000 = q at *
      generalize x2_0 % 10000 = r at *
      subst em
      grind
    · rw [List.length_append, List.length_singleton, show ((x2_1.length + 1 : Nat) : Int) - 1 = x2_1.length by omega, rowAt_snoc]
      omega
end Go.Proofs.YtjemohphaeiaiaaGreatDoor.Fn
namespace Go.Proofs.YtjemohphaeiaiaaGreatDoor.Fn
open Go Go.RowKit Go.Proofs.YtjemohphaeiaiaaGreatDoor.Sy
set_option linter.unusedVariables false
set_option linter.unusedSimpArgs false
set_option maxRecDepth 100000
def t54 : Tr :=
  .br (.f (.is (.eq (.len 0 1) (.n 0)) true) <|
   .ok [.num (.n 0)])
  (.f (.is (.eq (.len 0 1) (.n 0)) false) <|
   .br (.f (.is (.v 0 0) true) <|
    .ok [.num (.n (-1))])
   (.f (.is (.v 0 0) false) <|
    .ok [.num (.n 1)]))
theorem c54 : ConS Tryz.prog T C54 := con_tr (cs := []) (lcs := []) (known := []) (cons_nil _ _) (Known.nil _) (N := 400) (d := 40) (t := t54) (by kernel_rfl) <| by
  intro E hl hp
  have hl1 := hl 1 _ rfl
  clear hl
  have hp := hp rfl
  simp only [C54, show T.pre 54 = Q54 from rfl, flatS, SP.flat, dvs, List.append_nil, List.cons_append, List.nil_append, Q54, U64, U32, I64, Big, W, wv, s64, WT, PR, MR, MB] at hp
  simp only [t54, C54, Tr.good, Fact.den, LX.den, DX.ls, DV.ls, DX.den, Bx.den, Ex.den, eo_add, eo_sub, eo_mul, eo_quo, eo_rem, eo_fdv, eo_mn, eo_mx, eo_land, eo_lor, eo_lxor, eo_landn, eo_shl, eo_shr, dvs, flatS, SP.flat, ST.flat, List.map_cons, List.map_nil, List.append_nil, List.cons_append, List.nil_append, ltb_t, ltb_f, leb_t, leb_f, eqb_t, eqb_f, decide_eq_true_eq, decide_eq_false_iff_not, Bool.not_eq_true', Bool.not_eq_false', Bool.and_eq_true, Bool.and_eq_false_imp, beq_iff_eq, beq_eq_false_iff_ne, bne_iff_ne, U64, U32, I64, Big, W, wv, Told, s64, WT, PR, MR, MB, Int.zero_mul, Int.zero_add, Int.add_zero, Int.mul_zero, IntKind.wrap_u64, IntKind.wrap_i64, IntKind.wrap_u32, ne_eq, forall_const, true_implies, show T.rel 54 = R54 from rfl, R54, show T.pre 54 = Q54 from rfl, Q54]
  revert hp hl1
  generalize (E.r 0).c 0 = n
  generalize (E.r 0).l 1 = l
  try simp only [mxI, mnI]
  try simp only [ltb, leb, eqb, Int.lt_irrefl, decide_false, Int.le_refl, decide_true]
  intro hl hp
  have z := hp.zero
  have q := hp.pos
  refine ⟨fun h => ?_, fun h => ⟨fun h2 => ?_, fun h2 => ?_⟩⟩
  · have := z.2 (by omega)
    exact ⟨by omega, fun _ => trivial, by omega⟩
  · have := q.2.2 ⟨by omega, h2⟩
    exact ⟨fun _ => trivial, by omega, by omega⟩
  · have := q.1.2 ⟨by omega, h2⟩
    exact ⟨by omega, by omega, fun _ => trivial⟩
end Go.Proofs.YtjemohphaeiaiaaGreatDoor.Fn
namespace Go.Proofs.YtjemohphaeiaiaaGreatDoor.Fn
open Go Go.RowKit Go.Proofs.YtjemohphaeiaiaaGreatDoor.Sy
set_option linter.unusedVariables false
set_option linter.unusedSimpArgs false
set_option maxRecDepth 100000
def t76 : Tr :=
  .br (.f (.rel 66 [.tru (.not (.v 0 0)), .lst 0 1] 65544 [.bool, .list [.int .i64]]) <|
   .ok [.tru (.v 65544 0), .lst 65544 1])
  (.f (.npre 66 [.tru (.not (.v 0 0)), .lst 0 1]) <|
   .bad)
theorem c76 : ConS Tryz.prog T C76 := con_tr (cs := [C66]) (lcs := []) (known := []) (cons_cons c66 (cons_nil _ _)) (Known.nil _) (N := 400) (d := 40) (t := t76) (by kernel_rfl) <| by
  intro E hl hp
  have hl1 := hl 1 _ rfl
  clear hl
  have hp := hp rfl
  simp only [C76, show T.pre 76 = Q76 from rfl, flatS, SP.flat, dvs, List.append_nil, List.cons_append, List.nil_append, Q76, U64, U32, I64, Big, W, wv, s64, WT, PR, MR, MB] at hp
  simp only [t76, C76, Tr.good, Fact.den, LX.den, DX.ls, DV.ls, DX.den, Bx.den, Ex.den, eo_add, eo_sub, eo_mul, eo_quo, eo_rem, eo_fdv, eo_mn, eo_mx, eo_land, eo_lor, eo_lxor, eo_landn, eo_shl, eo_shr, dvs, flatS, SP.flat, ST.flat, List.map_cons, List.map_nil, List.append_nil, List.cons_append, List.nil_append, ltb_t, ltb_f, leb_t, leb_f, eqb_t, eqb_f, decide_eq_true_eq, decide_eq_false_iff_not, Bool.not_eq_true', Bool.not_eq_false', Bool.and_eq_true, Bool.and_eq_false_imp, beq_iff_eq, beq_eq_false_iff_ne, bne_iff_ne, U64, U32, I64, Big, W, wv, Told, s64, WT, PR, MR, MB, Int.zero_mul, Int.zero_add, Int.add_zero, Int.mul_zero, IntKind.wrap_u64, IntKind.wrap_i64, IntKind.wrap_u32, ne_eq, forall_const, true_implies, show T.rel 66 = R66 from rfl, R66, show T.rel 76 = R76 from rfl, R76, show T.pre 66 = Q66 from rfl, Q66, show T.pre 76 = Q76 from rfl, Q76]
  revert hp hl1
  generalize (E.r 0).c 0 = n
  generalize (E.r 0).l 1 = l
  generalize (E.r 65544).c 0 = x8_0
  generalize (E.r 65544).l 1 = x8_1
  try simp only [mxI, mnI]
  try simp only [ltb, leb, eqb, Int.lt_irrefl, decide_false, Int.le_refl, decide_true]
  intro hl hp
  have := Bg.len hp
  refine ⟨fun h => ⟨h.1, ?_⟩, fun h => h ⟨hp.1.1, by omega⟩⟩
  rw [h.2]
  cases n <;> simp [bval]
end Go.Proofs.YtjemohphaeiaiaaGreatDoor.Fn
namespace Go.Proofs.YtjemohphaeiaiaaGreatDoor.Fn
open Go Go.RowKit Go.Proofs.YtjemohphaeiaiaaGreatDoor.Sy
set_option linter.unusedVariables false
set_option linter.unusedSimpArgs false
set_option maxRecDepth 100000
def t75 : Tr :=
  .br (.f (.rel 76 [.tru (.v 0 2), .lst 0 3] 65541 [.bool, .list [.int .i64]]) <|
   .br (.f (.rel 44 [.tru (.v 0 0), .lst 0 1, .tru (.v 65541 0), .lst 65541 1] 65542 [.bool, .list [.int .i64]]) <|
    .ok [.tru (.v 65542 0), .lst 65542 1])
   (.f (.npre 44 [.tru (.v 0 0), .lst 0 1, .tru (.v 65541 0), .lst 65541 1]) <|
    .bad))
  (.f (.npre 76 [.tru (.v 0 2), .lst 0 3]) <|
   .bad)
theorem c75 : ConS Tryz.prog T C75 := con_tr (cs := [C44, C76]) (lcs := []) (known := []) (cons_cons c44 (cons_cons c76 (cons_nil _ _))) (Known.nil _) (N := 400) (d := 40) (t := t75) (by kernel_rfl) <| by
  intro E hl hp
  have hl1 := hl 1 _ rfl
  have hl3 := hl 3 _ rfl
  clear hl
  have hp := hp rfl
  simp only [C75, show T.pre 75 = Q75 from rfl, flatS, SP.flat, dvs, List.append_nil, List.cons_append, List.nil_append, Q75, U64, U32, I64, Big, W, wv, s64, WT, PR, MR, MB] at hp
  simp only [t75, C75, Tr.good, Fact.den, LX.den, DX.ls, DV.ls, DX.den, Bx.den, Ex.den, eo_add, eo_sub, eo_mul, eo_quo, eo_rem, eo_fdv, eo_mn, eo_mx, eo_land, eo_lor, eo_lxor, eo_landn, eo_shl, eo_shr, dvs, flatS, SP.flat, ST.flat, List.map_cons, List.map_nil, List.append_nil, List.cons_append, List.nil_append, ltb_t, ltb_f, leb_t, leb_f, eqb_t, eqb_f, decide_eq_true_eq, decide_eq_false_iff_not, Bool.not_eq_true', Bool.not_eq_false', Bool.and_eq_true, Bool.and_eq_false_imp, beq_iff_eq, beq_eq_false_iff_ne, bne_iff_ne, U64, U32, I64, Big, W, wv, Told, s64, WT, PR, MR, MB, Int.zero_mul, Int.zero_add, Int.add_zero, Int.mul_zero, IntKind.wrap_u64, IntKind.wrap_i64, IntKind.wrap_u32, ne_eq, forall_const, true_implies, show T.rel 44 = R44 from rfl, R44, show T.rel 75 = R75 from rfl, R75, show T.rel 76 = R76 from rfl, R76, show T.pre 44 = Q44 from rfl, Q44, show T.pre 75 = Q75 from rfl, Q75, show T.pre 76 = Q76 from rfl, Q76]
  revert hp hl1 hl3
  generalize (E.r 0).c 0 = an
  generalize (E.r 0).l 1 = al
  generalize (E.r 0).c 2 = bn
  generalize (E.r 0).l 3 = bl
  generalize (E.r 65541).c 0 = x5_0
  generalize (E.r 65541).l 1 = x5_1
  generalize (E.r 65542).c 0 = x6_0
  generalize (E.r 65542).l 1 = x6_1
  try simp only [mxI, mnI]
  try simp only [ltb, leb, eqb, Int.lt_irrefl, decide_false, Int.le_refl, decide_true]
  intro hal hbl hp
  refine ⟨fun e => ⟨fun e2 => ⟨e2.1, by rw [e2.2, e.2]; omega⟩, fun n => n ⟨hp.1, e.1, by rw [e.2]; omega, by rw [e.2]; omega⟩⟩, fun n => n hp.2⟩
end Go.Proofs.YtjemohphaeiaiaaGreatDoor.Fn
namespace Go.Proofs.YtjemohphaeiaiaaGreatDoor.Fn
open Go Go.RowKit Go.Proofs.YtjemohphaeiaiaaGreatDoor.Sy
set_option linter.unusedVariables false
set_option linter.unusedSimpArgs false
set_option maxRecDepth 100000
def t55 : Tr :=
  .br (.f (.rel 75 [.tru (.v 0 0), .lst 0 1, .tru (.v 0 2), .lst 0 3] 65541 [.bool, .list [.int .i64]]) <|
   .br (.f (.rel 54 [.tru (.v 65541 0), .lst 65541 1] 65542 [.int .i64]) <|
    .ok [.num (.v 65542 0)])
   (.f (.npre 54 [.tru (.v 65541 0), .lst 65541 1]) <|
    .bad))
  (.f (.npre 75 [.tru (.v 0 0), .lst 0 1, .tru (.v 0 2), .lst 0 3]) <|
   .bad)
theorem c55 : ConS Tryz.prog T C55 := con_tr (cs := [C54, C75]) (lcs := []) (known := []) (cons_cons c54 (cons_cons c75 (cons_nil _ _))) (Known.nil _) (N := 400) (d := 40) (t := t55) (by kernel_rfl) <| by
  intro E hl hp
  have hl1 := hl 1 _ rfl
  have hl3 := hl 3 _ rfl
  clear hl
  have hp := hp rfl
  simp only [C55, show T.pre 55 = Q55 from rfl, flatS, SP.flat, dvs, List.append_nil, List.cons_append, List.nil_append, Q55, U64, U32, I64, Big, W, wv, s64, WT, PR, MR, MB] at hp
  simp only [t55, C55, Tr.good, Fact.den, LX.den, DX.ls, DV.ls, DX.den, Bx.den, Ex.den, eo_add, eo_sub, eo_mul, eo_quo, eo_rem, eo_fdv, eo_mn, eo_mx, eo_land, eo_lor, eo_lxor, eo_landn, eo_shl, eo_shr, dvs, flatS, SP.flat, ST.flat, List.map_cons, List.map_nil, List.append_nil, List.cons_append, List.nil_append, ltb_t, ltb_f, leb_t, leb_f, eqb_t, eqb_f, decide_eq_true_eq, decide_eq_false_iff_not, Bool.not_eq_true', Bool.not_eq_false', Bool.and_eq_true, Bool.and_eq_false_imp, beq_iff_eq, beq_eq_false_iff_ne, bne_iff_ne, U64, U32, I64, Big, W, wv, Told, s64, WT, PR, MR, MB, Int.zero_mul, Int.zero_add, Int.add_zero, Int.mul_zero, IntKind.wrap_u64, IntKind.wrap_i64, IntKind.wrap_u32, ne_eq, forall_const, true_implies, show T.rel 54 = R54 from rfl, R54, show T.rel 55 = R55 from rfl, R55, show T.rel 75 = R75 from rfl, R75, show T.pre 54 = Q54 from rfl, Q54, show T.pre 55 = Q55 from rfl, Q55, show T.pre 75 = Q75 from rfl, Q75]
  revert hp hl1 hl3
  generalize (E.r 0).c 0 = an
  generalize (E.r 0).l 1 = al
  generalize (E.r 0).c 2 = bn
  generalize (E.r 0).l 3 = bl
  generalize (E.r 65541).c 0 = x5_0
  generalize (E.r 65541).l 1 = x5_1
  generalize (E.r 65542).i 0 = x6_0
  try simp only [mxI, mnI]
  try simp only [ltb, leb, eqb, Int.lt_irrefl, decide_false, Int.le_refl, decide_true]
  intro hal hbl hp
  refine ⟨fun e => ⟨fun e2 => ?_, fun n => n e.1⟩, fun n => n hp⟩
  rw [e.2] at e2
  omega
end Go.Proofs.YtjemohphaeiaiaaGreatDoor.Fn
namespace Go.Proofs.YtjemohphaeiaiaaGreatDoor.Fn
open Go Go.RowKit Go.Proofs.YtjemohphaeiaiaaGreatDoor.Sy
set_option linter.unusedVariables false
set_option linter.unusedSimpArgs false
set_option maxRecDepth 100000
def t77 : Tr :=
  .br (.f (.is (.le (.n 0) (.v 0 0)) true) <|
   .br (.f (.rel 45 [.num (.wrap .u64 (.v 0 0))] 65541 [.bool, .list [.int .i64]]) <|
    .ok [.tru (.v 65541 0), .lst 65541 1])
   (.f (.npre 45 [.num (.wrap .u64 (.v 0 0))]) <|
    .bad))
  (.f (.is (.le (.n 0) (.v 0 0)) false) <|
   .br (.f (.rel 45 [.num (.wrap .u64 (.bin .add (.wrap .u64 (.wrap .i64 (.bin .sub (.n 0) (.wrap .i64 (.bin .add (.v 0 0) (.n 1)))))) (.n 1)))] 65544 [.bool, .list [.int .i64]]) <|
    .f (.is (.eq (.v 65547 0) (.wrap .i64 (.bin .sub (.n 0) (.wrap .i64 (.bin .add (.v 0 0) (.n 1)))))) true) <|
     .ok [.tru (.le (.n 0) (.n 0)), .lst 65544 1])
   (.f (.npre 45 [.num (.wrap .u64 (.bin .add (.wrap .u64 (.wrap .i64 (.bin .sub (.n 0) (.wrap .i64 (.bin .add (.v 0 0) (.n 1)))))) (.n 1)))]) <|
    .bad))
theorem c77 : ConS Tryz.prog T C77 := con_tr (cs := [C45]) (lcs := []) (known := []) (cons_cons c45 (cons_nil _ _)) (Known.nil _) (N := 400) (d := 40) (t := t77) (by kernel_rfl) <| by
  intro E hl hp
  clear hl
  have hp := hp rfl
  simp only [C77, show T.pre 77 = Q77 from rfl, flatS, SP.flat, dvs, List.append_nil, List.cons_append, List.nil_append, Q77, U64, U32, I64, Big, W, wv, s64, WT, PR, MR, MB] at hp
  simp only [t77, C77, Tr.good, Fact.den, LX.den, DX.ls, DV.ls, DX.den, Bx.den, Ex.den, eo_add, eo_sub, eo_mul, eo_quo, eo_rem, eo_fdv, eo_mn, eo_mx, eo_land, eo_lor, eo_lxor, eo_landn, eo_shl, eo_shr, dvs, flatS, SP.flat, ST.flat, List.map_cons, List.map_nil, List.append_nil, List.cons_append, List.nil_append, ltb_t, ltb_f, leb_t, leb_f, eqb_t, eqb_f, decide_eq_true_eq, decide_eq_false_iff_not, Bool.not_eq_true', Bool.not_eq_false', Bool.and_eq_true, Bool.and_eq_false_imp, beq_iff_eq, beq_eq_false_iff_ne, bne_iff_ne, U64, U32, I64, Big, W, wv, Told, s64, WT, PR, MR, MB, Int.zero_mul, Int.zero_add, Int.add_zero, Int.mul_zero, IntKind.wrap_u64, IntKind.wrap_i64, IntKind.wrap_u32, ne_eq, forall_const, true_implies, show T.rel 45 = R45 from rfl, R45, show T.rel 77 = R77 from rfl, R77, show T.pre 45 = Q45 from rfl, Q45, show T.pre 77 = Q77 from rfl, Q77]
  revert hp
  generalize (E.r 0).i 0 = x
  generalize (E.r 65541).c 0 = x5_0
  generalize (E.r 65541).l 1 = x5_1
  generalize (E.r 65544).c 0 = x8_0
  generalize (E.r 65544).l 1 = x8_1
  generalize (E.r 65547).i 0 = x11_0
  try simp only [mxI, mnI]
  try simp only [ltb, leb, eqb, Int.lt_irrefl, decide_false, Int.le_refl, decide_true]
  intro hp
  refine ⟨fun h => ⟨fun e => ⟨e.1, by rw [e.2]; omega⟩, by omega⟩, fun h => ⟨fun e h2 => ?_, by omega⟩⟩
  have ev : (((0 - ((x + 1 + 9223372036854775808) % 18446744073709551616 - 9223372036854775808) + 9223372036854775808) % 18446744073709551616 - 9223372036854775808) % 18446744073709551616 + 1) % 18446744073709551616 = -x := by omega
  rw [ev] at e
  have pz := e.1.pos
  have b := bval_abs (n := true) e.1.1
  have b2 := bval_abs (n := x8_0) e.1.1
  have nz : x8_1.length ≠ 0 := (pz.1.1 (by omega)).1
  have e8 : x8_0 = false := (pz.1.1 (by omega)).2
  refine ⟨⟨e.1.1, e.1.h, fun h => absurd h nz⟩, ?_⟩
  rw [b.1 rfl, ← b2.2 e8]
  omega
end Go.Proofs.YtjemohphaeiaiaaGreatDoor.Fn
namespace Go.Proofs.YtjemohphaeiaiaaGreatDoor.Fn
open Go Go.RowKit Go.Proofs.YtjemohphaeiaiaaGreatDoor.Sy
set_option linter.unusedVariables false
set_option linter.unusedSimpArgs false
set_option maxRecDepth 100000
def t56 : Tr :=
  .br (.f (.rel 77 [.num (.n 1)] 65537 [.bool, .list [.int .i64]]) <|
   .br (.f (.rel 105603 [.num (.v 0 0), .tru (.v 65537 0), .lst 65537 1, .num (.n 0)] 65541 [.bool, .list [.int .i64], .int .i64]) <|
    .br (.f (.is (.lt (.v 65541 2) (.v 0 0)) false) <|
     .ok [.tru (.v 65541 0), .lst 65541 1])
    (.f (.is (.lt (.v 65541 2) (.v 0 0)) true) <|
     .br (.f (.npre 44 [.tru (.v 65541 0), .lst 65541 1, .tru (.v 65541 0), .lst 65541 1]) <|
      .bad)
     (.f (.rel 44 [.tru (.v 65541 0), .lst 65541 1, .tru (.v 65541 0), .lst 65541 1] 65547 [.bool, .list [.int .i64]]) <|
      .br (.f (.nrel 105603 [.num (.v 0 0), .tru (.v 65537 0), .lst 65537 1, .num (.n 0)] [.tru (.v 65547 0), .lst 65547 1, .num (.wrap .i64 (.bin .add (.v 65541 2) (.n 1)))]) <|
       .bad)
      (.f (.ndec 105603 [.num (.v 0 0), .tru (.v 65537 0), .lst 65537 1, .num (.n 0)] [.tru (.v 65541 0), .lst 65541 1, .num (.v 65541 2)] [.tru (.v 65547 0), .lst 65547 1, .num (.wrap .i64 (.bin .add (.v 65541 2) (.n 1)))]) <|
       .bad))))
   (.f (.nrel 105603 [.num (.v 0 0), .tru (.v 65537 0), .lst 65537 1, .num (.n 0)] [.tru (.v 65537 0), .lst 65537 1, .num (.n 0)]) <|
    .bad))
  (.f (.npre 77 [.num (.n 1)]) <|
   .bad)
theorem c56 : ConS Tryz.prog T C56 := con_tr (cs := [C44, C77]) (lcs := [L105603]) (known := []) (cons_cons c44 (cons_cons c77 (cons_nil _ _))) (Known.nil _) (N := 400) (d := 40) (t := t56) (by kernel_rfl) <| by
  intro E hl hp
  clear hl
  have hp := hp rfl
  simp only [C56, show T.pre 56 = Q56 from rfl, flatS, SP.flat, dvs, List.append_nil, List.cons_append, List.nil_append, Q56, U64, U32, I64, Big, W, wv, s64, WT, PR, MR, MB] at hp
  simp only [t56, C56, Tr.good, Fact.den, LX.den, DX.ls, DV.ls, DX.den, Bx.den, Ex.den, eo_add, eo_sub, eo_mul, eo_quo, eo_rem, eo_fdv, eo_mn, eo_mx, eo_land, eo_lor, eo_lxor, eo_landn, eo_shl, eo_shr, dvs, flatS, SP.flat, ST.flat, List.map_cons, List.map_nil, List.append_nil, List.cons_append, List.nil_append, ltb_t, ltb_f, leb_t, leb_f, eqb_t, eqb_f, decide_eq_true_eq, decide_eq_false_iff_not, Bool.not_eq_true', Bool.not_eq_false', Bool.and_eq_true, Bool.and_eq_false_imp, beq_iff_eq, beq_eq_false_iff_ne, bne_iff_ne, U64, U32, I64, Big, W, wv, Told, s64, WT, PR, MR, MB, Int.zero_mul, Int.zero_add, Int.add_zero, Int.mul_zero, IntKind.wrap_u64, IntKind.wrap_i64, IntKind.wrap_u32, ne_eq, forall_const, true_implies, show T.rel 44 = R44 from rfl, R44, show T.rel 56 = R56 from rfl, R56, show T.rel 77 = R77 from rfl, R77, show T.rel 105603 = R105603 from rfl, R105603, show T.mu 105603 = M105603 from rfl, M105603, show T.pre 44 = Q44 from rfl, Q44, show T.pre 56 = Q56 from rfl, Q56, show T.pre 77 = Q77 from rfl, Q77]
  revert hp
  generalize (E.r 0).i 0 = n
  generalize (E.r 65537).c 0 = x1_0
  generalize (E.r 65537).l 1 = x1_1
  generalize (E.r 65541).c 0 = x5_0
  generalize (E.r 65541).l 1 = x5_1
  generalize (E.r 65541).i 2 = x5_2
  generalize (E.r 65547).c 0 = x11_0
  generalize (E.r 65547).l 1 = x11_1
  try simp only [mxI, mnI]
  try simp only [ltb, leb, eqb, Int.lt_irrefl, decide_false, Int.le_refl, decide_true]
  intro hp
  refine ⟨fun e1 => ⟨fun ⟨i0, i1, i2, i3⟩ => ⟨fun c => ?_, fun c => ?_⟩, fun n => n ⟨trivial, by omega, e1.1, e1.2⟩⟩, by omega⟩
  · have : x5_2 = n := by omega
    subst this
    exact ⟨i2, i3⟩
  · have p0 := p2_pos x5_2.toNat
    have p1 := p2_mono (show x5_2.toNat ≤ 200 by omega)
    rw [p2_200] at p1
    have ew : (x5_2 + 1 + 9223372036854775808) % 18446744073709551616 - 9223372036854775808 = x5_2 + 1 := by omega
    rw [ew]
    refine ⟨fun n => n ⟨⟨i2, by omega, by omega⟩, ⟨i2, by omega, by omega⟩⟩, fun e2 => ⟨fun n => n ⟨by omega, by omega, e2.1, ?_⟩, by omega⟩⟩
    rw [e2.2, i3, show (x5_2 + 1).toNat = x5_2.toNat + 1 by omega, Int.pow_succ]
    omega
end Go.Proofs.YtjemohphaeiaiaaGreatDoor.Fn
namespace Go.Proofs.YtjemohphaeiaiaaGreatDoor.Fn
open Go Go.RowKit Go.Proofs.YtjemohphaeiaiaaGreatDoor.Sy
set_option linter.unusedVariables false
set_option linter.unusedSimpArgs false
set_option maxRecDepth 100000
def t62 : Tr :=
  .br (.f (.is (.lt (.len 0 1) (.n 0)) false) <|
   .br (.f (.is (.le (.len 0 1) (.n 1000000000)) true) <|
    .f (.lseq 65542 (.rep (.len 0 1) [0])) <|
     .br (.f (.rel 106204 [.lst 0 1, .num (.v 0 2), .lst 65542 0, .num (.n 0), .num (.wrap .i64 (.bin .sub (.len 0 1) (.n 1)))] 65550 [.list [.int .i64], .int .i64, .int .i64]) <|
      .br (.f (.is (.le (.n 0) (.v 65550 2)) false) <|
       .br (.f (.rel 66 [.tru (.lt (.n 0) (.n 0)), .lst 65550 0] 65555 [.bool, .list [.int .i64]]) <|
        .br (.f (.is (.v 0 0) false) <|
         .ok [.tru (.v 65555 0), .lst 65555 1, .num (.v 65550 1)])
        (.f (.is (.v 0 0) true) <|
         .br (.f (.is (.lt (.n 0) (.v 65550 1)) true) <|
          .br (.f (.rel 77 [.num (.n 1)] 65564 [.bool, .list [.int .i64]]) <|
           .br (.f (.rel 44 [.tru (.v 65555 0), .lst 65555 1, .tru (.v 65564 0), .lst 65564 1] 65565 [.bool, .list [.int .i64]]) <|
            .br (.f (.rel 76 [.tru (.v 65565 0), .lst 65565 1] 65572 [.bool, .list [.int .i64]]) <|
             .ok [.tru (.v 65572 0), .lst 65572 1, .num (.wrap .i64 (.bin .sub (.v 0 2) (.v 65550 1)))])
            (.f (.npre 76 [.tru (.v 65565 0), .lst 65565 1]) <|
             .bad))
           (.f (.npre 44 [.tru (.v 65555 0), .lst 65555 1, .tru (.v 65564 0), .lst 65564 1]) <|
            .bad))
          (.f (.npre 77 [.num (.n 1)]) <|
           .bad))
         (.f (.is (.lt (.n 0) (.v 65550 1)) false) <|
          .br (.f (.rel 76 [.tru (.v 65555 0), .lst 65555 1] 65564 [.bool, .list [.int .i64]]) <|
           .ok [.tru (.v 65564 0), .lst 65564 1, .num (.v 65550 1)])
          (.f (.npre 76 [.tru (.v 65555 0), .lst 65555 1]) <|
           .bad))))
       (.f (.npre 66 [.tru (.lt (.n 0) (.n 0)), .lst 65550 0]) <|
        .bad))
      (.f (.is (.le (.n 0) (.v 65550 2)) true) <|
       .br (.f (.is (.lt (.v 65550 2) (.n 0)) true) <|
        .bad)
       (.f (.is (.lt (.v 65550 2) (.n 0)) false) <|
        .br (.f (.is (.lt (.v 65550 2) (.len 0 1)) false) <|
         .bad)
        (.f (.is (.lt (.v 65550 2) (.len 0 1)) true) <|
         .f (.is (.eq (.v 65562 0) (.wrap .i64 (.bin .add (.wrap .i64 (.bin .mul (.v 65550 1) (.n 10000))) (.at 0 1 (.v 65550 2) 0)))) true) <|
          .br (.f (.is (.eq (.v 0 2) (.n 0)) true) <|
           .bad)
          (.f (.is (.eq (.v 0 2) (.n 0)) false) <|
           .br (.f (.is (.lt (.v 65550 2) (.len 65550 0)) false) <|
            .bad)
           (.f (.is (.lt (.v 65550 2) (.len 65550 0)) true) <|
            .f (.lseq 65569 (.set (.lst 65550 0) (.v 65550 2) 0 [.wrap .i64 (.bin .quo (.v 65562 0) (.v 0 2))])) <|
             .br (.f (.nrel 106204 [.lst 0 1, .num (.v 0 2), .lst 65542 0, .num (.n 0), .num (.wrap .i64 (.bin .sub (.len 0 1) (.n 1)))] [.lst 65569 0, .num (.bin .rem (.v 65562 0) (.v 0 2)), .num (.wrap .i64 (.bin .sub (.v 65550 2) (.n 1)))]) <|
              .bad)
             (.f (.ndec 106204 [.lst 0 1, .num (.v 0 2), .lst 65542 0, .num (.n 0), .num (.wrap .i64 (.bin .sub (.len 0 1) (.n 1)))] [.lst 65550 0, .num (.v 65550 1), .num (.v 65550 2)] [.lst 65569 0, .num (.bin .rem (.v 65562 0) (.v 0 2)), .num (.wrap .i64 (.bin .sub (.v 65550 2) (.n 1)))]) <|
              .bad)))))))
     (.f (.nrel 106204 [.lst 0 1, .num (.v 0 2), .lst 65542 0, .num (.n 0), .num (.wrap .i64 (.bin .sub (.len 0 1) (.n 1)))] [.lst 65542 0, .num (.n 0), .num (.wrap .i64 (.bin .sub (.len 0 1) (.n 1)))]) <|
      .bad))
   (.f (.is (.le (.len 0 1) (.n 1000000000)) false) <|
    .bad))
  (.f (.is (.lt (.len 0 1) (.n 0)) true) <|
   .bad)
theorem c62 : ConS Tryz.prog T C62 := con_tr (cs := [C44, C66, C76, C77]) (lcs := [L106204]) (known := []) (cons_cons c44 (cons_cons c66 (cons_cons c76 (cons_cons c77 (cons_nil _ _))))) (Known.nil _) (N := 400) (d := 40) (t := t62) (by kernel_rfl) <| by
  intro E hl hp
  have hl1 := hl 1 _ rfl
  clear hl
  have hp := hp rfl
  simp only [C62, show T.pre 62 = Q62 from rfl, flatS, SP.flat, dvs, List.append_nil, List.cons_append, List.nil_append, Q62, U64, U32, I64, Big, W, wv, s64, WT, PR, MR, MB] at hp
  simp only [t62, C62, Tr.good, Fact.den, LX.den, DX.ls, DV.ls, DX.den, Bx.den, Ex.den, eo_add, eo_sub, eo_mul, eo_quo, eo_rem, eo_fdv, eo_mn, eo_mx, eo_land, eo_lor, eo_lxor, eo_landn, eo_shl, eo_shr, dvs, flatS, SP.flat, ST.flat, List.map_cons, List.map_nil, List.append_nil, List.cons_append, List.nil_append, ltb_t, ltb_f, leb_t, leb_f, eqb_t, eqb_f, decide_eq_true_eq, decide_eq_false_iff_not, Bool.not_eq_true', Bool.not_eq_false', Bool.and_eq_true, Bool.and_eq_false_imp, beq_iff_eq, beq_eq_false_iff_ne, bne_iff_ne, U64, U32, I64, Big, W, wv, Told, s64, WT, PR, MR, MB, Int.zero_mul, Int.zero_add, Int.add_zero, Int.mul_zero, IntKind.wrap_u64, IntKind.wrap_i64, IntKind.wrap_u32, ne_eq, forall_const, true_implies, show T.rel 44 = R44 from rfl, R44, show T.rel 62 = R62 from rfl, R62, show T.rel 66 = R66 from rfl, R66, show T.rel 76 = R76 from rfl, R76, show T.rel 77 = R77 from rfl, R77, show T.rel 106204 = R106204 from rfl, R106204, show T.mu 106204 = M106204 from rfl, M106204, show T.pre 44 = Q44 from rfl, Q44, show T.pre 62 = Q62 from rfl, Q62, show T.pre 66 = Q66 from rfl, Q66, show T.pre 76 = Q76 from rfl, Q76, show T.pre 77 = Q77 from rfl, Q77]
  revert hp hl1
  generalize (E.r 0).c 0 = an
  generalize (E.r 0).l 1 = al
  generalize (E.r 0).i 2 = b
  generalize (E.r 65542).l 0 = x6_0
  generalize (E.r 65550).l 0 = x14_0
  generalize (E.r 65550).i 1 = x14_1
  generalize (E.r 65550).i 2 = x14_2
  generalize (E.r 65555).c 0 = x19_0
  generalize (E.r 65555).l 1 = x19_1
  generalize (E.r 65562).i 0 = x26_0
  generalize (E.r 65564).c 0 = x28_0
  generalize (E.r 65564).l 1 = x28_1
  generalize (E.r 65565).c 0 = x29_0
  generalize (E.r 65565).l 1 = x29_1
  generalize (E.r 65569).l 0 = x33_0
  generalize (E.r 65572).c 0 = x36_0
  generalize (E.r 65572).l 1 = x36_1
  try simp only [mxI, mnI]
  try simp only [ltb, leb, eqb, Int.lt_irrefl, decide_false, Int.le_refl, decide_true]
  intro hl hp
  have la := Bg.len hp.1
  have da := hp.1.1.1
  obtain ⟨ha, b0, b1⟩ := hp
  have v1 := bval_abs (n := an) da
  have an0 := dval_nonneg da
  refine ⟨fun _ => ⟨fun _ y0 => ⟨fun ⟨i0, i1, i2, i3, i4, i5, i6, i7⟩ => ⟨fun c => ?_, fun c => ?_⟩, ?_⟩, by omega⟩, by omega⟩
  · -- all digits are told
    have e0 : (x14_2 + 1).toNat = 0 := by omega
    rw [e0, List.drop_zero] at i7
    simp only [P4, Int.one_mul] at i7
    have hq := div_at b0 i7.symm i4 i5
    have qn := dval_nonneg i3
    have qb := Int.mul_le_mul_of_nonneg_left (show 1 ≤ b by omega) qn
    have sm : dval al < 1000000000000000000000000000000000000000000000000000000000000000000000000000000000000000000000000 := by
      have h1 := ha.2.1
      have h2 := ha.2.2
      cases an
      · have := v1.2 rfl; omega
      · have := v1.1 rfl; omega
    refine ⟨fun e1 => ?_, fun n => n ⟨i3, by omega⟩⟩
    have ev : bval x19_0 x19_1 = dval x14_0 := e1.2
    refine ⟨fun h => ?_, fun h => ⟨fun h2 => ⟨fun e2 => ⟨fun e3 => ⟨fun e4 => ?_, fun n => n ⟨e3.1, by rw [e3.2, ev, e2.2]; omega, by rw [e3.2, ev, e2.2]; omega⟩⟩, fun n => n ⟨⟨e1.1, by rw [ev]; omega, by rw [ev]; omega⟩, e2.1, by rw [e2.2]; omega, by rw [e2.2]; omega⟩⟩, by omega⟩, fun h2 => ⟨fun e2 => ?_, fun n => n ⟨e1.1, by rw [ev]; omega, by rw [ev]; omega⟩⟩⟩⟩
    · rw [ev, v1.2 h, hq.1, hq.2]
      exact ⟨e1.1, rfl, rfl⟩
    · have dn := div_neg (v := bval an al) (m := dval al) b0 (v1.1 h)
      rw [hq.1, hq.2] at dn
      have := dn.2 (by omega)
      rw [this.1, this.2, e4.2, e3.2, ev, e2.2]
      exact ⟨e4.1, by omega, by omega⟩
    · have dn := div_neg (v := bval an al) (m := dval al) b0 (v1.1 h)
      rw [hq.1, hq.2] at dn
      have := dn.1 (by omega)
      rw [this.1, this.2, e2.2, ev]
      exact ⟨e2.1, rfl, by omega⟩
  · obtain ⟨k, rfl⟩ := Int.eq_ofNat_of_zero_le c
    have ew : ((k : Int) - 1 + 9223372036854775808) % 18446744073709551616 - 9223372036854775808 = (k : Int) - 1 := by omega
    have ek : ((k : Int) + 1).toNat = k + 1 := by omega
    have ek2 : ((k : Int) - 1 + 1).toNat = k := by omega
    simp only [ew, ek, ek2] at *
    have dk := da k
    have e1 : ((x14_1 * 10000 + 9223372036854775808) % 18446744073709551616 - 9223372036854775808 + Sy.rowAt al k 0 + 9223372036854775808) % 18446744073709551616 - 9223372036854775808 = x14_1 * 10000 + Sy.rowAt al k 0 := by omega
    rw [e1]
    refine ⟨by omega, fun _ => ⟨by omega, fun _ s => ⟨by omega, fun _ => ⟨by omega, fun _ y => ?_⟩⟩⟩⟩
    have s0 : 0 ≤ x26_0 := by omega
    rw [Int.tdiv_eq_ediv_of_nonneg s0] at y
    rw [Int.tmod_eq_emod_of_nonneg s0]
    have q0 := Int.ediv_nonneg s0 (show 0 ≤ b by omega)
    have q1 : x26_0 / b < 10000 := by apply Int.ediv_lt_of_lt_mul b0; omega
    have r0 := Int.emod_nonneg x26_0 (show b ≠ 0 by omega)
    have r1 := Int.emod_lt_of_pos x26_0 b0
    have em := Int.emod_add_ediv_mul x26_0 b
    have eq : (x26_0 / b + 9223372036854775808) % 18446744073709551616 - 9223372036854775808 = x26_0 / b := by omega
    rw [eq] at y
    subst y
    refine ⟨fun n => n ⟨by omega, by omega, by rw [rowSet_len]; exact i2, dig_set i3 (by omega) (by omega) q0 q1, r0, r1, fun j hj => ?_, ?_⟩, by omega⟩
    · rw [rowAt_set (by omega) (by omega), if_neg (by omega)]
      exact i6 j (by omega)
    · rw [dval_set (by omega), i6 k (Int.le_refl _), dval_drop al k]
      simp only [P4] at i7
      generalize x26_0 / b = q at *
      generalize x26_0 % b = r at *
      subst s
      grind
  · intro n
    subst y0
    rw [Int.toNat_natCast] at n
    apply n
    have ew : ((al.length : Int) - 1 + 9223372036854775808) % 18446744073709551616 - 9223372036854775808 = (al.length : Int) - 1 := by omega
    rw [ew, show ((al.length : Int) - 1 + 1).toNat = al.length by omega, List.drop_length, dval_rep]
    exact ⟨by omega, by omega, List.length_replicate, dig_rep _, trivial, b0, fun j _ => rowAt_rep _ j, by simp [dval]⟩
end Go.Proofs.YtjemohphaeiaiaaGreatDoor.Fn
namespace Go.Proofs.YtjemohphaeiaiaaGreatDoor.Fn
open Go Go.RowKit Go.Proofs.YtjemohphaeiaiaaGreatDoor.Sy
set_option linter.unusedVariables false
set_option linter.unusedSimpArgs false
set_option maxRecDepth 100000
def t63 : Tr :=
  .br (.f (.rel 56 [.num (.n 63)] 65538 [.bool, .list [.int .i64]]) <|
   .br (.f (.rel 55 [.tru (.v 0 0), .lst 0 1, .tru (.v 65538 0), .lst 65538 1] 65543 [.int .i64]) <|
    .br (.f (.is (.lt (.v 65543 0) (.n 0)) true) <|
     .br (.f (.rel 76 [.tru (.v 65538 0), .lst 65538 1] 65548 [.bool, .list [.int .i64]]) <|
      .br (.f (.rel 55 [.tru (.v 0 0), .lst 0 1, .tru (.v 65548 0), .lst 65548 1] 65549 [.int .i64]) <|
       .ok [.tru (.le (.n 0) (.v 65549 0))])
      (.f (.npre 55 [.tru (.v 0 0), .lst 0 1, .tru (.v 65548 0), .lst 65548 1]) <|
       .bad))
     (.f (.npre 76 [.tru (.v 65538 0), .lst 65538 1]) <|
      .bad))
    (.f (.is (.lt (.v 65543 0) (.n 0)) false) <|
     .ok [.tru (.lt (.n 0) (.n 0))]))
   (.f (.npre 55 [.tru (.v 0 0), .lst 0 1, .tru (.v 65538 0), .lst 65538 1]) <|
    .bad))
  (.f (.npre 56 [.num (.n 63)]) <|
   .bad)
theorem c63 : ConS Tryz.prog T C63 := con_tr (cs := [C55, C56, C76]) (lcs := []) (known := []) (cons_cons c55 (cons_cons c56 (cons_cons c76 (cons_nil _ _)))) (Known.nil _) (N := 400) (d := 40) (t := t63) (by kernel_rfl) <| by
  intro E hl hp
  have hl1 := hl 1 _ rfl
  clear hl
  have hp := hp rfl
  simp only [C63, show T.pre 63 = Q63 from rfl, flatS, SP.flat, dvs, List.append_nil, List.cons_append, List.nil_append, Q63, U64, U32, I64, Big, W, wv, s64, WT, PR, MR, MB] at hp
  simp only [t63, C63, Tr.good, Fact.den, LX.den, DX.ls, DV.ls, DX.den, Bx.den, Ex.den, eo_add, eo_sub, eo_mul, eo_quo, eo_rem, eo_fdv, eo_mn, eo_mx, eo_land, eo_lor, eo_lxor, eo_landn, eo_shl, eo_shr, dvs, flatS, SP.flat, ST.flat, List.map_cons, List.map_nil, List.append_nil, List.cons_append, List.nil_append, ltb_t, ltb_f, leb_t, leb_f, eqb_t, eqb_f, decide_eq_true_eq, decide_eq_false_iff_not, Bool.not_eq_true', Bool.not_eq_false', Bool.and_eq_true, Bool.and_eq_false_imp, beq_iff_eq, beq_eq_false_iff_ne, bne_iff_ne, U64, U32, I64, Big, W, wv, Told, s64, WT, PR, MR, MB, Int.zero_mul, Int.zero_add, Int.add_zero, Int.mul_zero, IntKind.wrap_u64, IntKind.wrap_i64, IntKind.wrap_u32, ne_eq, forall_const, true_implies, show T.rel 55 = R55 from rfl, R55, show T.rel 56 = R56 from rfl, R56, show T.rel 63 = R63 from rfl, R63, show T.rel 76 = R76 from rfl, R76, show T.pre 55 = Q55 from rfl, Q55, show T.pre 56 = Q56 from rfl, Q56, show T.pre 63 = Q63 from rfl, Q63, show T.pre 76 = Q76 from rfl, Q76]
  revert hp hl1
  generalize (E.r 0).c 0 = n
  generalize (E.r 0).l 1 = l
  generalize (E.r 65538).c 0 = x2_0
  generalize (E.r 65538).l 1 = x2_1
  generalize (E.r 65543).i 0 = x7_0
  generalize (E.r 65548).c 0 = x12_0
  generalize (E.r 65548).l 1 = x12_1
  generalize (E.r 65549).i 0 = x13_0
  try simp only [mxI, mnI]
  try simp only [ltb, leb, eqb, Int.lt_irrefl, decide_false, Int.le_refl, decide_true]
  intro hl hp
  rw [p2_63]
  refine ⟨fun e1 => ⟨fun e2 => ⟨fun c => ⟨fun e3 => ⟨fun e4 => ?_, fun n => n ⟨hp, e3.1, by omega, by omega⟩⟩, fun n => n ⟨e1.1, by omega, by omega⟩⟩, fun c => ?_⟩, fun n => n ⟨hp, e1.1, by omega, by omega⟩⟩, by omega⟩
  · omega
  · refine ⟨fun h => h.elim, fun h => ?_⟩
    omega
end Go.Proofs.YtjemohphaeiaiaaGreatDoor.Fn
namespace Go.Proofs.YtjemohphaeiaiaaGreatDoor.Fn
open Go Go.RowKit Go.Proofs.YtjemohphaeiaiaaGreatDoor.Sy
set_option linter.unusedVariables false
set_option linter.unusedSimpArgs false
set_option maxRecDepth 100000
def t64 : Tr :=
  .br (.f (.rel 106403 [.lst 0 1, .num (.n 0), .num (.wrap .i64 (.bin .sub (.len 0 1) (.n 1)))] 65544 [.int .u64, .int .i64]) <|
   .br (.f (.is (.le (.n 0) (.v 65544 1)) false) <|
    .ok [.num (.v 65544 0)])
   (.f (.is (.le (.n 0) (.v 65544 1)) true) <|
    .br (.f (.is (.lt (.v 65544 1) (.n 0)) true) <|
     .bad)
    (.f (.is (.lt (.v 65544 1) (.n 0)) false) <|
     .br (.f (.is (.lt (.v 65544 1) (.len 0 1)) false) <|
      .bad)
     (.f (.is (.lt (.v 65544 1) (.len 0 1)) true) <|
      .f (.is (.eq (.v 65557 0) (.wrap .u64 (.bin .add (.wrap .u64 (.bin .mul (.n 10000) (.v 65544 0))) (.wrap .u64 (.at 0 1 (.v 65544 1) 0))))) true) <|
       .br (.f (.nrel 106403 [.lst 0 1, .num (.n 0), .num (.wrap .i64 (.bin .sub (.len 0 1) (.n 1)))] [.num (.v 65557 0), .num (.wrap .i64 (.bin .sub (.v 65544 1) (.n 1)))]) <|
        .bad)
       (.f (.ndec 106403 [.lst 0 1, .num (.n 0), .num (.wrap .i64 (.bin .sub (.len 0 1) (.n 1)))] [.num (.v 65544 0), .num (.v 65544 1)] [.num (.v 65557 0), .num (.wrap .i64 (.bin .sub (.v 65544 1) (.n 1)))]) <|
        .bad)))))
  (.f (.nrel 106403 [.lst 0 1, .num (.n 0), .num (.wrap .i64 (.bin .sub (.len 0 1) (.n 1)))] [.num (.n 0), .num (.wrap .i64 (.bin .sub (.len 0 1) (.n 1)))]) <|
   .bad)
theorem c64 : ConS Tryz.prog T C64 := con_tr (cs := []) (lcs := [L106403]) (known := []) (cons_nil _ _) (Known.nil _) (N := 400) (d := 40) (t := t64) (by kernel_rfl) <| by
  intro E hl hp
  have hl1 := hl 1 _ rfl
  clear hl
  have hp := hp rfl
  simp only [C64, show T.pre 64 = Q64 from rfl, flatS, SP.flat, dvs, List.append_nil, List.cons_append, List.nil_append, Q64, U64, U32, I64, Big, W, wv, s64, WT, PR, MR, MB] at hp
  simp only [t64, C64, Tr.good, Fact.den, LX.den, DX.ls, DV.ls, DX.den, Bx.den, Ex.den, eo_add, eo_sub, eo_mul, eo_quo, eo_rem, eo_fdv, eo_mn, eo_mx, eo_land, eo_lor, eo_lxor, eo_landn, eo_shl, eo_shr, dvs, flatS, SP.flat, ST.flat, List.map_cons, List.map_nil, List.append_nil, List.cons_append, List.nil_append, ltb_t, ltb_f, leb_t, leb_f, eqb_t, eqb_f, decide_eq_true_eq, decide_eq_false_iff_not, Bool.not_eq_true', Bool.not_eq_false', Bool.and_eq_true, Bool.and_eq_false_imp, beq_iff_eq, beq_eq_false_iff_ne, bne_iff_ne, U64, U32, I64, Big, W, wv, Told, s64, WT, PR, MR, MB, Int.zero_mul, Int.zero_add, Int.add_zero, Int.mul_zero, IntKind.wrap_u64, IntKind.wrap_i64, IntKind.wrap_u32, ne_eq, forall_const, true_implies, show T.rel 64 = R64 from rfl, R64, show T.rel 106403 = R106403 from rfl, R106403, show T.mu 106403 = M106403 from rfl, M106403, show T.pre 64 = Q64 from rfl, Q64]
  revert hp hl1
  generalize (E.r 0).c 0 = n
  generalize (E.r 0).l 1 = l
  generalize (E.r 65544).i 0 = x8_0
  generalize (E.r 65544).i 1 = x8_1
  generalize (E.r 65557).i 0 = x21_0
  try simp only [mxI, mnI]
  try simp only [ltb, leb, eqb, Int.lt_irrefl, decide_false, Int.le_refl, decide_true]
  intro hl hp
  have hB : Bg n l := ⟨hp.1, by omega, by omega⟩
  have la := Bg.len hB
  have da := hp.1.d
  have v := bval_abs (n := n) da
  have dn := dval_nonneg da
  have ev : dval l = bval n l := by
    cases n
    · exact (v.2 rfl).symm
    · have := v.1 rfl
      omega
  refine ⟨fun ⟨i0, i1, i2⟩ => ⟨fun c => ?_, fun c => ⟨by omega, fun _ => ⟨by omega, fun _ e => ?_⟩⟩⟩, fun n => n ⟨by omega, by omega, ?_⟩⟩
  · have e0 : (x8_1 + 1).toNat = 0 := by omega
    rw [i2, e0, List.drop_zero, ev]
  · obtain ⟨k, rfl⟩ := Int.eq_ofNat_of_zero_le c
    have ew : ((k : Int) - 1 + 9223372036854775808) % 18446744073709551616 - 9223372036854775808 = (k : Int) - 1 := by omega
    have ek : ((k : Int) + 1).toNat = k + 1 := by omega
    have ek2 : ((k : Int) - 1 + 1).toNat = k := by omega
    simp only [ew, ek, ek2] at *
    have dk := dval_drop l k
    have le := dval_drop_le da (k := k) (by omega)
    have dd := da k
    have dz := dval_nonneg (dig_drop da (k + 1))
    refine ⟨fun n => n ⟨by omega, by omega, ?_⟩, by omega⟩
    rw [e, i2, dk]
    omega
  · have ew : ((l.length : Int) - 1 + 9223372036854775808) % 18446744073709551616 - 9223372036854775808 = (l.length : Int) - 1 := by omega
    rw [ew, show ((l.length : Int) - 1 + 1).toNat = l.length by omega, List.drop_length]
    rfl
end Go.Proofs.YtjemohphaeiaiaaGreatDoor.Fn
namespace Go.Proofs.YtjemohphaeiaiaaGreatDoor.Fn
open Go Go.RowKit Go.Proofs.YtjemohphaeiaiaaGreatDoor.Sy
set_option linter.unusedVariables false
set_option linter.unusedSimpArgs false
set_option maxRecDepth 100000
def t43 : Tr :=
  .br (.f (.is (.lt (.v 0 3) (.n 1)) true) <|
   .ok [.num (.n 0), .num (.n 0), .num (.n 0), .tru (.lt (.n 0) (.n 0))])
  (.f (.is (.lt (.v 0 3) (.n 1)) false) <|
   .br (.f (.is (.lt (.n 1048576) (.v 0 3)) true) <|
    .ok [.num (.n 0), .num (.n 0), .num (.n 0), .tru (.lt (.n 0) (.n 0))])
   (.f (.is (.lt (.n 1048576) (.v 0 3)) false) <|
    .br (.f (.rel 62 [.tru (.v 0 1), .lst 0 2, .num (.wrap .i64 (.v 0 3))] 65548 [.bool, .list [.int .i64], .int .i64]) <|
     .br (.f (.rel 63 [.tru (.v 65548 0), .lst 65548 1] 65556 [.bool]) <|
      .br (.f (.is (.v 65556 0) false) <|
       .ok [.num (.n 0), .num (.n 0), .num (.n 0), .tru (.lt (.n 0) (.n 0))])
      (.f (.is (.v 65556 0) true) <|
       .br (.f (.rel 45 [.num (.v 0 0)] 65559 [.bool, .list [.int .i64]]) <|
        .br (.f (.rel 44 [.tru (.v 65559 0), .lst 65559 1, .tru (.v 65548 0), .lst 65548 1] 65561 [.bool, .list [.int .i64]]) <|
         .br (.f (.rel 56 [.num (.n 64)] 4296671234 [.bool, .list [.int .i64]]) <|
          .br (.f (.rel 106502 [.tru (.v 65561 0), .lst 65561 1] 4296671237 [.bool, .list [.int .i64]]) <|
           .br (.f (.rel 54 [.tru (.v 4296671237 0), .lst 4296671237 1] 4296671239 [.int .i64]) <|
            .br (.f (.is (.lt (.v 4296671239 0) (.n 0)) false) <|
             .br (.f (.rel 106504 [.tru (.v 4296671237 0), .lst 4296671237 1] 4296671241 [.bool, .list [.int .i64]]) <|
              .br (.f (.rel 55 [.tru (.v 4296671241 0), .lst 4296671241 1, .tru (.v 4296671234 0), .lst 4296671234 1] 4296671244 [.int .i64]) <|
               .br (.f (.is (.le (.n 0) (.v 4296671244 0)) false) <|
                .br (.f (.rel 64 [.tru (.v 4296671241 0), .lst 4296671241 1] 65563 [.int .u64]) <|
                 .ok [.num (.v 65563 0), .num (.wrap .u32 (.v 65548 2)), .num (.v 0 3), .tru (.le (.n 0) (.n 0))])
                (.f (.npre 64 [.tru (.v 4296671241 0), .lst 4296671241 1]) <|
                 .bad))
               (.f (.is (.le (.n 0) (.v 4296671244 0)) true) <|
                .br (.f (.npre 75 [.tru (.v 4296671241 0), .lst 4296671241 1, .tru (.v 4296671234 0), .lst 4296671234 1]) <|
                 .bad)
                (.f (.rel 75 [.tru (.v 4296671241 0), .lst 4296671241 1, .tru (.v 4296671234 0), .lst 4296671234 1] 4296671248 [.bool, .list [.int .i64]]) <|
                 .br (.f (.nrel 106504 [.tru (.v 4296671237 0), .lst 4296671237 1] [.tru (.v 4296671248 0), .lst 4296671248 1]) <|
                  .bad)
                 (.f (.ndec 106504 [.tru (.v 4296671237 0), .lst 4296671237 1] [.tru (.v 4296671241 0), .lst 4296671241 1] [.tru (.v 4296671248 0), .lst 4296671248 1]) <|
                  .bad))))
              (.f (.npre 55 [.tru (.v 4296671241 0), .lst 4296671241 1, .tru (.v 4296671234 0), .lst 4296671234 1]) <|
               .bad))
             (.f (.nrel 106504 [.tru (.v 4296671237 0), .lst 4296671237 1] [.tru (.v 4296671237 0), .lst 4296671237 1]) <|
              .bad))
            (.f (.is (.lt (.v 4296671239 0) (.n 0)) true) <|
             .br (.f (.npre 44 [.tru (.v 4296671237 0), .lst 4296671237 1, .tru (.v 4296671234 0), .lst 4296671234 1]) <|
              .bad)
             (.f (.rel 44 [.tru (.v 4296671237 0), .lst 4296671237 1, .tru (.v 4296671234 0), .lst 4296671234 1] 4296671243 [.bool, .list [.int .i64]]) <|
              .br (.f (.nrel 106502 [.tru (.v 65561 0), .lst 65561 1] [.tru (.v 4296671243 0), .lst 4296671243 1]) <|
               .bad)
              (.f (.ndec 106502 [.tru (.v 65561 0), .lst 65561 1] [.tru (.v 4296671237 0), .lst 4296671237 1] [.tru (.v 4296671243 0), .lst 4296671243 1]) <|
               .bad))))
           (.f (.npre 54 [.tru (.v 4296671237 0), .lst 4296671237 1]) <|
            .bad))
          (.f (.nrel 106502 [.tru (.v 65561 0), .lst 65561 1] [.tru (.v 65561 0), .lst 65561 1]) <|
           .bad))
         (.f (.npre 56 [.num (.n 64)]) <|
          .bad))
        (.f (.npre 44 [.tru (.v 65559 0), .lst 65559 1, .tru (.v 65548 0), .lst 65548 1]) <|
         .bad))
       (.f (.npre 45 [.num (.v 0 0)]) <|
        .bad)))
     (.f (.npre 63 [.tru (.v 65548 0), .lst 65548 1]) <|
      .bad))
    (.f (.npre 62 [.tru (.v 0 1), .lst 0 2, .num (.wrap .i64 (.v 0 3))]) <|
     .bad)))
theorem c43 : ConS Tryz.prog T C43 := con_tr (cs := [C44, C45, C54, C55, C56, C62, C63, C64, C75]) (lcs := [L106502, L106504]) (known := []) (cons_cons c44 (cons_cons c45 (cons_cons c54 (cons_cons c55 (cons_cons c56 (cons_cons c62 (cons_cons c63 (cons_cons c64 (cons_cons c75 (cons_nil _ _)))))))))) (Known.nil _) (N := 400) (d := 40) (t := t43) (by kernel_rfl) <| by
  intro E hl hp
  have hl2 := hl 2 _ rfl
  clear hl
  have hp := hp rfl
  simp only [C43, show T.pre 43 = Q43 from rfl, flatS, SP.flat, dvs, List.append_nil, List.cons_append, List.nil_append, Q43, U64, U32, I64, Big, W, wv, s64, WT, PR, MR, MB] at hp
  simp only [t43, C43, Tr.good, Fact.den, LX.den, DX.ls, DV.ls, DX.den, Bx.den, Ex.den, eo_add, eo_sub, eo_mul, eo_quo, eo_rem, eo_fdv, eo_mn, eo_mx, eo_land, eo_lor, eo_lxor, eo_landn, eo_shl, eo_shr, dvs, flatS, SP.flat, ST.flat, List.map_cons, List.map_nil, List.append_nil, List.cons_append, List.nil_append, ltb_t, ltb_f, leb_t, leb_f, eqb_t, eqb_f, decide_eq_true_eq, decide_eq_false_iff_not, Bool.not_eq_true', Bool.not_eq_false', Bool.and_eq_true, Bool.and_eq_false_imp, beq_iff_eq, beq_eq_false_iff_ne, bne_iff_ne, U64, U32, I64, Big, W, wv, Told, s64, WT, PR, MR, MB, Int.zero_mul, Int.zero_add, Int.add_zero, Int.mul_zero, IntKind.wrap_u64, IntKind.wrap_i64, IntKind.wrap_u32, ne_eq, forall_const, true_implies, show T.rel 43 = R43 from rfl, R43, show T.rel 44 = R44 from rfl, R44, show T.rel 45 = R45 from rfl, R45, show T.rel 54 = R54 from rfl, R54, show T.rel 55 = R55 from rfl, R55, show T.rel 56 = R56 from rfl, R56, show T.rel 62 = R62 from rfl, R62, show T.rel 63 = R63 from rfl, R63, show T.rel 64 = R64 from rfl, R64, show T.rel 75 = R75 from rfl, R75, show T.rel 106502 = R106502 from rfl, R106502, show T.rel 106504 = R106504 from rfl, R106504, show T.mu 106502 = M106502 from rfl, M106502, show T.mu 106504 = M106504 from rfl, M106504, show T.pre 43 = Q43 from rfl, Q43, show T.pre 44 = Q44 from rfl, Q44, show T.pre 45 = Q45 from rfl, Q45, show T.pre 54 = Q54 from rfl, Q54, show T.pre 55 = Q55 from rfl, Q55, show T.pre 56 = Q56 from rfl, Q56, show T.pre 62 = Q62 from rfl, Q62, show T.pre 63 = Q63 from rfl, Q63, show T.pre 64 = Q64 from rfl, Q64, show T.pre 75 = Q75 from rfl, Q75]
  revert hp hl2
  generalize (E.r 0).i 0 = base
  generalize (E.r 0).c 1 = dn
  generalize (E.r 0).l 2 = dl
  generalize (E.r 0).i 3 = w
  generalize (E.r 65548).c 0 = x12_0
  generalize (E.r 65548).l 1 = x12_1
  generalize (E.r 65548).i 2 = x12_2
  generalize (E.r 65556).c 0 = x20_0
  generalize (E.r 65559).c 0 = x23_0
  generalize (E.r 65559).l 1 = x23_1
  generalize (E.r 65561).c 0 = x25_0
  generalize (E.r 65561).l 1 = x25_1
  generalize (E.r 65563).i 0 = x27_0
  generalize (E.r 4296671234).c 0 = x4296605698_0
  generalize (E.r 4296671234).l 1 = x4296605698_1
  generalize (E.r 4296671237).c 0 = x4296605701_0
  generalize (E.r 4296671237).l 1 = x4296605701_1
  generalize (E.r 4296671239).i 0 = x4296605703_0
  generalize (E.r 4296671241).c 0 = x4296605705_0
  generalize (E.r 4296671241).l 1 = x4296605705_1
  generalize (E.r 4296671243).c 0 = x4296605707_0
  generalize (E.r 4296671243).l 1 = x4296605707_1
  generalize (E.r 4296671244).i 0 = x4296605708_0
  generalize (E.r 4296671248).c 0 = x4296605712_0
  generalize (E.r 4296671248).l 1 = x4296605712_1
  try simp only [Bg]
  try generalize bval dn dl = dn_v
  try generalize bval x12_0 x12_1 = y12_0
  try generalize bval x23_0 x23_1 = y23_0
  try generalize bval x25_0 x25_1 = y25_0
  try generalize bval x4296605698_0 x4296605698_1 = y4296605698_0
  try generalize bval x4296605701_0 x4296605701_1 = y4296605701_0
  try generalize bval x4296605705_0 x4296605705_1 = y4296605705_0
  try generalize bval x4296605707_0 x4296605707_1 = y4296605707_0
  try generalize bval x4296605712_0 x4296605712_1 = y4296605712_0
  try simp only [mxI, mnI]
  try simp only [ltb, leb, eqb, Int.lt_irrefl, decide_false, Int.le_refl, decide_true]
  intro hl hp
  rw [p2_64]
  have e1 : (w + 9223372036854775808) % 18446744073709551616 - 9223372036854775808 = w := by omega
  simp only [e1]
  have rr : 1 ≤ w → 0 ≤ dn_v % w ∧ dn_v % w < w := fun h => ⟨Int.emod_nonneg _ (by omega), Int.emod_lt_of_pos _ (by omega)⟩
  have qb : 1 ≤ w → -1000000000000000000000000000000000000000000000000000000000000000000000000000000000000000000000000 < dn_v / w ∧ dn_v / w < 1000000000000000000000000000000000000000000000000000000000000000000000000000000000000000000000000 := by
    intro h
    have a : -999999999999999999999999999999999999999999999999999999999999999999999999999999999999999999999999 ≤ dn_v / w := by apply Int.le_ediv_of_mul_le (by omega); omega
    exact ⟨by omega, by apply Int.ediv_lt_of_lt_mul (by omega); omega⟩
  clear e1
  generalize dn_v / w = Q at *
  generalize dn_v % w = R at *
  repeat' (first | assumption | (intro (h : _ ∧ _); obtain ⟨h1, h2⟩ := h; (first | (subst h1; revert h2) | revert h1 h2)) | (intro h; (first | subst h | skip)) | refine And.intro ?_ ?_)
  all_goals try (show False; refine absurd ?_ ‹¬ _›)
  all_goals repeat' (first | assumption | refine And.intro ?_ ?_)
  all_goals first | omega | grind
end Go.Proofs.YtjemohphaeiaiaaGreatDoor.Fn
