/- What is told of the functions, shown: (turnstone/wide.Int).Sub, (turnstone/mean.Mean).Right, turnstone/wide.Of, math/bits.Mul64, turnstone/wide.signed, (turnstone/wide.Int).Mul, (turnstone/vtime.Time).Since, (turnstone/wide.Int).Add, turnstone/wide.OfU, (turnstone/pos.Pos).Distance, turnstone/lag.over, turnstone/lag.Read, turnstone/turnstonelaw04.Of, (turnstone/wide.Int).Cmp, (turnstone/wide.Int).Sign, turnstone/lag.Sign, turnstone/lag.Eligible, turnstone/turnstoneref01.trim. -/
import Derived.Test.YtafhkgicekddlaaGreatDoorFm0
namespace Go.Proofs.YtafhkgicekddlaaGreatDoor.Fn
open Go Go.RowKit Go.Proofs.YtafhkgicekddlaaGreatDoor.Sy
set_option linter.unusedVariables false
set_option linter.unusedSimpArgs false
set_option maxRecDepth 100000
def t16 : Tr :=
  .br (.f (.rel 53 [.num (.v 0 1), .num (.v 0 3), .num (.n 0)] 65544 [.int .u64, .int .u64]) <|
   .br (.f (.rel 53 [.num (.wrap .u64 (.v 0 0)), .num (.wrap .u64 (.v 0 2)), .num (.v 65544 1)] 65557 [.int .u64, .int .u64]) <|
    .br (.f (.is (.beq (.lt (.v 0 0) (.n 0)) (.lt (.v 0 2) (.n 0))) false) <|
     .br (.f (.is (.beq (.lt (.v 0 0) (.n 0)) (.lt (.wrap .i64 (.v 65557 0)) (.n 0))) false) <|
      .ok [.num (.n 0), .num (.n 0), .tru (.lt (.n 0) (.n 0))])
     (.f (.is (.beq (.lt (.v 0 0) (.n 0)) (.lt (.wrap .i64 (.v 65557 0)) (.n 0))) true) <|
      .ok [.num (.wrap .i64 (.v 65557 0)), .num (.v 65544 0), .tru (.le (.n 0) (.n 0))]))
    (.f (.is (.beq (.lt (.v 0 0) (.n 0)) (.lt (.v 0 2) (.n 0))) true) <|
     .ok [.num (.wrap .i64 (.v 65557 0)), .num (.v 65544 0), .tru (.le (.n 0) (.n 0))]))
   (.f (.npre 53 [.num (.wrap .u64 (.v 0 0)), .num (.wrap .u64 (.v 0 2)), .num (.v 65544 1)]) <|
    .bad))
  (.f (.npre 53 [.num (.v 0 1), .num (.v 0 3), .num (.n 0)]) <|
   .bad)
theorem c16 : ConS Tryz.prog T C16 := con_tr (cs := [C53]) (lcs := []) (known := []) (cons_cons c53 (cons_nil _ _)) (Known.nil _) (N := 400) (d := 40) (t := t16) (by kernel_rfl) <| by
  intro E hl hp
  clear hl
  have hp := hp rfl
  simp only [C16, show T.pre 16 = Q16 from rfl, flatS, SP.flat, dvs, List.append_nil, List.cons_append, List.nil_append, Q16, U64, U32, I64, Big, W, wv, s64, WT, PR, MR] at hp
  simp only [t16, C16, Tr.good, Fact.den, LX.den, DX.ls, DV.ls, DX.den, Bx.den, Ex.den, EO.den, dvs, flatS, SP.flat, ST.flat, List.map_cons, List.map_nil, List.append_nil, List.cons_append, List.nil_append, ltb_t, ltb_f, leb_t, leb_f, eqb_t, eqb_f, decide_eq_true_eq, decide_eq_false_iff_not, Bool.not_eq_true', Bool.not_eq_false', Bool.and_eq_true, Bool.and_eq_false_imp, beq_iff_eq, beq_eq_false_iff_ne, bne_iff_ne, U64, U32, I64, Big, W, wv, Told, s64, WT, PR, MR, Int.zero_mul, Int.zero_add, Int.add_zero, Int.mul_zero, IntKind.wrap_u64, IntKind.wrap_i64, IntKind.wrap_u32, ne_eq, forall_const, true_implies, show T.rel 16 = R16 from rfl, R16, show T.rel 53 = R53 from rfl, R53, show T.pre 16 = Q16 from rfl, Q16, show T.pre 53 = Q53 from rfl, Q53]
  revert hp
  generalize (E.r 0).i 0 = ah
  generalize (E.r 0).i 1 = al
  generalize (E.r 0).i 2 = bh
  generalize (E.r 0).i 3 = bl
  generalize (E.r 65544).i 0 = x8_0
  generalize (E.r 65544).i 1 = x8_1
  generalize (E.r 65557).i 0 = x21_0
  generalize (E.r 65557).i 1 = x21_1
  try simp only [ltb, leb, eqb, Int.lt_irrefl, decide_false, Int.le_refl, decide_true]
  repeat' (first | intro _ | refine And.intro ?_ ?_ | refine Iff.intro ?_ ?_)
  all_goals first | omega | (simp_all; done) | (simp_all; omega)
end Go.Proofs.YtafhkgicekddlaaGreatDoor.Fn
namespace Go.Proofs.YtafhkgicekddlaaGreatDoor.Fn
open Go Go.RowKit Go.Proofs.YtafhkgicekddlaaGreatDoor.Sy
set_option linter.unusedVariables false
set_option linter.unusedSimpArgs false
set_option maxRecDepth 100000
def t46 : Tr :=
  .br (.f (.is (.eq (.v 0 4) (.n 0)) true) <|
   .br (.f (.is (.eq (.v 0 3) (.n 0)) true) <|
    .ok [.tru (.and (.eq (.v 0 1) (.n 0)) (.and (.eq (.v 0 2) (.n 0)) (.le (.n 0) (.n 0))))])
   (.f (.is (.eq (.v 0 3) (.n 0)) false) <|
    .ok [.tru (.lt (.n 0) (.n 0))]))
  (.f (.is (.eq (.v 0 4) (.n 0)) false) <|
   .br (.f (.is (.lt (.n 0) (.v 0 4)) true) <|
    .br (.f (.is (.le (.v 0 4) (.n 32)) true) <|
     .br (.f (.is (.le (.wrap .u64 (.v 0 4)) (.v 0 3)) true) <|
      .ok [.tru (.le (.v 0 3) (.wrap .u64 (.bin .mul (.wrap .u64 (.v 0 4)) (.n 1048576))))])
     (.f (.is (.le (.wrap .u64 (.v 0 4)) (.v 0 3)) false) <|
      .ok [.tru (.lt (.n 0) (.n 0))]))
    (.f (.is (.le (.v 0 4) (.n 32)) false) <|
     .ok [.tru (.lt (.n 0) (.n 0))]))
   (.f (.is (.lt (.n 0) (.v 0 4)) false) <|
    .ok [.tru (.lt (.n 0) (.n 0))]))
theorem c46 : ConS Tryz.prog T C46 := con_tr (cs := []) (lcs := []) (known := []) (cons_nil _ _) (Known.nil _) (N := 400) (d := 40) (t := t46) (by kernel_rfl) <| by
  intro E hl hp
  clear hl
  have hp := hp rfl
  simp only [C46, show T.pre 46 = Q46 from rfl, flatS, SP.flat, dvs, List.append_nil, List.cons_append, List.nil_append, Q46, U64, U32, I64, Big, W, wv, s64, WT, PR, MR] at hp
  simp only [t46, C46, Tr.good, Fact.den, LX.den, DX.ls, DV.ls, DX.den, Bx.den, Ex.den, EO.den, dvs, flatS, SP.flat, ST.flat, List.map_cons, List.map_nil, List.append_nil, List.cons_append, List.nil_append, ltb_t, ltb_f, leb_t, leb_f, eqb_t, eqb_f, decide_eq_true_eq, decide_eq_false_iff_not, Bool.not_eq_true', Bool.not_eq_false', Bool.and_eq_true, Bool.and_eq_false_imp, beq_iff_eq, beq_eq_false_iff_ne, bne_iff_ne, U64, U32, I64, Big, W, wv, Told, s64, WT, PR, MR, Int.zero_mul, Int.zero_add, Int.add_zero, Int.mul_zero, IntKind.wrap_u64, IntKind.wrap_i64, IntKind.wrap_u32, ne_eq, forall_const, true_implies, show T.rel 46 = R46 from rfl, R46, show T.pre 46 = Q46 from rfl, Q46]
  revert hp
  generalize (E.r 0).i 0 = b
  generalize (E.r 0).i 1 = h
  generalize (E.r 0).i 2 = l
  generalize (E.r 0).i 3 = w
  generalize (E.r 0).i 4 = n
  try simp only [ltb, leb, eqb, Int.lt_irrefl, decide_false, Int.le_refl, decide_true]
  repeat' (first | intro _ | refine And.intro ?_ ?_ | refine Iff.intro ?_ ?_)
  all_goals first | omega | (simp_all; done) | (simp_all; omega)
end Go.Proofs.YtafhkgicekddlaaGreatDoor.Fn
namespace Go.Proofs.YtafhkgicekddlaaGreatDoor.Fn
open Go Go.RowKit Go.Proofs.YtafhkgicekddlaaGreatDoor.Sy
set_option linter.unusedVariables false
set_option linter.unusedSimpArgs false
set_option maxRecDepth 100000
def t54 : Tr :=
  .br (.f (.is (.lt (.v 0 0) (.n 0)) true) <|
   .ok [.num (.n (-1)), .num (.wrap .u64 (.v 0 0))])
  (.f (.is (.lt (.v 0 0) (.n 0)) false) <|
   .ok [.num (.n 0), .num (.wrap .u64 (.v 0 0))])
theorem c54 : ConS Tryz.prog T C54 := con_tr (cs := []) (lcs := []) (known := []) (cons_nil _ _) (Known.nil _) (N := 400) (d := 40) (t := t54) (by kernel_rfl) <| by
  intro E hl hp
  clear hl
  have hp := hp rfl
  simp only [C54, show T.pre 54 = Q54 from rfl, flatS, SP.flat, dvs, List.append_nil, List.cons_append, List.nil_append, Q54, U64, U32, I64, Big, W, wv, s64, WT, PR, MR] at hp
  simp only [t54, C54, Tr.good, Fact.den, LX.den, DX.ls, DV.ls, DX.den, Bx.den, Ex.den, EO.den, dvs, flatS, SP.flat, ST.flat, List.map_cons, List.map_nil, List.append_nil, List.cons_append, List.nil_append, ltb_t, ltb_f, leb_t, leb_f, eqb_t, eqb_f, decide_eq_true_eq, decide_eq_false_iff_not, Bool.not_eq_true', Bool.not_eq_false', Bool.and_eq_true, Bool.and_eq_false_imp, beq_iff_eq, beq_eq_false_iff_ne, bne_iff_ne, U64, U32, I64, Big, W, wv, Told, s64, WT, PR, MR, Int.zero_mul, Int.zero_add, Int.add_zero, Int.mul_zero, IntKind.wrap_u64, IntKind.wrap_i64, IntKind.wrap_u32, ne_eq, forall_const, true_implies, show T.rel 54 = R54 from rfl, R54, show T.pre 54 = Q54 from rfl, Q54]
  revert hp
  generalize (E.r 0).i 0 = x
  try simp only [ltb, leb, eqb, Int.lt_irrefl, decide_false, Int.le_refl, decide_true]
  repeat' (first | intro _ | refine And.intro ?_ ?_ | refine Iff.intro ?_ ?_)
  all_goals first | omega | (simp_all; done) | (simp_all; omega)
end Go.Proofs.YtafhkgicekddlaaGreatDoor.Fn
namespace Go.Proofs.YtafhkgicekddlaaGreatDoor.Fn
open Go Go.RowKit Go.Proofs.YtafhkgicekddlaaGreatDoor.Sy
set_option linter.unusedVariables false
set_option linter.unusedSimpArgs false
set_option maxRecDepth 100000
def t80 : Tr :=
  .f (.is (.eq (.v 65554 0) (.wrap .u64 (.bin .mul (.bin (.land .u64) (.v 0 0) (.n 4294967295)) (.bin (.land .u64) (.v 0 1) (.n 4294967295))))) true) <|
   .f (.is (.eq (.v 65562 0) (.wrap .u64 (.bin .mul (.bin .fdv (.v 0 0) (.n 4294967296)) (.bin (.land .u64) (.v 0 1) (.n 4294967295))))) true) <|
    .f (.is (.eq (.v 65566 0) (.bin (.land .u64) (.wrap .u64 (.bin .add (.v 65562 0) (.bin .fdv (.v 65554 0) (.n 4294967296)))) (.n 4294967295))) true) <|
     .f (.is (.eq (.v 65570 0) (.bin .fdv (.wrap .u64 (.bin .add (.v 65562 0) (.bin .fdv (.v 65554 0) (.n 4294967296)))) (.n 4294967296))) true) <|
      .f (.is (.eq (.v 65577 0) (.wrap .u64 (.bin .mul (.bin (.land .u64) (.v 0 0) (.n 4294967295)) (.bin .fdv (.v 0 1) (.n 4294967296))))) true) <|
       .f (.is (.eq (.v 65587 0) (.wrap .u64 (.bin .mul (.bin .fdv (.v 0 0) (.n 4294967296)) (.bin .fdv (.v 0 1) (.n 4294967296))))) true) <|
        .f (.is (.eq (.v 65588 0) (.wrap .u64 (.bin .add (.wrap .u64 (.bin .add (.v 65587 0) (.v 65570 0))) (.bin .fdv (.wrap .u64 (.bin .add (.v 65566 0) (.v 65577 0))) (.n 4294967296))))) true) <|
         .ok [.num (.v 65588 0), .num (.wrap .u64 (.bin .mul (.v 0 0) (.v 0 1)))]
theorem c80 : ConS Tryz.prog T C80 := con_tr (cs := []) (lcs := []) (known := []) (cons_nil _ _) (Known.nil _) (N := 400) (d := 40) (t := t80) (by kernel_rfl) <| by
  intro E hl hp
  clear hl
  have hp := hp rfl
  simp only [C80, show T.pre 80 = Q80 from rfl, flatS, SP.flat, dvs, List.append_nil, List.cons_append, List.nil_append, Q80, U64, U32, I64, Big, W, wv, s64, WT, PR, MR] at hp
  simp only [t80, C80, Tr.good, Fact.den, LX.den, DX.ls, DV.ls, DX.den, Bx.den, Ex.den, EO.den, dvs, flatS, SP.flat, ST.flat, List.map_cons, List.map_nil, List.append_nil, List.cons_append, List.nil_append, ltb_t, ltb_f, leb_t, leb_f, eqb_t, eqb_f, decide_eq_true_eq, decide_eq_false_iff_not, Bool.not_eq_true', Bool.not_eq_false', Bool.and_eq_true, Bool.and_eq_false_imp, beq_iff_eq, beq_eq_false_iff_ne, bne_iff_ne, U64, U32, I64, Big, W, wv, Told, s64, WT, PR, MR, Int.zero_mul, Int.zero_add, Int.add_zero, Int.mul_zero, IntKind.wrap_u64, IntKind.wrap_i64, IntKind.wrap_u32, ne_eq, forall_const, true_implies, show T.rel 80 = R80 from rfl, R80, show T.pre 80 = Q80 from rfl, Q80]
  revert hp
  generalize (E.r 0).i 0 = x
  generalize (E.r 0).i 1 = y
  generalize (E.r 65554).i 0 = x18_0
  generalize (E.r 65562).i 0 = x26_0
  generalize (E.r 65566).i 0 = x30_0
  generalize (E.r 65570).i 0 = x34_0
  generalize (E.r 65577).i 0 = x41_0
  generalize (E.r 65587).i 0 = x51_0
  generalize (E.r 65588).i 0 = x52_0
  try simp only [ltb, leb, eqb, Int.lt_irrefl, decide_false, Int.le_refl, decide_true]
  intro hp e18 e26 e30 e34 e41 e51 e52
  obtain ⟨⟨x0, x1⟩, ⟨y0, y1⟩⟩ := hp
  rw [land_mask x0 x1, land_mask y0 y1] at e18
  rw [land_mask y0 y1, fdv (by omega)] at e26
  rw [land_mask x0 x1, fdv (by omega)] at e41
  rw [fdv (by omega), fdv (by omega)] at e51
  simp only [fdv (show (0 : Int) ≤ 4294967296 by omega)] at e30 e34 e52
  have p00 := mul_below (a := x % 4294967296) (b := y % 4294967296) (c := 4294967295) (d := 4294967295) (by omega) (by omega) (by omega) (by omega)
  have p10 := mul_below (a := x / 4294967296) (b := y % 4294967296) (c := 4294967295) (d := 4294967295) (by omega) (by omega) (by omega) (by omega)
  have p01 := mul_below (a := x % 4294967296) (b := y / 4294967296) (c := 4294967295) (d := 4294967295) (by omega) (by omega) (by omega) (by omega)
  have p11 := mul_below (a := x / 4294967296) (b := y / 4294967296) (c := 4294967295) (d := 4294967295) (by omega) (by omega) (by omega) (by omega)
  have e : x * y = (x / 4294967296) * (y / 4294967296) * 18446744073709551616 + ((x / 4294967296) * (y % 4294967296) + (x % 4294967296) * (y / 4294967296)) * 4294967296 + (x % 4294967296) * (y % 4294967296) := by
    have hx : x = x / 4294967296 * 4294967296 + x % 4294967296 := by omega
    have hy : y = y / 4294967296 * 4294967296 + y % 4294967296 := by omega
    generalize x / 4294967296 = a at *
    generalize x % 4294967296 = b at *
    generalize y / 4294967296 = c at *
    generalize y % 4294967296 = d at *
    subst hx hy
    grind
  generalize (x / 4294967296) * (y / 4294967296) = q11 at *
  generalize (x / 4294967296) * (y % 4294967296) = q10 at *
  generalize (x % 4294967296) * (y / 4294967296) = q01 at *
  generalize (x % 4294967296) * (y % 4294967296) = q00 at *
  generalize x * y = z at *
  rw [land_mask (by omega) (by omega)] at e30
  omega
end Go.Proofs.YtafhkgicekddlaaGreatDoor.Fn
namespace Go.Proofs.YtafhkgicekddlaaGreatDoor.Fn
open Go Go.RowKit Go.Proofs.YtafhkgicekddlaaGreatDoor.Sy
set_option linter.unusedVariables false
set_option linter.unusedSimpArgs false
set_option maxRecDepth 100000
def t82 : Tr :=
  .br (.f (.is (.v 0 2) true) <|
   .br (.f (.is (.lt (.v 0 0) (.n 9223372036854775808)) true) <|
    .br (.f (.rel 84 [.num (.wrap .i64 (.v 0 0)), .num (.v 0 1)] 65559 [.int .i64, .int .u64]) <|
     .ok [.num (.v 65559 0), .num (.v 65559 1), .tru (.le (.n 0) (.n 0))])
    (.f (.npre 84 [.num (.wrap .i64 (.v 0 0)), .num (.v 0 1)]) <|
     .bad))
   (.f (.is (.lt (.v 0 0) (.n 9223372036854775808)) false) <|
    .br (.f (.is (.eq (.v 0 0) (.n 9223372036854775808)) true) <|
     .br (.f (.is (.eq (.v 0 1) (.n 0)) true) <|
      .br (.f (.rel 84 [.num (.wrap .i64 (.v 0 0)), .num (.v 0 1)] 65559 [.int .i64, .int .u64]) <|
       .ok [.num (.v 65559 0), .num (.v 65559 1), .tru (.le (.n 0) (.n 0))])
      (.f (.npre 84 [.num (.wrap .i64 (.v 0 0)), .num (.v 0 1)]) <|
       .bad))
     (.f (.is (.eq (.v 0 1) (.n 0)) false) <|
      .ok [.num (.n 0), .num (.n 0), .tru (.lt (.n 0) (.n 0))]))
    (.f (.is (.eq (.v 0 0) (.n 9223372036854775808)) false) <|
     .ok [.num (.n 0), .num (.n 0), .tru (.lt (.n 0) (.n 0))])))
  (.f (.is (.v 0 2) false) <|
   .br (.f (.is (.lt (.v 0 0) (.n 9223372036854775808)) true) <|
    .ok [.num (.wrap .i64 (.v 0 0)), .num (.v 0 1), .tru (.le (.n 0) (.n 0))])
   (.f (.is (.lt (.v 0 0) (.n 9223372036854775808)) false) <|
    .ok [.num (.n 0), .num (.n 0), .tru (.lt (.n 0) (.n 0))]))
theorem c82 : ConS Tryz.prog T C82 := con_tr (cs := [C84]) (lcs := []) (known := []) (cons_cons c84 (cons_nil _ _)) (Known.nil _) (N := 400) (d := 40) (t := t82) (by kernel_rfl) <| by
  intro E hl hp
  clear hl
  have hp := hp rfl
  simp only [C82, show T.pre 82 = Q82 from rfl, flatS, SP.flat, dvs, List.append_nil, List.cons_append, List.nil_append, Q82, U64, U32, I64, Big, W, wv, s64, WT, PR, MR] at hp
  simp only [t82, C82, Tr.good, Fact.den, LX.den, DX.ls, DV.ls, DX.den, Bx.den, Ex.den, EO.den, dvs, flatS, SP.flat, ST.flat, List.map_cons, List.map_nil, List.append_nil, List.cons_append, List.nil_append, ltb_t, ltb_f, leb_t, leb_f, eqb_t, eqb_f, decide_eq_true_eq, decide_eq_false_iff_not, Bool.not_eq_true', Bool.not_eq_false', Bool.and_eq_true, Bool.and_eq_false_imp, beq_iff_eq, beq_eq_false_iff_ne, bne_iff_ne, U64, U32, I64, Big, W, wv, Told, s64, WT, PR, MR, Int.zero_mul, Int.zero_add, Int.add_zero, Int.mul_zero, IntKind.wrap_u64, IntKind.wrap_i64, IntKind.wrap_u32, ne_eq, forall_const, true_implies, show T.rel 82 = R82 from rfl, R82, show T.rel 84 = R84 from rfl, R84, show T.pre 82 = Q82 from rfl, Q82, show T.pre 84 = Q84 from rfl, Q84]
  revert hp
  generalize (E.r 0).i 0 = hi
  generalize (E.r 0).i 1 = lo
  generalize (E.r 0).c 2 = below
  generalize (E.r 65559).i 0 = x23_0
  generalize (E.r 65559).i 1 = x23_1
  try simp only [ltb, leb, eqb, Int.lt_irrefl, decide_false, Int.le_refl, decide_true]
  repeat' (first | intro _ | refine And.intro ?_ ?_ | refine Iff.intro ?_ ?_)
  all_goals first | omega | (simp_all; done) | (simp_all; omega)
end Go.Proofs.YtafhkgicekddlaaGreatDoor.Fn
namespace Go.Proofs.YtafhkgicekddlaaGreatDoor.Fn
open Go Go.RowKit Go.Proofs.YtafhkgicekddlaaGreatDoor.Sy
set_option linter.unusedVariables false
set_option linter.unusedSimpArgs false
set_option maxRecDepth 100000
def t47 : Tr :=
  .br (.f (.rel 79 [.num (.v 0 0), .num (.v 0 1)] 65540 [.int .u64, .int .u64]) <|
   .br (.f (.rel 54 [.num (.v 0 2)] 65547 [.int .i64, .int .u64]) <|
    .br (.f (.rel 79 [.num (.v 65547 0), .num (.v 65547 1)] 65548 [.int .u64, .int .u64]) <|
     .br (.f (.rel 80 [.num (.v 65540 0), .num (.v 65548 1)] 65556 [.int .u64, .int .u64]) <|
      .br (.f (.rel 80 [.num (.v 65540 1), .num (.v 65548 1)] 65564 [.int .u64, .int .u64]) <|
       .br (.f (.rel 81 [.num (.v 65556 1), .num (.v 65564 0), .num (.n 0)] 65572 [.int .u64, .int .u64]) <|
        .br (.f (.is (.eq (.v 65556 0) (.n 0)) false) <|
         .ok [.num (.n 0), .num (.n 0), .tru (.lt (.n 0) (.n 0))])
        (.f (.is (.eq (.v 65556 0) (.n 0)) true) <|
         .br (.f (.is (.eq (.v 65572 1) (.n 0)) false) <|
          .ok [.num (.n 0), .num (.n 0), .tru (.lt (.n 0) (.n 0))])
         (.f (.is (.eq (.v 65572 1) (.n 0)) true) <|
          .br (.f (.rel 82 [.num (.v 65572 0), .num (.v 65564 1), .tru (.not (.beq (.lt (.v 0 0) (.n 0)) (.lt (.v 0 2) (.n 0))))] 65592 [.int .i64, .int .u64, .bool]) <|
           .ok [.num (.v 65592 0), .num (.v 65592 1), .tru (.v 65592 2)])
          (.f (.npre 82 [.num (.v 65572 0), .num (.v 65564 1), .tru (.not (.beq (.lt (.v 0 0) (.n 0)) (.lt (.v 0 2) (.n 0))))]) <|
           .bad))))
       (.f (.npre 81 [.num (.v 65556 1), .num (.v 65564 0), .num (.n 0)]) <|
        .bad))
      (.f (.npre 80 [.num (.v 65540 1), .num (.v 65548 1)]) <|
       .bad))
     (.f (.npre 80 [.num (.v 65540 0), .num (.v 65548 1)]) <|
      .bad))
    (.f (.npre 79 [.num (.v 65547 0), .num (.v 65547 1)]) <|
     .bad))
   (.f (.npre 54 [.num (.v 0 2)]) <|
    .bad))
  (.f (.npre 79 [.num (.v 0 0), .num (.v 0 1)]) <|
   .bad)
theorem c47 : ConS Tryz.prog T C47 := con_tr (cs := [C54, C79, C80, C81, C82]) (lcs := []) (known := []) (cons_cons c54 (cons_cons c79 (cons_cons c80 (cons_cons c81 (cons_cons c82 (cons_nil _ _)))))) (Known.nil _) (N := 400) (d := 40) (t := t47) (by kernel_rfl) <| by
  intro E hl hp
  clear hl
  have hp := hp rfl
  simp only [C47, show T.pre 47 = Q47 from rfl, flatS, SP.flat, dvs, List.append_nil, List.cons_append, List.nil_append, Q47, U64, U32, I64, Big, W, wv, s64, WT, PR, MR] at hp
  simp only [t47, C47, Tr.good, Fact.den, LX.den, DX.ls, DV.ls, DX.den, Bx.den, Ex.den, EO.den, dvs, flatS, SP.flat, ST.flat, List.map_cons, List.map_nil, List.append_nil, List.cons_append, List.nil_append, ltb_t, ltb_f, leb_t, leb_f, eqb_t, eqb_f, decide_eq_true_eq, decide_eq_false_iff_not, Bool.not_eq_true', Bool.not_eq_false', Bool.and_eq_true, Bool.and_eq_false_imp, beq_iff_eq, beq_eq_false_iff_ne, bne_iff_ne, U64, U32, I64, Big, W, wv, Told, s64, WT, PR, MR, Int.zero_mul, Int.zero_add, Int.add_zero, Int.mul_zero, IntKind.wrap_u64, IntKind.wrap_i64, IntKind.wrap_u32, ne_eq, forall_const, true_implies, show T.rel 47 = R47 from rfl, R47, show T.rel 54 = R54 from rfl, R54, show T.rel 79 = R79 from rfl, R79, show T.rel 80 = R80 from rfl, R80, show T.rel 81 = R81 from rfl, R81, show T.rel 82 = R82 from rfl, R82, show T.pre 47 = Q47 from rfl, Q47, show T.pre 54 = Q54 from rfl, Q54, show T.pre 79 = Q79 from rfl, Q79, show T.pre 80 = Q80 from rfl, Q80, show T.pre 81 = Q81 from rfl, Q81, show T.pre 82 = Q82 from rfl, Q82]
  revert hp
  generalize (E.r 0).i 0 = h
  generalize (E.r 0).i 1 = l
  generalize (E.r 0).i 2 = b
  generalize (E.r 65540).i 0 = x4_0
  generalize (E.r 65540).i 1 = x4_1
  generalize (E.r 65547).i 0 = x11_0
  generalize (E.r 65547).i 1 = x11_1
  generalize (E.r 65548).i 0 = x12_0
  generalize (E.r 65548).i 1 = x12_1
  generalize (E.r 65556).i 0 = x20_0
  generalize (E.r 65556).i 1 = x20_1
  generalize (E.r 65564).i 0 = x28_0
  generalize (E.r 65564).i 1 = x28_1
  generalize (E.r 65572).i 0 = x36_0
  generalize (E.r 65572).i 1 = x36_1
  generalize (E.r 65592).i 0 = x56_0
  generalize (E.r 65592).i 1 = x56_1
  generalize (E.r 65592).c 2 = x56_2
  try simp only [ltb, leb, eqb, Int.lt_irrefl, decide_false, Int.le_refl, decide_true]
  intro hp
  refine ⟨fun f1 => ⟨fun f2 => ⟨fun f3 => ⟨fun f4 => ⟨fun f5 => ⟨fun f6 => ?_, ?_⟩, ?_⟩, ?_⟩, ?_⟩, ?_⟩, ?_⟩
  · have n0 : x12_0 = 0 := by omega
    have hs := mul_sign (v := h * 18446744073709551616 + l) (b := b) (m0 := x4_0) (m1 := x4_1) (n := x12_1) (by omega) (by omega) (by omega) (by omega)
    generalize (h * 18446744073709551616 + l) * b = z at *
    generalize x4_0 * x12_1 = H at *
    generalize x4_1 * x12_1 = L at *
    by_cases s1 : h < 0 <;> by_cases s2 : b < 0 <;> simp only [s1, s2, decide_true, decide_false, not_true_eq_false, false_imp_iff, true_imp_iff, true_and, and_true, not_false_eq_true, reduceCtorEq]
    all_goals cases x56_2 <;> simp only [false_imp_iff, true_imp_iff, true_and, and_true, reduceCtorEq] <;> omega
  all_goals try simp only [true_and]
  all_goals omega
end Go.Proofs.YtafhkgicekddlaaGreatDoor.Fn
namespace Go.Proofs.YtafhkgicekddlaaGreatDoor.Fn
open Go Go.RowKit Go.Proofs.YtafhkgicekddlaaGreatDoor.Sy
set_option linter.unusedVariables false
set_option linter.unusedSimpArgs false
set_option maxRecDepth 100000
def t10 : Tr :=
  .ok [.num (.wrap .i64 (.wrap .u64 (.bin .sub (.v 0 0) (.v 0 1))))]
theorem c10 : ConS Tryz.prog T C10 := con_tr (cs := []) (lcs := []) (known := []) (cons_nil _ _) (Known.nil _) (N := 400) (d := 40) (t := t10) (by kernel_rfl) <| by
  intro E hl hp
  clear hl
  clear hp
  simp only [t10, C10, Tr.good, Fact.den, LX.den, DX.ls, DV.ls, DX.den, Bx.den, Ex.den, EO.den, dvs, flatS, SP.flat, ST.flat, List.map_cons, List.map_nil, List.append_nil, List.cons_append, List.nil_append, ltb_t, ltb_f, leb_t, leb_f, eqb_t, eqb_f, decide_eq_true_eq, decide_eq_false_iff_not, Bool.not_eq_true', Bool.not_eq_false', Bool.and_eq_true, Bool.and_eq_false_imp, beq_iff_eq, beq_eq_false_iff_ne, bne_iff_ne, U64, U32, I64, Big, W, wv, Told, s64, WT, PR, MR, Int.zero_mul, Int.zero_add, Int.add_zero, Int.mul_zero, IntKind.wrap_u64, IntKind.wrap_i64, IntKind.wrap_u32, ne_eq, forall_const, true_implies, show T.rel 10 = R10 from rfl, R10]
  generalize (E.r 0).i 0 = t
  generalize (E.r 0).i 1 = u
  try simp only [ltb, leb, eqb, Int.lt_irrefl, decide_false, Int.le_refl, decide_true]
  repeat' (first | intro _ | refine And.intro ?_ ?_ | refine Iff.intro ?_ ?_)
  all_goals first | omega | (simp_all; done) | (simp_all; omega)
end Go.Proofs.YtafhkgicekddlaaGreatDoor.Fn
namespace Go.Proofs.YtafhkgicekddlaaGreatDoor.Fn
open Go Go.RowKit Go.Proofs.YtafhkgicekddlaaGreatDoor.Sy
set_option linter.unusedVariables false
set_option linter.unusedSimpArgs false
set_option maxRecDepth 100000
def t50 : Tr :=
  .br (.f (.rel 81 [.num (.v 0 1), .num (.v 0 3), .num (.n 0)] 65544 [.int .u64, .int .u64]) <|
   .br (.f (.rel 81 [.num (.wrap .u64 (.v 0 0)), .num (.wrap .u64 (.v 0 2)), .num (.v 65544 1)] 65557 [.int .u64, .int .u64]) <|
    .br (.f (.is (.beq (.lt (.v 0 0) (.n 0)) (.lt (.v 0 2) (.n 0))) true) <|
     .br (.f (.is (.beq (.lt (.v 0 0) (.n 0)) (.lt (.wrap .i64 (.v 65557 0)) (.n 0))) false) <|
      .ok [.num (.n 0), .num (.n 0), .tru (.lt (.n 0) (.n 0))])
     (.f (.is (.beq (.lt (.v 0 0) (.n 0)) (.lt (.wrap .i64 (.v 65557 0)) (.n 0))) true) <|
      .ok [.num (.wrap .i64 (.v 65557 0)), .num (.v 65544 0), .tru (.le (.n 0) (.n 0))]))
    (.f (.is (.beq (.lt (.v 0 0) (.n 0)) (.lt (.v 0 2) (.n 0))) false) <|
     .ok [.num (.wrap .i64 (.v 65557 0)), .num (.v 65544 0), .tru (.le (.n 0) (.n 0))]))
   (.f (.npre 81 [.num (.wrap .u64 (.v 0 0)), .num (.wrap .u64 (.v 0 2)), .num (.v 65544 1)]) <|
    .bad))
  (.f (.npre 81 [.num (.v 0 1), .num (.v 0 3), .num (.n 0)]) <|
   .bad)
theorem c50 : ConS Tryz.prog T C50 := con_tr (cs := [C81]) (lcs := []) (known := []) (cons_cons c81 (cons_nil _ _)) (Known.nil _) (N := 400) (d := 40) (t := t50) (by kernel_rfl) <| by
  intro E hl hp
  clear hl
  have hp := hp rfl
  simp only [C50, show T.pre 50 = Q50 from rfl, flatS, SP.flat, dvs, List.append_nil, List.cons_append, List.nil_append, Q50, U64, U32, I64, Big, W, wv, s64, WT, PR, MR] at hp
  simp only [t50, C50, Tr.good, Fact.den, LX.den, DX.ls, DV.ls, DX.den, Bx.den, Ex.den, EO.den, dvs, flatS, SP.flat, ST.flat, List.map_cons, List.map_nil, List.append_nil, List.cons_append, List.nil_append, ltb_t, ltb_f, leb_t, leb_f, eqb_t, eqb_f, decide_eq_true_eq, decide_eq_false_iff_not, Bool.not_eq_true', Bool.not_eq_false', Bool.and_eq_true, Bool.and_eq_false_imp, beq_iff_eq, beq_eq_false_iff_ne, bne_iff_ne, U64, U32, I64, Big, W, wv, Told, s64, WT, PR, MR, Int.zero_mul, Int.zero_add, Int.add_zero, Int.mul_zero, IntKind.wrap_u64, IntKind.wrap_i64, IntKind.wrap_u32, ne_eq, forall_const, true_implies, show T.rel 50 = R50 from rfl, R50, show T.rel 81 = R81 from rfl, R81, show T.pre 50 = Q50 from rfl, Q50, show T.pre 81 = Q81 from rfl, Q81]
  revert hp
  generalize (E.r 0).i 0 = ah
  generalize (E.r 0).i 1 = al
  generalize (E.r 0).i 2 = bh
  generalize (E.r 0).i 3 = bl
  generalize (E.r 65544).i 0 = x8_0
  generalize (E.r 65544).i 1 = x8_1
  generalize (E.r 65557).i 0 = x21_0
  generalize (E.r 65557).i 1 = x21_1
  try simp only [ltb, leb, eqb, Int.lt_irrefl, decide_false, Int.le_refl, decide_true]
  repeat' (first | intro _ | refine And.intro ?_ ?_ | refine Iff.intro ?_ ?_)
  all_goals first | omega | (simp_all; done) | (simp_all; omega)
end Go.Proofs.YtafhkgicekddlaaGreatDoor.Fn
namespace Go.Proofs.YtafhkgicekddlaaGreatDoor.Fn
open Go Go.RowKit Go.Proofs.YtafhkgicekddlaaGreatDoor.Sy
set_option linter.unusedVariables false
set_option linter.unusedSimpArgs false
set_option maxRecDepth 100000
def t85 : Tr :=
  .ok [.num (.n 0), .num (.v 0 0)]
theorem c85 : ConS Tryz.prog T C85 := con_tr (cs := []) (lcs := []) (known := []) (cons_nil _ _) (Known.nil _) (N := 400) (d := 40) (t := t85) (by kernel_rfl) <| by
  intro E hl hp
  clear hl
  clear hp
  simp only [t85, C85, Tr.good, Fact.den, LX.den, DX.ls, DV.ls, DX.den, Bx.den, Ex.den, EO.den, dvs, flatS, SP.flat, ST.flat, List.map_cons, List.map_nil, List.append_nil, List.cons_append, List.nil_append, ltb_t, ltb_f, leb_t, leb_f, eqb_t, eqb_f, decide_eq_true_eq, decide_eq_false_iff_not, Bool.not_eq_true', Bool.not_eq_false', Bool.and_eq_true, Bool.and_eq_false_imp, beq_iff_eq, beq_eq_false_iff_ne, bne_iff_ne, U64, U32, I64, Big, W, wv, Told, s64, WT, PR, MR, Int.zero_mul, Int.zero_add, Int.add_zero, Int.mul_zero, IntKind.wrap_u64, IntKind.wrap_i64, IntKind.wrap_u32, ne_eq, forall_const, true_implies, show T.rel 85 = R85 from rfl, R85]
  generalize (E.r 0).i 0 = x
  try simp only [ltb, leb, eqb, Int.lt_irrefl, decide_false, Int.le_refl, decide_true]
  repeat' (first | intro _ | refine And.intro ?_ ?_ | refine Iff.intro ?_ ?_)
  all_goals first | omega | (simp_all; done) | (simp_all; omega)
end Go.Proofs.YtafhkgicekddlaaGreatDoor.Fn
namespace Go.Proofs.YtafhkgicekddlaaGreatDoor.Fn
open Go Go.RowKit Go.Proofs.YtafhkgicekddlaaGreatDoor.Sy
set_option linter.unusedVariables false
set_option linter.unusedSimpArgs false
set_option maxRecDepth 100000
def t49 : Tr :=
  .f (.rel 85 [.num (.wrap .u64 (.v 0 2))] 65541 [.int .i64, .int .u64]) <|
   .f (.rel 10 [.num (.v 0 0), .num (.v 0 3)] 65545 [.int .i64]) <|
    .br (.f (.rel 47 [.num (.v 65541 0), .num (.v 65541 1), .num (.v 65545 0)] 65546 [.int .i64, .int .u64, .bool]) <|
     .f (.rel 85 [.num (.wrap .u64 (.v 0 1))] 65557 [.int .i64, .int .u64]) <|
      .br (.f (.rel 50 [.num (.v 65546 0), .num (.v 65546 1), .num (.v 65557 0), .num (.v 65557 1)] 65558 [.int .i64, .int .u64, .bool]) <|
       .ok [.num (.v 65558 0), .num (.v 65558 1)])
      (.f (.npre 50 [.num (.v 65546 0), .num (.v 65546 1), .num (.v 65557 0), .num (.v 65557 1)]) <|
       .bad))
    (.f (.npre 47 [.num (.v 65541 0), .num (.v 65541 1), .num (.v 65545 0)]) <|
     .bad)
theorem c49 : ConS Tryz.prog T C49 := con_tr (cs := [C10, C47, C50, C85]) (lcs := []) (known := []) (cons_cons c10 (cons_cons c47 (cons_cons c50 (cons_cons c85 (cons_nil _ _))))) (Known.nil _) (N := 400) (d := 40) (t := t49) (by kernel_rfl) <| by
  intro E hl hp
  clear hl
  have hp := hp rfl
  simp only [C49, show T.pre 49 = Q49 from rfl, flatS, SP.flat, dvs, List.append_nil, List.cons_append, List.nil_append, Q49, U64, U32, I64, Big, W, wv, s64, WT, PR, MR] at hp
  simp only [t49, C49, Tr.good, Fact.den, LX.den, DX.ls, DV.ls, DX.den, Bx.den, Ex.den, EO.den, dvs, flatS, SP.flat, ST.flat, List.map_cons, List.map_nil, List.append_nil, List.cons_append, List.nil_append, ltb_t, ltb_f, leb_t, leb_f, eqb_t, eqb_f, decide_eq_true_eq, decide_eq_false_iff_not, Bool.not_eq_true', Bool.not_eq_false', Bool.and_eq_true, Bool.and_eq_false_imp, beq_iff_eq, beq_eq_false_iff_ne, bne_iff_ne, U64, U32, I64, Big, W, wv, Told, s64, WT, PR, MR, Int.zero_mul, Int.zero_add, Int.add_zero, Int.mul_zero, IntKind.wrap_u64, IntKind.wrap_i64, IntKind.wrap_u32, ne_eq, forall_const, true_implies, show T.rel 10 = R10 from rfl, R10, show T.rel 47 = R47 from rfl, R47, show T.rel 49 = R49 from rfl, R49, show T.rel 50 = R50 from rfl, R50, show T.rel 85 = R85 from rfl, R85, show T.pre 47 = Q47 from rfl, Q47, show T.pre 49 = Q49 from rfl, Q49, show T.pre 50 = Q50 from rfl, Q50]
  revert hp
  generalize (E.r 0).i 0 = t
  generalize (E.r 0).i 1 = r
  generalize (E.r 0).i 2 = w
  generalize (E.r 0).i 3 = base
  generalize (E.r 65541).i 0 = x5_0
  generalize (E.r 65541).i 1 = x5_1
  generalize (E.r 65545).i 0 = x9_0
  generalize (E.r 65546).i 0 = x10_0
  generalize (E.r 65546).i 1 = x10_1
  generalize (E.r 65546).c 2 = x10_2
  generalize (E.r 65557).i 0 = x21_0
  generalize (E.r 65557).i 1 = x21_1
  generalize (E.r 65558).i 0 = x22_0
  generalize (E.r 65558).i 1 = x22_1
  generalize (E.r 65558).c 2 = x22_2
  try simp only [ltb, leb, eqb, Int.lt_irrefl, decide_false, Int.le_refl, decide_true]
  intro hp
  have e1 : w % 18446744073709551616 = w := by omega
  have e2 : r % 18446744073709551616 = r := by omega
  simp only [e1, e2]
  have s := mul_abs (w := w) (s := (t - base + 9223372036854775808) % 18446744073709551616 - 9223372036854775808) (A := 4294967295) (by omega) (by omega) (by omega) (by omega)
  rintro ⟨rfl, rfl⟩ rfl
  simp only [Int.zero_mul, Int.zero_add]
  cases x10_2 <;> cases x22_2 <;> simp only [reduceCtorEq, false_imp_iff, true_imp_iff, true_and, and_true]
  all_goals generalize hz : x5_1 * ((t - base + 9223372036854775808) % 18446744073709551616 - 9223372036854775808) = z at *
  repeat' (first | intro _ | refine And.intro ?_ ?_ | refine Iff.intro ?_ ?_)
  all_goals first | omega | (simp_all; done) | (simp_all; omega)
end Go.Proofs.YtafhkgicekddlaaGreatDoor.Fn
namespace Go.Proofs.YtafhkgicekddlaaGreatDoor.Fn
open Go Go.RowKit Go.Proofs.YtafhkgicekddlaaGreatDoor.Sy
set_option linter.unusedVariables false
set_option linter.unusedSimpArgs false
set_option maxRecDepth 100000
def t52 : Tr :=
  .br (.f (.rel 46 [.num (.v 0 0), .num (.v 0 1), .num (.v 0 2), .num (.v 0 3), .num (.v 0 4)] 65541 [.bool]) <|
   .br (.f (.is (.v 65541 0) false) <|
    .ok [.num (.n 0), .num (.n 0), .tru (.lt (.n 0) (.n 0))])
   (.f (.is (.v 65541 0) true) <|
    .br (.f (.is (.eq (.v 0 4) (.n 0)) true) <|
     .ok [.num (.n 0), .num (.n 0), .tru (.lt (.n 0) (.n 0))])
    (.f (.is (.eq (.v 0 4) (.n 0)) false) <|
     .f (.rel 11 [.num (.v 0 5), .num (.v 0 6), .num (.v 0 7)] 65550 [.bool]) <|
      .br (.f (.is (.v 65550 0) false) <|
       .ok [.num (.n 0), .num (.n 0), .tru (.lt (.n 0) (.n 0))])
      (.f (.is (.v 65550 0) true) <|
       .br (.f (.rel 47 [.num (.v 0 1), .num (.v 0 2), .num (.wrap .i64 (.v 0 7))] 65558 [.int .i64, .int .u64, .bool]) <|
        .br (.f (.rel 49 [.num (.v 0 5), .num (.v 0 6), .num (.v 0 7), .num (.v 0 0)] 65568 [.int .i64, .int .u64]) <|
         .br (.f (.rel 47 [.num (.v 65568 0), .num (.v 65568 1), .num (.wrap .i64 (.v 0 3))] 65572 [.int .i64, .int .u64, .bool]) <|
          .br (.f (.rel 16 [.num (.v 65558 0), .num (.v 65558 1), .num (.v 65572 0), .num (.v 65572 1)] 65581 [.int .i64, .int .u64, .bool]) <|
           .br (.f (.is (.v 65558 2) false) <|
            .ok [.num (.n 0), .num (.n 0), .tru (.lt (.n 0) (.n 0))])
           (.f (.is (.v 65558 2) true) <|
            .br (.f (.is (.v 65572 2) false) <|
             .ok [.num (.n 0), .num (.n 0), .tru (.lt (.n 0) (.n 0))])
            (.f (.is (.v 65572 2) true) <|
             .br (.f (.is (.v 65581 2) false) <|
              .ok [.num (.n 0), .num (.n 0), .tru (.lt (.n 0) (.n 0))])
             (.f (.is (.v 65581 2) true) <|
              .ok [.num (.v 65581 0), .num (.v 65581 1), .tru (.le (.n 0) (.n 0))]))))
          (.f (.npre 16 [.num (.v 65558 0), .num (.v 65558 1), .num (.v 65572 0), .num (.v 65572 1)]) <|
           .bad))
         (.f (.npre 47 [.num (.v 65568 0), .num (.v 65568 1), .num (.wrap .i64 (.v 0 3))]) <|
          .bad))
        (.f (.npre 49 [.num (.v 0 5), .num (.v 0 6), .num (.v 0 7), .num (.v 0 0)]) <|
         .bad))
       (.f (.npre 47 [.num (.v 0 1), .num (.v 0 2), .num (.wrap .i64 (.v 0 7))]) <|
        .bad)))))
  (.f (.npre 46 [.num (.v 0 0), .num (.v 0 1), .num (.v 0 2), .num (.v 0 3), .num (.v 0 4)]) <|
   .bad)
theorem c52 : ConS Tryz.prog T C52 := con_tr (cs := [C11, C16, C46, C47, C49]) (lcs := []) (known := []) (cons_cons c11 (cons_cons c16 (cons_cons c46 (cons_cons c47 (cons_cons c49 (cons_nil _ _)))))) (Known.nil _) (N := 400) (d := 40) (t := t52) (by kernel_rfl) <| by
  intro E hl hp
  clear hl
  have hp := hp rfl
  simp only [C52, show T.pre 52 = Q52 from rfl, flatS, SP.flat, dvs, List.append_nil, List.cons_append, List.nil_append, Q52, U64, U32, I64, s64, WT, PR] at hp
  simp only [t52, C52, Tr.good, Fact.den, LX.den, DX.ls, DV.ls, DX.den, Bx.den, Ex.den, EO.den, dvs, flatS, SP.flat, ST.flat, List.map_cons, List.map_nil, List.append_nil, List.cons_append, List.nil_append, ltb_t, ltb_f, leb_t, leb_f, eqb_t, eqb_f, decide_eq_true_eq, decide_eq_false_iff_not, Bool.not_eq_true', Bool.not_eq_false', Bool.and_eq_true, Bool.and_eq_false_imp, beq_iff_eq, beq_eq_false_iff_ne, bne_iff_ne, U64, U32, I64, Told, s64, WT, PR, Int.zero_mul, Int.zero_add, Int.add_zero, Int.mul_zero, IntKind.wrap_u64, IntKind.wrap_i64, IntKind.wrap_u32, ne_eq, forall_const, true_implies, show T.rel 11 = R11 from rfl, R11, show T.rel 16 = R16 from rfl, R16, show T.rel 46 = R46 from rfl, R46, show T.rel 47 = R47 from rfl, R47, show T.rel 49 = R49 from rfl, R49, show T.rel 52 = R52 from rfl, R52, show T.pre 16 = Q16 from rfl, Q16, show T.pre 46 = Q46 from rfl, Q46, show T.pre 47 = Q47 from rfl, Q47, show T.pre 49 = Q49 from rfl, Q49, show T.pre 52 = Q52 from rfl, Q52]
  revert hp
  generalize (E.r 0).i 0 = b
  generalize (E.r 0).i 1 = h
  generalize (E.r 0).i 2 = l
  generalize (E.r 0).i 3 = w
  generalize (E.r 0).i 4 = n
  generalize (E.r 0).i 5 = t
  generalize (E.r 0).i 6 = r
  generalize (E.r 0).i 7 = v
  generalize (E.r 65541).c 0 = x5_0
  generalize (E.r 65550).c 0 = x14_0
  generalize (E.r 65558).i 0 = x22_0
  generalize (E.r 65558).i 1 = x22_1
  generalize (E.r 65558).c 2 = x22_2
  generalize (E.r 65568).i 0 = x32_0
  generalize (E.r 65568).i 1 = x32_1
  generalize (E.r 65572).i 0 = x36_0
  generalize (E.r 65572).i 1 = x36_1
  generalize (E.r 65572).c 2 = x36_2
  generalize (E.r 65581).i 0 = x45_0
  generalize (E.r 65581).i 1 = x45_1
  generalize (E.r 65581).c 2 = x45_2
  try simp only [ltb, leb, eqb, Int.lt_irrefl, decide_false, Int.le_refl, decide_true]
  intro hp
  have e1 : (v + 9223372036854775808) % 18446744073709551616 - 9223372036854775808 = v := by omega
  have W0 : W 0 0 := by omega
  simp only [e1]
  clear e1
  by_cases c : MR h l w n
  · have e2 : (w + 9223372036854775808) % 18446744073709551616 - 9223372036854775808 = w := by omega
    have hn : 0 < n ↔ ¬ n = 0 := by omega
    simp only [e2, hn, eq_true c]
    have r1 : -9223372036854775808 ≤ v ∧ v < 9223372036854775808 := by omega
    have r2 : -9223372036854775808 ≤ w ∧ w < 9223372036854775808 := by omega
    clear e2 hn c
    repeat' (first | intro _ | refine And.intro ?_ ?_)
    all_goals first | (simp_all; done) | omega | (simp_all; omega)
  · simp only [eq_false c]
    clear c
    repeat' (first | intro _ | refine And.intro ?_ ?_)
    all_goals first | (simp_all; done) | omega | (simp_all; omega)
end Go.Proofs.YtafhkgicekddlaaGreatDoor.Fn
namespace Go.Proofs.YtafhkgicekddlaaGreatDoor.Fn
open Go Go.RowKit Go.Proofs.YtafhkgicekddlaaGreatDoor.Sy
set_option linter.unusedVariables false
set_option linter.unusedSimpArgs false
set_option maxRecDepth 100000
def t15 : Tr :=
  .br (.f (.rel 52 [.num (.v 0 0), .num (.v 0 1), .num (.v 0 2), .num (.v 0 3), .num (.v 0 4), .num (.v 0 5), .num (.v 0 6), .num (.v 0 7)] 65542 [.int .i64, .int .u64, .bool]) <|
   .br (.f (.is (.v 65542 2) false) <|
    .ok [.num (.n 0), .num (.n 0), .tru (.lt (.n 0) (.n 0))])
   (.f (.is (.v 65542 2) true) <|
    .br (.f (.rel 48 [.num (.v 65542 0), .num (.v 65542 1), .num (.v 0 3)] 65554 [.int .i64, .int .u64, .int .u64, .bool]) <|
     .ok [.num (.v 65554 0), .num (.v 65554 1), .tru (.le (.n 0) (.n 0))])
    (.f (.npre 48 [.num (.v 65542 0), .num (.v 65542 1), .num (.v 0 3)]) <|
     .bad)))
  (.f (.npre 52 [.num (.v 0 0), .num (.v 0 1), .num (.v 0 2), .num (.v 0 3), .num (.v 0 4), .num (.v 0 5), .num (.v 0 6), .num (.v 0 7)]) <|
   .bad)
theorem c15 : ConS Tryz.prog T C15 := con_tr (cs := [C48, C52]) (lcs := []) (known := []) (cons_cons c48 (cons_cons c52 (cons_nil _ _))) (Known.nil _) (N := 400) (d := 40) (t := t15) (by kernel_rfl) <| by
  intro E hl hp
  clear hl
  have hp := hp rfl
  simp only [C15, show T.pre 15 = Q15 from rfl, flatS, SP.flat, dvs, List.append_nil, List.cons_append, List.nil_append, Q15, U64, U32, I64, s64, WT] at hp
  simp only [t15, C15, Tr.good, Fact.den, LX.den, DX.ls, DV.ls, DX.den, Bx.den, Ex.den, EO.den, dvs, flatS, SP.flat, ST.flat, List.map_cons, List.map_nil, List.append_nil, List.cons_append, List.nil_append, ltb_t, ltb_f, leb_t, leb_f, eqb_t, eqb_f, decide_eq_true_eq, decide_eq_false_iff_not, Bool.not_eq_true', Bool.not_eq_false', Bool.and_eq_true, Bool.and_eq_false_imp, beq_iff_eq, beq_eq_false_iff_ne, bne_iff_ne, U64, U32, I64, Told, s64, WT, Int.zero_mul, Int.zero_add, Int.add_zero, Int.mul_zero, IntKind.wrap_u64, IntKind.wrap_i64, IntKind.wrap_u32, ne_eq, forall_const, true_implies, show T.rel 15 = R15 from rfl, R15, show T.rel 48 = R48 from rfl, R48, show T.rel 52 = R52 from rfl, R52, show T.pre 15 = Q15 from rfl, Q15, show T.pre 48 = Q48 from rfl, Q48, show T.pre 52 = Q52 from rfl, Q52]
  revert hp
  generalize (E.r 0).i 0 = b
  generalize (E.r 0).i 1 = h
  generalize (E.r 0).i 2 = l
  generalize (E.r 0).i 3 = w
  generalize (E.r 0).i 4 = n
  generalize (E.r 0).i 5 = t
  generalize (E.r 0).i 6 = r
  generalize (E.r 0).i 7 = v
  generalize (E.r 65542).i 0 = x6_0
  generalize (E.r 65542).i 1 = x6_1
  generalize (E.r 65542).c 2 = x6_2
  generalize (E.r 65554).i 0 = x18_0
  generalize (E.r 65554).i 1 = x18_1
  generalize (E.r 65554).i 2 = x18_2
  generalize (E.r 65554).c 3 = x18_3
  try simp only [ltb, leb, eqb, Int.lt_irrefl, decide_false, Int.le_refl, decide_true]
  intro hp
  have W0 : W 0 0 := by omega
  have hw : MR h l w n → 0 < n → ¬ w = 0 := by omega
  repeat' (first | intro _ | refine And.intro ?_ ?_)
  all_goals first | (simp_all; done) | omega | (simp_all; omega)
end Go.Proofs.YtafhkgicekddlaaGreatDoor.Fn
namespace Go.Proofs.YtafhkgicekddlaaGreatDoor.Fn
open Go Go.RowKit Go.Proofs.YtafhkgicekddlaaGreatDoor.Sy
set_option linter.unusedVariables false
set_option linter.unusedSimpArgs false
set_option maxRecDepth 100000
def t28 : Tr :=
  .ok [.num (.v 0 0), .num (.v 0 1), .num (.v 0 2)]
theorem c28 : ConS Tryz.prog T C28 := con_tr (cs := []) (lcs := []) (known := []) (cons_nil _ _) (Known.nil _) (N := 400) (d := 40) (t := t28) (by kernel_rfl) <| by
  intro E hl hp
  clear hl
  have hp := hp rfl
  simp only [C28, show T.pre 28 = Q28 from rfl, flatS, SP.flat, dvs, List.append_nil, List.cons_append, List.nil_append, Q28, U64, U32, I64, Big, W, wv, s64, WT, PR, MR, MB] at hp
  simp only [t28, C28, Tr.good, Fact.den, LX.den, DX.ls, DV.ls, DX.den, Bx.den, Ex.den, eo_add, eo_sub, eo_mul, eo_quo, eo_rem, eo_fdv, eo_mn, eo_mx, eo_land, eo_lor, eo_lxor, eo_landn, eo_shl, eo_shr, dvs, flatS, SP.flat, ST.flat, List.map_cons, List.map_nil, List.append_nil, List.cons_append, List.nil_append, ltb_t, ltb_f, leb_t, leb_f, eqb_t, eqb_f, decide_eq_true_eq, decide_eq_false_iff_not, Bool.not_eq_true', Bool.not_eq_false', Bool.and_eq_true, Bool.and_eq_false_imp, beq_iff_eq, beq_eq_false_iff_ne, bne_iff_ne, U64, U32, I64, Big, W, wv, Told, s64, WT, PR, MR, MB, Int.zero_mul, Int.zero_add, Int.add_zero, Int.mul_zero, IntKind.wrap_u64, IntKind.wrap_i64, IntKind.wrap_u32, ne_eq, forall_const, true_implies, show T.rel 28 = R28 from rfl, R28, show T.pre 28 = Q28 from rfl, Q28]
  revert hp
  generalize (E.r 0).i 0 = t
  generalize (E.r 0).i 1 = r
  generalize (E.r 0).i 2 = w
  try simp only [mxI, mnI]
  try simp only [ltb, leb, eqb, Int.lt_irrefl, decide_false, Int.le_refl, decide_true]
  repeat' (first | intro _ | refine And.intro ?_ ?_ | refine Iff.intro ?_ ?_)
  all_goals first | omega | (simp_all; done) | (simp_all; omega)
end Go.Proofs.YtafhkgicekddlaaGreatDoor.Fn
namespace Go.Proofs.YtafhkgicekddlaaGreatDoor.Fn
open Go Go.RowKit Go.Proofs.YtafhkgicekddlaaGreatDoor.Sy
set_option linter.unusedVariables false
set_option linter.unusedSimpArgs false
set_option maxRecDepth 100000
def t61 : Tr :=
  .br (.f (.is (.lt (.v 0 0) (.v 0 2)) true) <|
   .br (.f (.is (.lt (.v 0 1) (.v 0 3)) true) <|
    .ok [.num (.n (-1))])
   (.f (.is (.lt (.v 0 1) (.v 0 3)) false) <|
    .br (.f (.is (.lt (.v 0 3) (.v 0 1)) true) <|
     .ok [.num (.n (-1))])
    (.f (.is (.lt (.v 0 3) (.v 0 1)) false) <|
     .ok [.num (.n (-1))])))
  (.f (.is (.lt (.v 0 0) (.v 0 2)) false) <|
   .br (.f (.is (.lt (.v 0 2) (.v 0 0)) true) <|
    .br (.f (.is (.lt (.v 0 1) (.v 0 3)) true) <|
     .ok [.num (.n 1)])
    (.f (.is (.lt (.v 0 1) (.v 0 3)) false) <|
     .br (.f (.is (.lt (.v 0 3) (.v 0 1)) true) <|
      .ok [.num (.n 1)])
     (.f (.is (.lt (.v 0 3) (.v 0 1)) false) <|
      .ok [.num (.n 1)])))
   (.f (.is (.lt (.v 0 2) (.v 0 0)) false) <|
    .br (.f (.is (.lt (.v 0 1) (.v 0 3)) true) <|
     .ok [.num (.n (-1))])
    (.f (.is (.lt (.v 0 1) (.v 0 3)) false) <|
     .br (.f (.is (.lt (.v 0 3) (.v 0 1)) true) <|
      .ok [.num (.n 1)])
     (.f (.is (.lt (.v 0 3) (.v 0 1)) false) <|
      .ok [.num (.n 0)]))))
theorem c61 : ConS Tryz.prog T C61 := con_tr (cs := []) (lcs := []) (known := []) (cons_nil _ _) (Known.nil _) (N := 400) (d := 40) (t := t61) (by kernel_rfl) <| by
  intro E hl hp
  clear hl
  have hp := hp rfl
  simp only [C61, show T.pre 61 = Q61 from rfl, flatS, SP.flat, dvs, List.append_nil, List.cons_append, List.nil_append, Q61, U64, U32, I64, Big, W, wv, s64, WT, PR, MR] at hp
  simp only [t61, C61, Tr.good, Fact.den, LX.den, DX.ls, DV.ls, DX.den, Bx.den, Ex.den, EO.den, dvs, flatS, SP.flat, ST.flat, List.map_cons, List.map_nil, List.append_nil, List.cons_append, List.nil_append, ltb_t, ltb_f, leb_t, leb_f, eqb_t, eqb_f, decide_eq_true_eq, decide_eq_false_iff_not, Bool.not_eq_true', Bool.not_eq_false', Bool.and_eq_true, Bool.and_eq_false_imp, beq_iff_eq, beq_eq_false_iff_ne, bne_iff_ne, U64, U32, I64, Big, W, wv, Told, s64, WT, PR, MR, Int.zero_mul, Int.zero_add, Int.add_zero, Int.mul_zero, IntKind.wrap_u64, IntKind.wrap_i64, IntKind.wrap_u32, ne_eq, forall_const, true_implies, show T.rel 61 = R61 from rfl, R61, show T.pre 61 = Q61 from rfl, Q61]
  revert hp
  generalize (E.r 0).i 0 = ah
  generalize (E.r 0).i 1 = al
  generalize (E.r 0).i 2 = bh
  generalize (E.r 0).i 3 = bl
  try simp only [ltb, leb, eqb, Int.lt_irrefl, decide_false, Int.le_refl, decide_true]
  repeat' (first | intro _ | refine And.intro ?_ ?_ | refine Iff.intro ?_ ?_)
  all_goals first | omega | (simp_all; done) | (simp_all; omega)
end Go.Proofs.YtafhkgicekddlaaGreatDoor.Fn
namespace Go.Proofs.YtafhkgicekddlaaGreatDoor.Fn
open Go Go.RowKit Go.Proofs.YtafhkgicekddlaaGreatDoor.Sy
set_option linter.unusedVariables false
set_option linter.unusedSimpArgs false
set_option maxRecDepth 100000
def t68 : Tr :=
  .br (.f (.rel 61 [.num (.v 0 0), .num (.v 0 1), .num (.n 0), .num (.n 0)] 65540 [.int .i64]) <|
   .ok [.num (.v 65540 0)])
  (.f (.npre 61 [.num (.v 0 0), .num (.v 0 1), .num (.n 0), .num (.n 0)]) <|
   .bad)
theorem c68 : ConS Tryz.prog T C68 := con_tr (cs := [C61]) (lcs := []) (known := []) (cons_cons c61 (cons_nil _ _)) (Known.nil _) (N := 400) (d := 40) (t := t68) (by kernel_rfl) <| by
  intro E hl hp
  clear hl
  have hp := hp rfl
  simp only [C68, show T.pre 68 = Q68 from rfl, flatS, SP.flat, dvs, List.append_nil, List.cons_append, List.nil_append, Q68, U64, U32, I64, Big, W, wv, s64, WT, PR, MR] at hp
  simp only [t68, C68, Tr.good, Fact.den, LX.den, DX.ls, DV.ls, DX.den, Bx.den, Ex.den, EO.den, dvs, flatS, SP.flat, ST.flat, List.map_cons, List.map_nil, List.append_nil, List.cons_append, List.nil_append, ltb_t, ltb_f, leb_t, leb_f, eqb_t, eqb_f, decide_eq_true_eq, decide_eq_false_iff_not, Bool.not_eq_true', Bool.not_eq_false', Bool.and_eq_true, Bool.and_eq_false_imp, beq_iff_eq, beq_eq_false_iff_ne, bne_iff_ne, U64, U32, I64, Big, W, wv, Told, s64, WT, PR, MR, Int.zero_mul, Int.zero_add, Int.add_zero, Int.mul_zero, IntKind.wrap_u64, IntKind.wrap_i64, IntKind.wrap_u32, ne_eq, forall_const, true_implies, show T.rel 61 = R61 from rfl, R61, show T.rel 68 = R68 from rfl, R68, show T.pre 61 = Q61 from rfl, Q61, show T.pre 68 = Q68 from rfl, Q68]
  revert hp
  generalize (E.r 0).i 0 = h
  generalize (E.r 0).i 1 = l
  generalize (E.r 65540).i 0 = x4_0
  try simp only [ltb, leb, eqb, Int.lt_irrefl, decide_false, Int.le_refl, decide_true]
  repeat' (first | intro _ | refine And.intro ?_ ?_ | refine Iff.intro ?_ ?_)
  all_goals first | omega | (simp_all; done) | (simp_all; omega)
end Go.Proofs.YtafhkgicekddlaaGreatDoor.Fn
namespace Go.Proofs.YtafhkgicekddlaaGreatDoor.Fn
open Go Go.RowKit Go.Proofs.YtafhkgicekddlaaGreatDoor.Sy
set_option linter.unusedVariables false
set_option linter.unusedSimpArgs false
set_option maxRecDepth 100000
def t36 : Tr :=
  .br (.f (.rel 52 [.num (.v 0 0), .num (.v 0 1), .num (.v 0 2), .num (.v 0 3), .num (.v 0 4), .num (.v 0 5), .num (.v 0 6), .num (.v 0 7)] 65542 [.int .i64, .int .u64, .bool]) <|
   .br (.f (.rel 68 [.num (.v 65542 0), .num (.v 65542 1)] 65550 [.int .i64]) <|
    .ok [.num (.v 65550 0), .tru (.v 65542 2)])
   (.f (.npre 68 [.num (.v 65542 0), .num (.v 65542 1)]) <|
    .bad))
  (.f (.npre 52 [.num (.v 0 0), .num (.v 0 1), .num (.v 0 2), .num (.v 0 3), .num (.v 0 4), .num (.v 0 5), .num (.v 0 6), .num (.v 0 7)]) <|
   .bad)
theorem c36 : ConS Tryz.prog T C36 := con_tr (cs := [C52, C68]) (lcs := []) (known := []) (cons_cons c52 (cons_cons c68 (cons_nil _ _))) (Known.nil _) (N := 400) (d := 40) (t := t36) (by kernel_rfl) <| by
  intro E hl hp
  clear hl
  have hp := hp rfl
  simp only [C36, show T.pre 36 = Q36 from rfl, flatS, SP.flat, dvs, List.append_nil, List.cons_append, List.nil_append, Q36, U64, U32, I64, s64, WT] at hp
  simp only [t36, C36, Tr.good, Fact.den, LX.den, DX.ls, DV.ls, DX.den, Bx.den, Ex.den, EO.den, dvs, flatS, SP.flat, ST.flat, List.map_cons, List.map_nil, List.append_nil, List.cons_append, List.nil_append, ltb_t, ltb_f, leb_t, leb_f, eqb_t, eqb_f, decide_eq_true_eq, decide_eq_false_iff_not, Bool.not_eq_true', Bool.not_eq_false', Bool.and_eq_true, Bool.and_eq_false_imp, beq_iff_eq, beq_eq_false_iff_ne, bne_iff_ne, U64, U32, I64, Told, s64, WT, Int.zero_mul, Int.zero_add, Int.add_zero, Int.mul_zero, IntKind.wrap_u64, IntKind.wrap_i64, IntKind.wrap_u32, ne_eq, forall_const, true_implies, show T.rel 36 = R36 from rfl, R36, show T.rel 52 = R52 from rfl, R52, show T.rel 68 = R68 from rfl, R68, show T.pre 36 = Q36 from rfl, Q36, show T.pre 52 = Q52 from rfl, Q52, show T.pre 68 = Q68 from rfl, Q68]
  revert hp
  generalize (E.r 0).i 0 = b
  generalize (E.r 0).i 1 = h
  generalize (E.r 0).i 2 = l
  generalize (E.r 0).i 3 = w
  generalize (E.r 0).i 4 = n
  generalize (E.r 0).i 5 = t
  generalize (E.r 0).i 6 = r
  generalize (E.r 0).i 7 = v
  generalize (E.r 65542).i 0 = x6_0
  generalize (E.r 65542).i 1 = x6_1
  generalize (E.r 65542).c 2 = x6_2
  generalize (E.r 65550).i 0 = x14_0
  try simp only [ltb, leb, eqb, Int.lt_irrefl, decide_false, Int.le_refl, decide_true]
  intro hp
  have W0 : W 0 0 := by omega
  have hw : MR h l w n → 0 < n → ¬ w = 0 := by omega
  repeat' (first | intro _ | refine And.intro ?_ ?_)
  all_goals first | (simp_all; done) | omega | (simp_all; omega)
end Go.Proofs.YtafhkgicekddlaaGreatDoor.Fn
namespace Go.Proofs.YtafhkgicekddlaaGreatDoor.Fn
open Go Go.RowKit Go.Proofs.YtafhkgicekddlaaGreatDoor.Sy
set_option linter.unusedVariables false
set_option linter.unusedSimpArgs false
set_option maxRecDepth 100000
def t35 : Tr :=
  .br (.f (.rel 36 [.num (.v 0 0), .num (.v 0 1), .num (.v 0 2), .num (.v 0 3), .num (.v 0 4), .num (.v 0 5), .num (.v 0 6), .num (.v 0 7)] 65541 [.int .i64, .bool]) <|
   .br (.f (.is (.v 65541 1) true) <|
    .ok [.tru (.le (.n 0) (.v 65541 0))])
   (.f (.is (.v 65541 1) false) <|
    .ok [.tru (.lt (.n 0) (.n 0))]))
  (.f (.npre 36 [.num (.v 0 0), .num (.v 0 1), .num (.v 0 2), .num (.v 0 3), .num (.v 0 4), .num (.v 0 5), .num (.v 0 6), .num (.v 0 7)]) <|
   .bad)
theorem c35 : ConS Tryz.prog T C35 := con_tr (cs := [C36]) (lcs := []) (known := []) (cons_cons c36 (cons_nil _ _)) (Known.nil _) (N := 400) (d := 40) (t := t35) (by kernel_rfl) <| by
  intro E hl hp
  clear hl
  have hp := hp rfl
  simp only [C35, show T.pre 35 = Q35 from rfl, flatS, SP.flat, dvs, List.append_nil, List.cons_append, List.nil_append, Q35, U64, U32, I64, s64, WT] at hp
  simp only [t35, C35, Tr.good, Fact.den, LX.den, DX.ls, DV.ls, DX.den, Bx.den, Ex.den, EO.den, dvs, flatS, SP.flat, ST.flat, List.map_cons, List.map_nil, List.append_nil, List.cons_append, List.nil_append, ltb_t, ltb_f, leb_t, leb_f, eqb_t, eqb_f, decide_eq_true_eq, decide_eq_false_iff_not, Bool.not_eq_true', Bool.not_eq_false', Bool.and_eq_true, Bool.and_eq_false_imp, beq_iff_eq, beq_eq_false_iff_ne, bne_iff_ne, U64, U32, I64, Told, s64, WT, Int.zero_mul, Int.zero_add, Int.add_zero, Int.mul_zero, IntKind.wrap_u64, IntKind.wrap_i64, IntKind.wrap_u32, ne_eq, forall_const, true_implies, show T.rel 35 = R35 from rfl, R35, show T.rel 36 = R36 from rfl, R36, show T.pre 35 = Q35 from rfl, Q35, show T.pre 36 = Q36 from rfl, Q36]
  revert hp
  generalize (E.r 0).i 0 = b
  generalize (E.r 0).i 1 = h
  generalize (E.r 0).i 2 = l
  generalize (E.r 0).i 3 = w
  generalize (E.r 0).i 4 = n
  generalize (E.r 0).i 5 = t
  generalize (E.r 0).i 6 = r
  generalize (E.r 0).i 7 = v
  generalize (E.r 65541).i 0 = x5_0
  generalize (E.r 65541).c 1 = x5_1
  try simp only [ltb, leb, eqb, Int.lt_irrefl, decide_false, Int.le_refl, decide_true]
  intro hp
  have W0 : W 0 0 := by omega
  have hw : MR h l w n → 0 < n → ¬ w = 0 := by omega
  repeat' (first | intro _ | refine And.intro ?_ ?_)
  all_goals first | (simp_all; done) | omega | (simp_all; omega)
end Go.Proofs.YtafhkgicekddlaaGreatDoor.Fn
namespace Go.Proofs.YtafhkgicekddlaaGreatDoor.Fn
open Go Go.RowKit Go.Proofs.YtafhkgicekddlaaGreatDoor.Sy
set_option linter.unusedVariables false
set_option linter.unusedSimpArgs false
set_option maxRecDepth 100000
def t74 : Tr :=
  .br (.f (.rel 107401 [.lst 0 1] 65538 [.list [.int .i64]]) <|
   .br (.f (.is (.lt (.n 0) (.len 65538 0)) true) <|
    .br (.f (.is (.lt (.wrap .i64 (.bin .sub (.len 65538 0) (.n 1))) (.n 0)) false) <|
     .br (.f (.is (.lt (.wrap .i64 (.bin .sub (.len 65538 0) (.n 1))) (.len 65538 0)) true) <|
      .br (.f (.is (.eq (.at 65538 0 (.wrap .i64 (.bin .sub (.len 65538 0) (.n 1))) 0) (.n 0)) false) <|
       .br (.f (.is (.eq (.len 65538 0) (.n 0)) true) <|
        .ok [.tru (.lt (.n 0) (.n 0)), .rows []])
       (.f (.is (.eq (.len 65538 0) (.n 0)) false) <|
        .ok [.tru (.v 0 0), .lst 65538 0]))
      (.f (.is (.eq (.at 65538 0 (.wrap .i64 (.bin .sub (.len 65538 0) (.n 1))) 0) (.n 0)) true) <|
       .br (.f (.is (.le (.wrap .i64 (.bin .sub (.len 65538 0) (.n 1))) (.len 65538 0)) false) <|
        .bad)
       (.f (.is (.le (.wrap .i64 (.bin .sub (.len 65538 0) (.n 1))) (.len 65538 0)) true) <|
        .f (.lseq 65560 (.sub (.lst 65538 0) (.n 0) (.wrap .i64 (.bin .sub (.len 65538 0) (.n 1))))) <|
         .br (.f (.nrel 107401 [.lst 0 1] [.lst 65560 0]) <|
          .bad)
         (.f (.ndec 107401 [.lst 0 1] [.lst 65538 0] [.lst 65560 0]) <|
          .bad))))
     (.f (.is (.lt (.wrap .i64 (.bin .sub (.len 65538 0) (.n 1))) (.len 65538 0)) false) <|
      .bad))
    (.f (.is (.lt (.wrap .i64 (.bin .sub (.len 65538 0) (.n 1))) (.n 0)) true) <|
     .bad))
   (.f (.is (.lt (.n 0) (.len 65538 0)) false) <|
    .br (.f (.is (.eq (.len 65538 0) (.n 0)) true) <|
     .ok [.tru (.lt (.n 0) (.n 0)), .rows []])
    (.f (.is (.eq (.len 65538 0) (.n 0)) false) <|
     .ok [.tru (.v 0 0), .lst 65538 0])))
  (.f (.nrel 107401 [.lst 0 1] [.lst 0 1]) <|
   .bad)
theorem c74 : ConS Tryz.prog T C74 := con_tr (cs := []) (lcs := [L107401]) (known := []) (cons_nil _ _) (Known.nil _) (N := 400) (d := 40) (t := t74) (by kernel_rfl) <| by
  intro E hl hp
  have hl1 := hl 1 _ rfl
  clear hl
  have hp := hp rfl
  simp only [C74, show T.pre 74 = Q74 from rfl, flatS, SP.flat, dvs, List.append_nil, List.cons_append, List.nil_append, Q74, U64, U32, I64, Big, W, wv, s64, WT, PR, MR] at hp
  simp only [t74, C74, Tr.good, Fact.den, LX.den, DX.ls, DV.ls, DX.den, Bx.den, Ex.den, eo_add, eo_sub, eo_mul, eo_quo, eo_rem, eo_fdv, eo_mn, eo_mx, eo_land, eo_lor, eo_lxor, eo_landn, eo_shl, eo_shr, dvs, flatS, SP.flat, ST.flat, List.map_cons, List.map_nil, List.append_nil, List.cons_append, List.nil_append, ltb_t, ltb_f, leb_t, leb_f, eqb_t, eqb_f, decide_eq_true_eq, decide_eq_false_iff_not, Bool.not_eq_true', Bool.not_eq_false', Bool.and_eq_true, Bool.and_eq_false_imp, beq_iff_eq, beq_eq_false_iff_ne, bne_iff_ne, U64, U32, I64, Big, W, wv, Told, s64, WT, PR, MR, Int.zero_mul, Int.zero_add, Int.add_zero, Int.mul_zero, IntKind.wrap_u64, IntKind.wrap_i64, IntKind.wrap_u32, ne_eq, forall_const, true_implies, show T.rel 74 = R74 from rfl, R74, show T.rel 107401 = R107401 from rfl, R107401, show T.mu 107401 = M107401 from rfl, M107401, show T.pre 74 = Q74 from rfl, Q74]
  revert hp hl1
  generalize (E.r 0).c 0 = n
  generalize (E.r 0).l 1 = l
  generalize (E.r 65538).l 0 = x2_0
  generalize (E.r 65538).i 1 = x2_1
  generalize (E.r 65560).l 0 = x24_0
  try simp only [mxI, mnI]
  try simp only [ltb, leb, eqb, Int.lt_irrefl, decide_false, Int.le_refl, decide_true]
  intro hl hp
  refine ⟨fun ⟨i0, i1, i2⟩ => ?_, fun n => n ⟨hp.1, hp.2, by first | trivial | rfl⟩⟩
  have hb : bval n l = bval n x2_0 := by simp only [bval, i2]
  have z : x2_0.length = 0 → BOK false [] ∧ bval false [] = bval n l := by
    intro h
    rw [List.eq_nil_of_length_eq_zero h] at hb
    rw [hb]
    refine ⟨BOK_nil, ?_⟩
    cases n <;> rfl
  by_cases h0 : x2_0.length = 0
  · have := z h0
    refine ⟨by omega, fun _ => ⟨fun _ => this, by omega⟩⟩
  obtain ⟨k, hk⟩ : ∃ k, x2_0.length = k + 1 := ⟨x2_0.length - 1, by omega⟩
  have ew : ((x2_0.length : Int) - 1 + 9223372036854775808) % 18446744073709551616 - 9223372036854775808 = (k : Int) := by omega
  simp only [ew, Int.toNat_natCast, Int.toNat_zero, List.drop_zero]
  refine ⟨fun _ => ⟨fun _ => ⟨fun _ => ⟨fun c => ⟨by omega, fun _ => ?_⟩, fun c => ⟨by omega, fun _ e => ?_⟩⟩, by omega⟩, by omega⟩, by omega⟩
  · exact ⟨⟨i0, fun _ => by rw [hk, show ((k + 1 : Nat) : Int) - 1 = k by omega]; exact c, by omega⟩, hb.symm⟩
  · subst e
    have e1 := dval_trim hk c
    refine ⟨fun n => n ⟨dig_take i0 k, by rw [List.length_take]; omega, by rw [e1]; exact i2⟩, fun n => n (by rw [List.length_take]; omega)⟩
end Go.Proofs.YtafhkgicekddlaaGreatDoor.Fn
