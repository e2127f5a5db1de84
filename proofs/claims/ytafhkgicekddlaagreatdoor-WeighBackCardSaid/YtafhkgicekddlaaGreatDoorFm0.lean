/- What is told of the functions, shown: (turnstone/vtime.Time).Since, turnstone/pos.weight, (turnstone/pos.Pos).Right, (turnstone/mean.Mean).Right, turnstone/wide.Of, math/bits.Sub64, (turnstone/wide.Int).flip, (turnstone/wide.Int).size, math/bits.Mul64, math/bits.Add64, turnstone/wide.signed, (turnstone/wide.Int).Mul, (turnstone/wide.Int).Add, turnstone/wide.OfU, (turnstone/pos.Pos).Distance, (turnstone/mean.Mean).Add, turnstone/mean.Of, math/bits.Len64, math/bits.LeadingZeros64. -/
import Derived.Test.YtafhkgicekddlaaGreatDoorTab
namespace Go.Proofs.YtafhkgicekddlaaGreatDoor.Fn
open Go Go.RowKit Go.Proofs.YtafhkgicekddlaaGreatDoor.Sy
set_option linter.unusedVariables false
set_option linter.unusedSimpArgs false
set_option maxRecDepth 100000
def t10 : Tr :=
  .ok [.num (.wrap .i64 (.wrap .u64 (.bin .sub (.v 0 0) (.v 0 1))))]
theorem c10 : ConS Tryz.prog T C10 := con_tr (cs := []) (lcs := []) (known := []) (cons_nil _ _) (Known.nil _) (N := 400) (d := 40) (t := t10) (by kernel_rfl) <| by
  intro E hl hp
  clear hl
  clear hp
  simp only [t10, C10, Tr.good, Fact.den, LX.den, DX.ls, DV.ls, DX.den, Bx.den, Ex.den, EO.den, dvs, flatS, SP.flat, ST.flat, List.map_cons, List.map_nil, List.append_nil, List.cons_append, List.nil_append, ltb_t, ltb_f, leb_t, leb_f, eqb_t, eqb_f, decide_eq_true_eq, decide_eq_false_iff_not, Bool.not_eq_true', Bool.not_eq_false', Bool.and_eq_true, Bool.and_eq_false_imp, beq_iff_eq, beq_eq_false_iff_ne, bne_iff_ne, U64, U32, I64, Big, W, wv, Told, s64, WT, PR, MR, Int.zero_mul, Int.zero_add, Int.add_zero, Int.mul_zero, IntKind.wrap_u64, IntKind.wrap_i64, IntKind.wrap_u32, ne_eq, forall_const, true_implies, show T.rel 10 = R10 from rfl, R10]
  generalize (E.r 0).i 0 = t
  generalize (E.r 0).i 1 = u
  try simp only [ltb, leb, eqb, Int.lt_irrefl, decide_false, Int.le_refl, decide_true]
  repeat' (first | intro _ | refine And.intro ?_ ?_ | refine Iff.intro ?_ ?_)
  all_goals first | omega | (simp_all; done) | (simp_all; omega)
end Go.Proofs.YtafhkgicekddlaaGreatDoor.Fn
namespace Go.Proofs.YtafhkgicekddlaaGreatDoor.Fn
open Go Go.RowKit Go.Proofs.YtafhkgicekddlaaGreatDoor.Sy
set_option linter.unusedVariables false
set_option linter.unusedSimpArgs false
set_option maxRecDepth 100000
def t44 : Tr :=
  .br (.f (.is (.le (.n 1) (.v 0 0)) true) <|
   .ok [.tru (.le (.v 0 0) (.n 1048576))])
  (.f (.is (.le (.n 1) (.v 0 0)) false) <|
   .ok [.tru (.lt (.n 0) (.n 0))])
theorem c44 : ConS Tryz.prog T C44 := con_tr (cs := []) (lcs := []) (known := []) (cons_nil _ _) (Known.nil _) (N := 400) (d := 40) (t := t44) (by kernel_rfl) <| by
  intro E hl hp
  clear hl
  clear hp
  simp only [t44, C44, Tr.good, Fact.den, LX.den, DX.ls, DV.ls, DX.den, Bx.den, Ex.den, EO.den, dvs, flatS, SP.flat, ST.flat, List.map_cons, List.map_nil, List.append_nil, List.cons_append, List.nil_append, ltb_t, ltb_f, leb_t, leb_f, eqb_t, eqb_f, decide_eq_true_eq, decide_eq_false_iff_not, Bool.not_eq_true', Bool.not_eq_false', Bool.and_eq_true, Bool.and_eq_false_imp, beq_iff_eq, beq_eq_false_iff_ne, bne_iff_ne, U64, U32, I64, Big, W, wv, Told, s64, WT, PR, MR, Int.zero_mul, Int.zero_add, Int.add_zero, Int.mul_zero, IntKind.wrap_u64, IntKind.wrap_i64, IntKind.wrap_u32, ne_eq, forall_const, true_implies, show T.rel 44 = R44 from rfl, R44]
  generalize (E.r 0).i 0 = w
  try simp only [ltb, leb, eqb, Int.lt_irrefl, decide_false, Int.le_refl, decide_true]
  repeat' (first | intro _ | refine And.intro ?_ ?_ | refine Iff.intro ?_ ?_)
  all_goals first | omega | (simp_all; done) | (simp_all; omega)
end Go.Proofs.YtafhkgicekddlaaGreatDoor.Fn
namespace Go.Proofs.YtafhkgicekddlaaGreatDoor.Fn
open Go Go.RowKit Go.Proofs.YtafhkgicekddlaaGreatDoor.Sy
set_option linter.unusedVariables false
set_option linter.unusedSimpArgs false
set_option maxRecDepth 100000
def t11 : Tr :=
  .f (.rel 44 [.num (.v 0 2)] 65540 [.bool]) <|
   .br (.f (.is (.v 65540 0) true) <|
    .ok [.tru (.lt (.v 0 1) (.v 0 2))])
   (.f (.is (.v 65540 0) false) <|
    .ok [.tru (.lt (.n 0) (.n 0))])
theorem c11 : ConS Tryz.prog T C11 := con_tr (cs := [C44]) (lcs := []) (known := []) (cons_cons c44 (cons_nil _ _)) (Known.nil _) (N := 400) (d := 40) (t := t11) (by kernel_rfl) <| by
  intro E hl hp
  clear hl
  clear hp
  simp only [t11, C11, Tr.good, Fact.den, LX.den, DX.ls, DV.ls, DX.den, Bx.den, Ex.den, EO.den, dvs, flatS, SP.flat, ST.flat, List.map_cons, List.map_nil, List.append_nil, List.cons_append, List.nil_append, ltb_t, ltb_f, leb_t, leb_f, eqb_t, eqb_f, decide_eq_true_eq, decide_eq_false_iff_not, Bool.not_eq_true', Bool.not_eq_false', Bool.and_eq_true, Bool.and_eq_false_imp, beq_iff_eq, beq_eq_false_iff_ne, bne_iff_ne, U64, U32, I64, Big, W, wv, Told, s64, WT, PR, MR, Int.zero_mul, Int.zero_add, Int.add_zero, Int.mul_zero, IntKind.wrap_u64, IntKind.wrap_i64, IntKind.wrap_u32, ne_eq, forall_const, true_implies, show T.rel 11 = R11 from rfl, R11, show T.rel 44 = R44 from rfl, R44]
  generalize (E.r 0).i 0 = t
  generalize (E.r 0).i 1 = r
  generalize (E.r 0).i 2 = w
  generalize (E.r 65540).c 0 = x4_0
  try simp only [ltb, leb, eqb, Int.lt_irrefl, decide_false, Int.le_refl, decide_true]
  repeat' (first | intro _ | refine And.intro ?_ ?_ | refine Iff.intro ?_ ?_)
  all_goals first | omega | (simp_all; done) | (simp_all; omega)
end Go.Proofs.YtafhkgicekddlaaGreatDoor.Fn
namespace Go.Proofs.YtafhkgicekddlaaGreatDoor.Fn
open Go Go.RowKit Go.Proofs.YtafhkgicekddlaaGreatDoor.Sy
set_option linter.unusedVariables false
set_option linter.unusedSimpArgs false
set_option maxRecDepth 100000
def t46 : Tr :=
  .br (.f (.is (.eq (.v 0 4) (.n 0)) true) <|
   .br (.f (.is (.eq (.v 0 3) (.n 0)) true) <|
    .ok [.tru (.and (.eq (.v 0 1) (.n 0)) (.and (.eq (.v 0 2) (.n 0)) (.le (.n 0) (.n 0))))])
   (.f (.is (.eq (.v 0 3) (.n 0)) false) <|
    .ok [.tru (.lt (.n 0) (.n 0))]))
  (.f (.is (.eq (.v 0 4) (.n 0)) false) <|
   .br (.f (.is (.lt (.n 0) (.v 0 4)) true) <|
    .br (.f (.is (.le (.v 0 4) (.n 32)) true) <|
     .br (.f (.is (.le (.wrap .u64 (.v 0 4)) (.v 0 3)) true) <|
      .ok [.tru (.le (.v 0 3) (.wrap .u64 (.bin .mul (.wrap .u64 (.v 0 4)) (.n 1048576))))])
     (.f (.is (.le (.wrap .u64 (.v 0 4)) (.v 0 3)) false) <|
      .ok [.tru (.lt (.n 0) (.n 0))]))
    (.f (.is (.le (.v 0 4) (.n 32)) false) <|
     .ok [.tru (.lt (.n 0) (.n 0))]))
   (.f (.is (.lt (.n 0) (.v 0 4)) false) <|
    .ok [.tru (.lt (.n 0) (.n 0))]))
theorem c46 : ConS Tryz.prog T C46 := con_tr (cs := []) (lcs := []) (known := []) (cons_nil _ _) (Known.nil _) (N := 400) (d := 40) (t := t46) (by kernel_rfl) <| by
  intro E hl hp
  clear hl
  have hp := hp rfl
  simp only [C46, show T.pre 46 = Q46 from rfl, flatS, SP.flat, dvs, List.append_nil, List.cons_append, List.nil_append, Q46, U64, U32, I64, Big, W, wv, s64, WT, PR, MR] at hp
  simp only [t46, C46, Tr.good, Fact.den, LX.den, DX.ls, DV.ls, DX.den, Bx.den, Ex.den, EO.den, dvs, flatS, SP.flat, ST.flat, List.map_cons, List.map_nil, List.append_nil, List.cons_append, List.nil_append, ltb_t, ltb_f, leb_t, leb_f, eqb_t, eqb_f, decide_eq_true_eq, decide_eq_false_iff_not, Bool.not_eq_true', Bool.not_eq_false', Bool.and_eq_true, Bool.and_eq_false_imp, beq_iff_eq, beq_eq_false_iff_ne, bne_iff_ne, U64, U32, I64, Big, W, wv, Told, s64, WT, PR, MR, Int.zero_mul, Int.zero_add, Int.add_zero, Int.mul_zero, IntKind.wrap_u64, IntKind.wrap_i64, IntKind.wrap_u32, ne_eq, forall_const, true_implies, show T.rel 46 = R46 from rfl, R46, show T.pre 46 = Q46 from rfl, Q46]
  revert hp
  generalize (E.r 0).i 0 = b
  generalize (E.r 0).i 1 = h
  generalize (E.r 0).i 2 = l
  generalize (E.r 0).i 3 = w
  generalize (E.r 0).i 4 = n
  try simp only [ltb, leb, eqb, Int.lt_irrefl, decide_false, Int.le_refl, decide_true]
  repeat' (first | intro _ | refine And.intro ?_ ?_ | refine Iff.intro ?_ ?_)
  all_goals first | omega | (simp_all; done) | (simp_all; omega)
end Go.Proofs.YtafhkgicekddlaaGreatDoor.Fn
namespace Go.Proofs.YtafhkgicekddlaaGreatDoor.Fn
open Go Go.RowKit Go.Proofs.YtafhkgicekddlaaGreatDoor.Sy
set_option linter.unusedVariables false
set_option linter.unusedSimpArgs false
set_option maxRecDepth 100000
def t54 : Tr :=
  .br (.f (.is (.lt (.v 0 0) (.n 0)) true) <|
   .ok [.num (.n (-1)), .num (.wrap .u64 (.v 0 0))])
  (.f (.is (.lt (.v 0 0) (.n 0)) false) <|
   .ok [.num (.n 0), .num (.wrap .u64 (.v 0 0))])
theorem c54 : ConS Tryz.prog T C54 := con_tr (cs := []) (lcs := []) (known := []) (cons_nil _ _) (Known.nil _) (N := 400) (d := 40) (t := t54) (by kernel_rfl) <| by
  intro E hl hp
  clear hl
  have hp := hp rfl
  simp only [C54, show T.pre 54 = Q54 from rfl, flatS, SP.flat, dvs, List.append_nil, List.cons_append, List.nil_append, Q54, U64, U32, I64, Big, W, wv, s64, WT, PR, MR] at hp
  simp only [t54, C54, Tr.good, Fact.den, LX.den, DX.ls, DV.ls, DX.den, Bx.den, Ex.den, EO.den, dvs, flatS, SP.flat, ST.flat, List.map_cons, List.map_nil, List.append_nil, List.cons_append, List.nil_append, ltb_t, ltb_f, leb_t, leb_f, eqb_t, eqb_f, decide_eq_true_eq, decide_eq_false_iff_not, Bool.not_eq_true', Bool.not_eq_false', Bool.and_eq_true, Bool.and_eq_false_imp, beq_iff_eq, beq_eq_false_iff_ne, bne_iff_ne, U64, U32, I64, Big, W, wv, Told, s64, WT, PR, MR, Int.zero_mul, Int.zero_add, Int.add_zero, Int.mul_zero, IntKind.wrap_u64, IntKind.wrap_i64, IntKind.wrap_u32, ne_eq, forall_const, true_implies, show T.rel 54 = R54 from rfl, R54, show T.pre 54 = Q54 from rfl, Q54]
  revert hp
  generalize (E.r 0).i 0 = x
  try simp only [ltb, leb, eqb, Int.lt_irrefl, decide_false, Int.le_refl, decide_true]
  repeat' (first | intro _ | refine And.intro ?_ ?_ | refine Iff.intro ?_ ?_)
  all_goals first | omega | (simp_all; done) | (simp_all; omega)
end Go.Proofs.YtafhkgicekddlaaGreatDoor.Fn
namespace Go.Proofs.YtafhkgicekddlaaGreatDoor.Fn
open Go Go.RowKit Go.Proofs.YtafhkgicekddlaaGreatDoor.Sy
set_option linter.unusedVariables false
set_option linter.unusedSimpArgs false
set_option maxRecDepth 100000

def row53 : Array Value → Sem Value := fun args => do
  let (x, y, b) ← Extern.MathBitsCarry.three "Sub64" args
  pure (Extern.MathBitsCarry.pair ((x + Extern.MathBitsCarry.m64 - y - b) % Extern.MathBitsCarry.m64) (if x < y + b then 1 else 0))
theorem small_cases53 (c : Int) (hc : c ≤ 1) : c = Int.ofNat 0 ∨ c = Int.ofNat 1 ∨ ∃ n, c = Int.negSucc n := by
  cases c with
  | ofNat n => match n, hc with
    | 0, _ => exact .inl rfl
    | 1, _ => exact .inr (.inl rfl)
    | n + 2, h => exact absurd h (by simp only [Int.ofNat_eq_natCast]; omega)
  | negSucc n => exact .inr (.inr ⟨n, rfl⟩)
theorem run53 (a b c : Int) (hc : c ≤ 1) (w : World) :
    (callFunc 53 #[.int .u64 a, .int .u64 b, .int .u64 c]).run Tryz.prog w = .ok (.value (.tuple #[.int .u64 (((a.toNat + 18446744073709551616 - b.toNat - c.toNat) % 18446744073709551616 : Nat) : Int), .int .u64 ((if a.toNat < b.toNat + c.toNat then 1 else 0 : Nat) : Int)])) w := by
  rw [run_callFunc_extern Tryz.func53 (by kernel_rfl) (by kernel_rfl) (by kernel_rfl) (e := row53) (by kernel_rfl)]
  rcases small_cases53 c hc with rfl | rfl | ⟨n, rfl⟩ <;> rfl
theorem c53 : ConS Tryz.prog T C53 := con_ext (by kernel_rfl) rfl fun r w hp => by
  have hp : U64 (r.i 0) ∧ U64 (r.i 1) ∧ 0 ≤ r.i 2 ∧ r.i 2 ≤ 1 := hp rfl
  have hc : r.i 2 ≤ 1 := hp.2.2.2
  refine ⟨⟨fun j => if j = 0 then (((((r.i 0).toNat + 18446744073709551616 - (r.i 1).toNat - (r.i 2).toNat) % 18446744073709551616 : Nat)) : Int) else ((if (r.i 0).toNat < (r.i 1).toNat + (r.i 2).toNat then 1 else 0 : Nat) : Int), fun _ => false, fun _ => [], fun _ => none, fun _ => 0, fun _ => undef⟩, run53 (r.i 0) (r.i 1) (r.i 2) hc w, ?_⟩
  show R53 [.num (r.i 0), .num (r.i 1), .num (r.i 2)] [.num _, .num _]
  simp only [R53]
  refine ⟨by simp; omega, fun h2 => ?_, fun h2 => ?_⟩
  · show ((if (r.i 0).toNat < (r.i 1).toNat + (r.i 2).toNat then 1 else 0 : Nat) : Int) = _
    rw [if_pos (by omega)]; rfl
  · show ((if (r.i 0).toNat < (r.i 1).toNat + (r.i 2).toNat then 1 else 0 : Nat) : Int) = _
    rw [if_neg (by omega)]; rfl
end Go.Proofs.YtafhkgicekddlaaGreatDoor.Fn
namespace Go.Proofs.YtafhkgicekddlaaGreatDoor.Fn
open Go Go.RowKit Go.Proofs.YtafhkgicekddlaaGreatDoor.Sy
set_option linter.unusedVariables false
set_option linter.unusedSimpArgs false
set_option maxRecDepth 100000
def t84 : Tr :=
  .br (.f (.rel 53 [.num (.n 0), .num (.v 0 1), .num (.n 0)] 65540 [.int .u64, .int .u64]) <|
   .br (.f (.rel 53 [.num (.n 0), .num (.wrap .u64 (.v 0 0)), .num (.v 65540 1)] 65550 [.int .u64, .int .u64]) <|
    .ok [.num (.wrap .i64 (.v 65550 0)), .num (.v 65540 0)])
   (.f (.npre 53 [.num (.n 0), .num (.wrap .u64 (.v 0 0)), .num (.v 65540 1)]) <|
    .bad))
  (.f (.npre 53 [.num (.n 0), .num (.v 0 1), .num (.n 0)]) <|
   .bad)
theorem c84 : ConS Tryz.prog T C84 := con_tr (cs := [C53]) (lcs := []) (known := []) (cons_cons c53 (cons_nil _ _)) (Known.nil _) (N := 400) (d := 40) (t := t84) (by kernel_rfl) <| by
  intro E hl hp
  clear hl
  have hp := hp rfl
  simp only [C84, show T.pre 84 = Q84 from rfl, flatS, SP.flat, dvs, List.append_nil, List.cons_append, List.nil_append, Q84, U64, U32, I64, Big, W, wv, s64, WT, PR, MR] at hp
  simp only [t84, C84, Tr.good, Fact.den, LX.den, DX.ls, DV.ls, DX.den, Bx.den, Ex.den, EO.den, dvs, flatS, SP.flat, ST.flat, List.map_cons, List.map_nil, List.append_nil, List.cons_append, List.nil_append, ltb_t, ltb_f, leb_t, leb_f, eqb_t, eqb_f, decide_eq_true_eq, decide_eq_false_iff_not, Bool.not_eq_true', Bool.not_eq_false', Bool.and_eq_true, Bool.and_eq_false_imp, beq_iff_eq, beq_eq_false_iff_ne, bne_iff_ne, U64, U32, I64, Big, W, wv, Told, s64, WT, PR, MR, Int.zero_mul, Int.zero_add, Int.add_zero, Int.mul_zero, IntKind.wrap_u64, IntKind.wrap_i64, IntKind.wrap_u32, ne_eq, forall_const, true_implies, show T.rel 53 = R53 from rfl, R53, show T.rel 84 = R84 from rfl, R84, show T.pre 53 = Q53 from rfl, Q53, show T.pre 84 = Q84 from rfl, Q84]
  revert hp
  generalize (E.r 0).i 0 = h
  generalize (E.r 0).i 1 = l
  generalize (E.r 65540).i 0 = x4_0
  generalize (E.r 65540).i 1 = x4_1
  generalize (E.r 65550).i 0 = x14_0
  generalize (E.r 65550).i 1 = x14_1
  try simp only [ltb, leb, eqb, Int.lt_irrefl, decide_false, Int.le_refl, decide_true]
  repeat' (first | intro _ | refine And.intro ?_ ?_ | refine Iff.intro ?_ ?_)
  all_goals first | omega | (simp_all; done) | (simp_all; omega)
end Go.Proofs.YtafhkgicekddlaaGreatDoor.Fn
namespace Go.Proofs.YtafhkgicekddlaaGreatDoor.Fn
open Go Go.RowKit Go.Proofs.YtafhkgicekddlaaGreatDoor.Sy
set_option linter.unusedVariables false
set_option linter.unusedSimpArgs false
set_option maxRecDepth 100000
def t79 : Tr :=
  .br (.f (.is (.lt (.v 0 0) (.n 0)) true) <|
   .br (.f (.rel 84 [.num (.v 0 0), .num (.v 0 1)] 65543 [.int .i64, .int .u64]) <|
    .ok [.num (.wrap .u64 (.v 65543 0)), .num (.v 65543 1)])
   (.f (.npre 84 [.num (.v 0 0), .num (.v 0 1)]) <|
    .bad))
  (.f (.is (.lt (.v 0 0) (.n 0)) false) <|
   .ok [.num (.wrap .u64 (.v 0 0)), .num (.v 0 1)])
theorem c79 : ConS Tryz.prog T C79 := con_tr (cs := [C84]) (lcs := []) (known := []) (cons_cons c84 (cons_nil _ _)) (Known.nil _) (N := 400) (d := 40) (t := t79) (by kernel_rfl) <| by
  intro E hl hp
  clear hl
  have hp := hp rfl
  simp only [C79, show T.pre 79 = Q79 from rfl, flatS, SP.flat, dvs, List.append_nil, List.cons_append, List.nil_append, Q79, U64, U32, I64, Big, W, wv, s64, WT, PR, MR] at hp
  simp only [t79, C79, Tr.good, Fact.den, LX.den, DX.ls, DV.ls, DX.den, Bx.den, Ex.den, EO.den, dvs, flatS, SP.flat, ST.flat, List.map_cons, List.map_nil, List.append_nil, List.cons_append, List.nil_append, ltb_t, ltb_f, leb_t, leb_f, eqb_t, eqb_f, decide_eq_true_eq, decide_eq_false_iff_not, Bool.not_eq_true', Bool.not_eq_false', Bool.and_eq_true, Bool.and_eq_false_imp, beq_iff_eq, beq_eq_false_iff_ne, bne_iff_ne, U64, U32, I64, Big, W, wv, Told, s64, WT, PR, MR, Int.zero_mul, Int.zero_add, Int.add_zero, Int.mul_zero, IntKind.wrap_u64, IntKind.wrap_i64, IntKind.wrap_u32, ne_eq, forall_const, true_implies, show T.rel 79 = R79 from rfl, R79, show T.rel 84 = R84 from rfl, R84, show T.pre 79 = Q79 from rfl, Q79, show T.pre 84 = Q84 from rfl, Q84]
  revert hp
  generalize (E.r 0).i 0 = h
  generalize (E.r 0).i 1 = l
  generalize (E.r 65543).i 0 = x7_0
  generalize (E.r 65543).i 1 = x7_1
  try simp only [ltb, leb, eqb, Int.lt_irrefl, decide_false, Int.le_refl, decide_true]
  repeat' (first | intro _ | refine And.intro ?_ ?_ | refine Iff.intro ?_ ?_)
  all_goals first | omega | (simp_all; done) | (simp_all; omega)
end Go.Proofs.YtafhkgicekddlaaGreatDoor.Fn
namespace Go.Proofs.YtafhkgicekddlaaGreatDoor.Fn
open Go Go.RowKit Go.Proofs.YtafhkgicekddlaaGreatDoor.Sy
set_option linter.unusedVariables false
set_option linter.unusedSimpArgs false
set_option maxRecDepth 100000
def t80 : Tr :=
  .f (.is (.eq (.v 65554 0) (.wrap .u64 (.bin .mul (.bin (.land .u64) (.v 0 0) (.n 4294967295)) (.bin (.land .u64) (.v 0 1) (.n 4294967295))))) true) <|
   .f (.is (.eq (.v 65562 0) (.wrap .u64 (.bin .mul (.bin .fdv (.v 0 0) (.n 4294967296)) (.bin (.land .u64) (.v 0 1) (.n 4294967295))))) true) <|
    .f (.is (.eq (.v 65566 0) (.bin (.land .u64) (.wrap .u64 (.bin .add (.v 65562 0) (.bin .fdv (.v 65554 0) (.n 4294967296)))) (.n 4294967295))) true) <|
     .f (.is (.eq (.v 65570 0) (.bin .fdv (.wrap .u64 (.bin .add (.v 65562 0) (.bin .fdv (.v 65554 0) (.n 4294967296)))) (.n 4294967296))) true) <|
      .f (.is (.eq (.v 65577 0) (.wrap .u64 (.bin .mul (.bin (.land .u64) (.v 0 0) (.n 4294967295)) (.bin .fdv (.v 0 1) (.n 4294967296))))) true) <|
       .f (.is (.eq (.v 65587 0) (.wrap .u64 (.bin .mul (.bin .fdv (.v 0 0) (.n 4294967296)) (.bin .fdv (.v 0 1) (.n 4294967296))))) true) <|
        .f (.is (.eq (.v 65588 0) (.wrap .u64 (.bin .add (.wrap .u64 (.bin .add (.v 65587 0) (.v 65570 0))) (.bin .fdv (.wrap .u64 (.bin .add (.v 65566 0) (.v 65577 0))) (.n 4294967296))))) true) <|
         .ok [.num (.v 65588 0), .num (.wrap .u64 (.bin .mul (.v 0 0) (.v 0 1)))]
theorem c80 : ConS Tryz.prog T C80 := con_tr (cs := []) (lcs := []) (known := []) (cons_nil _ _) (Known.nil _) (N := 400) (d := 40) (t := t80) (by kernel_rfl) <| by
  intro E hl hp
  clear hl
  have hp := hp rfl
  simp only [C80, show T.pre 80 = Q80 from rfl, flatS, SP.flat, dvs, List.append_nil, List.cons_append, List.nil_append, Q80, U64, U32, I64, Big, W, wv, s64, WT, PR, MR] at hp
  simp only [t80, C80, Tr.good, Fact.den, LX.den, DX.ls, DV.ls, DX.den, Bx.den, Ex.den, EO.den, dvs, flatS, SP.flat, ST.flat, List.map_cons, List.map_nil, List.append_nil, List.cons_append, List.nil_append, ltb_t, ltb_f, leb_t, leb_f, eqb_t, eqb_f, decide_eq_true_eq, decide_eq_false_iff_not, Bool.not_eq_true', Bool.not_eq_false', Bool.and_eq_true, Bool.and_eq_false_imp, beq_iff_eq, beq_eq_false_iff_ne, bne_iff_ne, U64, U32, I64, Big, W, wv, Told, s64, WT, PR, MR, Int.zero_mul, Int.zero_add, Int.add_zero, Int.mul_zero, IntKind.wrap_u64, IntKind.wrap_i64, IntKind.wrap_u32, ne_eq, forall_const, true_implies, show T.rel 80 = R80 from rfl, R80, show T.pre 80 = Q80 from rfl, Q80]
  revert hp
  generalize (E.r 0).i 0 = x
  generalize (E.r 0).i 1 = y
  generalize (E.r 65554).i 0 = x18_0
  generalize (E.r 65562).i 0 = x26_0
  generalize (E.r 65566).i 0 = x30_0
  generalize (E.r 65570).i 0 = x34_0
  generalize (E.r 65577).i 0 = x41_0
  generalize (E.r 65587).i 0 = x51_0
  generalize (E.r 65588).i 0 = x52_0
  try simp only [ltb, leb, eqb, Int.lt_irrefl, decide_false, Int.le_refl, decide_true]
  intro hp e18 e26 e30 e34 e41 e51 e52
  obtain ⟨⟨x0, x1⟩, ⟨y0, y1⟩⟩ := hp
  rw [land_mask x0 x1, land_mask y0 y1] at e18
  rw [land_mask y0 y1, fdv (by omega)] at e26
  rw [land_mask x0 x1, fdv (by omega)] at e41
  rw [fdv (by omega), fdv (by omega)] at e51
  simp only [fdv (show (0 : Int) ≤ 4294967296 by omega)] at e30 e34 e52
  have p00 := mul_below (a := x % 4294967296) (b := y % 4294967296) (c := 4294967295) (d := 4294967295) (by omega) (by omega) (by omega) (by omega)
  have p10 := mul_below (a := x / 4294967296) (b := y % 4294967296) (c := 4294967295) (d := 4294967295) (by omega) (by omega) (by omega) (by omega)
  have p01 := mul_below (a := x % 4294967296) (b := y / 4294967296) (c := 4294967295) (d := 4294967295) (by omega) (by omega) (by omega) (by omega)
  have p11 := mul_below (a := x / 4294967296) (b := y / 4294967296) (c := 4294967295) (d := 4294967295) (by omega) (by omega) (by omega) (by omega)
  have e : x * y = (x / 4294967296) * (y / 4294967296) * 18446744073709551616 + ((x / 4294967296) * (y % 4294967296) + (x % 4294967296) * (y / 4294967296)) * 4294967296 + (x % 4294967296) * (y % 4294967296) := by
    have hx : x = x / 4294967296 * 4294967296 + x % 4294967296 := by omega
    have hy : y = y / 4294967296 * 4294967296 + y % 4294967296 := by omega
    generalize x / 4294967296 = a at *
    generalize x % 4294967296 = b at *
    generalize y / 4294967296 = c at *
    generalize y % 4294967296 = d at *
    subst hx hy
    grind
  generalize (x / 4294967296) * (y / 4294967296) = q11 at *
  generalize (x / 4294967296) * (y % 4294967296) = q10 at *
  generalize (x % 4294967296) * (y / 4294967296) = q01 at *
  generalize (x % 4294967296) * (y % 4294967296) = q00 at *
  generalize x * y = z at *
  rw [land_mask (by omega) (by omega)] at e30
  omega
end Go.Proofs.YtafhkgicekddlaaGreatDoor.Fn
namespace Go.Proofs.YtafhkgicekddlaaGreatDoor.Fn
open Go Go.RowKit Go.Proofs.YtafhkgicekddlaaGreatDoor.Sy
set_option linter.unusedVariables false
set_option linter.unusedSimpArgs false
set_option maxRecDepth 100000

theorem small_cases81 (c : Int) (hc : c ≤ 1) : c = Int.ofNat 0 ∨ c = Int.ofNat 1 ∨ ∃ n, c = Int.negSucc n := by
  cases c with
  | ofNat n => match n, hc with
    | 0, _ => exact .inl rfl
    | 1, _ => exact .inr (.inl rfl)
    | n + 2, h => exact absurd h (by simp only [Int.ofNat_eq_natCast]; omega)
  | negSucc n => exact .inr (.inr ⟨n, rfl⟩)
theorem run81 (a b c : Int) (hc : c ≤ 1) (w : World) :
    (callFunc 81 #[.int .u64 a, .int .u64 b, .int .u64 c]).run Tryz.prog w = .ok (.value (.tuple #[.int .u64 (((a.toNat + b.toNat + c.toNat) % 18446744073709551616 : Nat) : Int), .int .u64 (((a.toNat + b.toNat + c.toNat) / 18446744073709551616 : Nat) : Int)])) w := by
  rw [run_callFunc_extern Tryz.func81 (by kernel_rfl) (by kernel_rfl) (by kernel_rfl) (e := add64Entry) (by kernel_rfl)]
  rcases small_cases81 c hc with rfl | rfl | ⟨n, rfl⟩ <;> rfl
theorem c81 : ConS Tryz.prog T C81 := con_ext (by kernel_rfl) rfl fun r w hp => by
  have hp : U64 (r.i 0) ∧ U64 (r.i 1) ∧ 0 ≤ r.i 2 ∧ r.i 2 ≤ 1 := hp rfl
  have hc : r.i 2 ≤ 1 := hp.2.2.2
  refine ⟨⟨fun j => if j = 0 then (((((r.i 0).toNat + (r.i 1).toNat + (r.i 2).toNat) % 18446744073709551616 : Nat)) : Int) else ((((r.i 0).toNat + (r.i 1).toNat + (r.i 2).toNat) / 18446744073709551616 : Nat) : Int), fun _ => false, fun _ => [], fun _ => none, fun _ => 0, fun _ => undef⟩, run81 (r.i 0) (r.i 1) (r.i 2) hc w, ?_⟩
  show R81 [.num (r.i 0), .num (r.i 1), .num (r.i 2)] [.num _, .num _]
  simp only [R81]
  constructor <;> simp <;> omega
end Go.Proofs.YtafhkgicekddlaaGreatDoor.Fn
namespace Go.Proofs.YtafhkgicekddlaaGreatDoor.Fn
open Go Go.RowKit Go.Proofs.YtafhkgicekddlaaGreatDoor.Sy
set_option linter.unusedVariables false
set_option linter.unusedSimpArgs false
set_option maxRecDepth 100000
def t82 : Tr :=
  .br (.f (.is (.v 0 2) true) <|
   .br (.f (.is (.lt (.v 0 0) (.n 9223372036854775808)) true) <|
    .br (.f (.rel 84 [.num (.wrap .i64 (.v 0 0)), .num (.v 0 1)] 65559 [.int .i64, .int .u64]) <|
     .ok [.num (.v 65559 0), .num (.v 65559 1), .tru (.le (.n 0) (.n 0))])
    (.f (.npre 84 [.num (.wrap .i64 (.v 0 0)), .num (.v 0 1)]) <|
     .bad))
   (.f (.is (.lt (.v 0 0) (.n 9223372036854775808)) false) <|
    .br (.f (.is (.eq (.v 0 0) (.n 9223372036854775808)) true) <|
     .br (.f (.is (.eq (.v 0 1) (.n 0)) true) <|
      .br (.f (.rel 84 [.num (.wrap .i64 (.v 0 0)), .num (.v 0 1)] 65559 [.int .i64, .int .u64]) <|
       .ok [.num (.v 65559 0), .num (.v 65559 1), .tru (.le (.n 0) (.n 0))])
      (.f (.npre 84 [.num (.wrap .i64 (.v 0 0)), .num (.v 0 1)]) <|
       .bad))
     (.f (.is (.eq (.v 0 1) (.n 0)) false) <|
      .ok [.num (.n 0), .num (.n 0), .tru (.lt (.n 0) (.n 0))]))
    (.f (.is (.eq (.v 0 0) (.n 9223372036854775808)) false) <|
     .ok [.num (.n 0), .num (.n 0), .tru (.lt (.n 0) (.n 0))])))
  (.f (.is (.v 0 2) false) <|
   .br (.f (.is (.lt (.v 0 0) (.n 9223372036854775808)) true) <|
    .ok [.num (.wrap .i64 (.v 0 0)), .num (.v 0 1), .tru (.le (.n 0) (.n 0))])
   (.f (.is (.lt (.v 0 0) (.n 9223372036854775808)) false) <|
    .ok [.num (.n 0), .num (.n 0), .tru (.lt (.n 0) (.n 0))]))
theorem c82 : ConS Tryz.prog T C82 := con_tr (cs := [C84]) (lcs := []) (known := []) (cons_cons c84 (cons_nil _ _)) (Known.nil _) (N := 400) (d := 40) (t := t82) (by kernel_rfl) <| by
  intro E hl hp
  clear hl
  have hp := hp rfl
  simp only [C82, show T.pre 82 = Q82 from rfl, flatS, SP.flat, dvs, List.append_nil, List.cons_append, List.nil_append, Q82, U64, U32, I64, Big, W, wv, s64, WT, PR, MR] at hp
  simp only [t82, C82, Tr.good, Fact.den, LX.den, DX.ls, DV.ls, DX.den, Bx.den, Ex.den, EO.den, dvs, flatS, SP.flat, ST.flat, List.map_cons, List.map_nil, List.append_nil, List.cons_append, List.nil_append, ltb_t, ltb_f, leb_t, leb_f, eqb_t, eqb_f, decide_eq_true_eq, decide_eq_false_iff_not, Bool.not_eq_true', Bool.not_eq_false', Bool.and_eq_true, Bool.and_eq_false_imp, beq_iff_eq, beq_eq_false_iff_ne, bne_iff_ne, U64, U32, I64, Big, W, wv, Told, s64, WT, PR, MR, Int.zero_mul, Int.zero_add, Int.add_zero, Int.mul_zero, IntKind.wrap_u64, IntKind.wrap_i64, IntKind.wrap_u32, ne_eq, forall_const, true_implies, show T.rel 82 = R82 from rfl, R82, show T.rel 84 = R84 from rfl, R84, show T.pre 82 = Q82 from rfl, Q82, show T.pre 84 = Q84 from rfl, Q84]
  revert hp
  generalize (E.r 0).i 0 = hi
  generalize (E.r 0).i 1 = lo
  generalize (E.r 0).c 2 = below
  generalize (E.r 65559).i 0 = x23_0
  generalize (E.r 65559).i 1 = x23_1
  try simp only [ltb, leb, eqb, Int.lt_irrefl, decide_false, Int.le_refl, decide_true]
  repeat' (first | intro _ | refine And.intro ?_ ?_ | refine Iff.intro ?_ ?_)
  all_goals first | omega | (simp_all; done) | (simp_all; omega)
end Go.Proofs.YtafhkgicekddlaaGreatDoor.Fn
namespace Go.Proofs.YtafhkgicekddlaaGreatDoor.Fn
open Go Go.RowKit Go.Proofs.YtafhkgicekddlaaGreatDoor.Sy
set_option linter.unusedVariables false
set_option linter.unusedSimpArgs false
set_option maxRecDepth 100000
def t47 : Tr :=
  .br (.f (.rel 79 [.num (.v 0 0), .num (.v 0 1)] 65540 [.int .u64, .int .u64]) <|
   .br (.f (.rel 54 [.num (.v 0 2)] 65547 [.int .i64, .int .u64]) <|
    .br (.f (.rel 79 [.num (.v 65547 0), .num (.v 65547 1)] 65548 [.int .u64, .int .u64]) <|
     .br (.f (.rel 80 [.num (.v 65540 0), .num (.v 65548 1)] 65556 [.int .u64, .int .u64]) <|
      .br (.f (.rel 80 [.num (.v 65540 1), .num (.v 65548 1)] 65564 [.int .u64, .int .u64]) <|
       .br (.f (.rel 81 [.num (.v 65556 1), .num (.v 65564 0), .num (.n 0)] 65572 [.int .u64, .int .u64]) <|
        .br (.f (.is (.eq (.v 65556 0) (.n 0)) false) <|
         .ok [.num (.n 0), .num (.n 0), .tru (.lt (.n 0) (.n 0))])
        (.f (.is (.eq (.v 65556 0) (.n 0)) true) <|
         .br (.f (.is (.eq (.v 65572 1) (.n 0)) false) <|
          .ok [.num (.n 0), .num (.n 0), .tru (.lt (.n 0) (.n 0))])
         (.f (.is (.eq (.v 65572 1) (.n 0)) true) <|
          .br (.f (.rel 82 [.num (.v 65572 0), .num (.v 65564 1), .tru (.not (.beq (.lt (.v 0 0) (.n 0)) (.lt (.v 0 2) (.n 0))))] 65592 [.int .i64, .int .u64, .bool]) <|
           .ok [.num (.v 65592 0), .num (.v 65592 1), .tru (.v 65592 2)])
          (.f (.npre 82 [.num (.v 65572 0), .num (.v 65564 1), .tru (.not (.beq (.lt (.v 0 0) (.n 0)) (.lt (.v 0 2) (.n 0))))]) <|
           .bad))))
       (.f (.npre 81 [.num (.v 65556 1), .num (.v 65564 0), .num (.n 0)]) <|
        .bad))
      (.f (.npre 80 [.num (.v 65540 1), .num (.v 65548 1)]) <|
       .bad))
     (.f (.npre 80 [.num (.v 65540 0), .num (.v 65548 1)]) <|
      .bad))
    (.f (.npre 79 [.num (.v 65547 0), .num (.v 65547 1)]) <|
     .bad))
   (.f (.npre 54 [.num (.v 0 2)]) <|
    .bad))
  (.f (.npre 79 [.num (.v 0 0), .num (.v 0 1)]) <|
   .bad)
theorem c47 : ConS Tryz.prog T C47 := con_tr (cs := [C54, C79, C80, C81, C82]) (lcs := []) (known := []) (cons_cons c54 (cons_cons c79 (cons_cons c80 (cons_cons c81 (cons_cons c82 (cons_nil _ _)))))) (Known.nil _) (N := 400) (d := 40) (t := t47) (by kernel_rfl) <| by
  intro E hl hp
  clear hl
  have hp := hp rfl
  simp only [C47, show T.pre 47 = Q47 from rfl, flatS, SP.flat, dvs, List.append_nil, List.cons_append, List.nil_append, Q47, U64, U32, I64, Big, W, wv, s64, WT, PR, MR] at hp
  simp only [t47, C47, Tr.good, Fact.den, LX.den, DX.ls, DV.ls, DX.den, Bx.den, Ex.den, EO.den, dvs, flatS, SP.flat, ST.flat, List.map_cons, List.map_nil, List.append_nil, List.cons_append, List.nil_append, ltb_t, ltb_f, leb_t, leb_f, eqb_t, eqb_f, decide_eq_true_eq, decide_eq_false_iff_not, Bool.not_eq_true', Bool.not_eq_false', Bool.and_eq_true, Bool.and_eq_false_imp, beq_iff_eq, beq_eq_false_iff_ne, bne_iff_ne, U64, U32, I64, Big, W, wv, Told, s64, WT, PR, MR, Int.zero_mul, Int.zero_add, Int.add_zero, Int.mul_zero, IntKind.wrap_u64, IntKind.wrap_i64, IntKind.wrap_u32, ne_eq, forall_const, true_implies, show T.rel 47 = R47 from rfl, R47, show T.rel 54 = R54 from rfl, R54, show T.rel 79 = R79 from rfl, R79, show T.rel 80 = R80 from rfl, R80, show T.rel 81 = R81 from rfl, R81, show T.rel 82 = R82 from rfl, R82, show T.pre 47 = Q47 from rfl, Q47, show T.pre 54 = Q54 from rfl, Q54, show T.pre 79 = Q79 from rfl, Q79, show T.pre 80 = Q80 from rfl, Q80, show T.pre 81 = Q81 from rfl, Q81, show T.pre 82 = Q82 from rfl, Q82]
  revert hp
  generalize (E.r 0).i 0 = h
  generalize (E.r 0).i 1 = l
  generalize (E.r 0).i 2 = b
  generalize (E.r 65540).i 0 = x4_0
  generalize (E.r 65540).i 1 = x4_1
  generalize (E.r 65547).i 0 = x11_0
  generalize (E.r 65547).i 1 = x11_1
  generalize (E.r 65548).i 0 = x12_0
  generalize (E.r 65548).i 1 = x12_1
  generalize (E.r 65556).i 0 = x20_0
  generalize (E.r 65556).i 1 = x20_1
  generalize (E.r 65564).i 0 = x28_0
  generalize (E.r 65564).i 1 = x28_1
  generalize (E.r 65572).i 0 = x36_0
  generalize (E.r 65572).i 1 = x36_1
  generalize (E.r 65592).i 0 = x56_0
  generalize (E.r 65592).i 1 = x56_1
  generalize (E.r 65592).c 2 = x56_2
  try simp only [ltb, leb, eqb, Int.lt_irrefl, decide_false, Int.le_refl, decide_true]
  intro hp
  refine ⟨fun f1 => ⟨fun f2 => ⟨fun f3 => ⟨fun f4 => ⟨fun f5 => ⟨fun f6 => ?_, ?_⟩, ?_⟩, ?_⟩, ?_⟩, ?_⟩, ?_⟩
  · have n0 : x12_0 = 0 := by omega
    have hs := mul_sign (v := h * 18446744073709551616 + l) (b := b) (m0 := x4_0) (m1 := x4_1) (n := x12_1) (by omega) (by omega) (by omega) (by omega)
    generalize (h * 18446744073709551616 + l) * b = z at *
    generalize x4_0 * x12_1 = H at *
    generalize x4_1 * x12_1 = L at *
    by_cases s1 : h < 0 <;> by_cases s2 : b < 0 <;> simp only [s1, s2, decide_true, decide_false, not_true_eq_false, false_imp_iff, true_imp_iff, true_and, and_true, not_false_eq_true, reduceCtorEq]
    all_goals cases x56_2 <;> simp only [false_imp_iff, true_imp_iff, true_and, and_true, reduceCtorEq] <;> omega
  all_goals try simp only [true_and]
  all_goals omega
end Go.Proofs.YtafhkgicekddlaaGreatDoor.Fn
namespace Go.Proofs.YtafhkgicekddlaaGreatDoor.Fn
open Go Go.RowKit Go.Proofs.YtafhkgicekddlaaGreatDoor.Sy
set_option linter.unusedVariables false
set_option linter.unusedSimpArgs false
set_option maxRecDepth 100000
def t50 : Tr :=
  .br (.f (.rel 81 [.num (.v 0 1), .num (.v 0 3), .num (.n 0)] 65544 [.int .u64, .int .u64]) <|
   .br (.f (.rel 81 [.num (.wrap .u64 (.v 0 0)), .num (.wrap .u64 (.v 0 2)), .num (.v 65544 1)] 65557 [.int .u64, .int .u64]) <|
    .br (.f (.is (.beq (.lt (.v 0 0) (.n 0)) (.lt (.v 0 2) (.n 0))) true) <|
     .br (.f (.is (.beq (.lt (.v 0 0) (.n 0)) (.lt (.wrap .i64 (.v 65557 0)) (.n 0))) false) <|
      .ok [.num (.n 0), .num (.n 0), .tru (.lt (.n 0) (.n 0))])
     (.f (.is (.beq (.lt (.v 0 0) (.n 0)) (.lt (.wrap .i64 (.v 65557 0)) (.n 0))) true) <|
      .ok [.num (.wrap .i64 (.v 65557 0)), .num (.v 65544 0), .tru (.le (.n 0) (.n 0))]))
    (.f (.is (.beq (.lt (.v 0 0) (.n 0)) (.lt (.v 0 2) (.n 0))) false) <|
     .ok [.num (.wrap .i64 (.v 65557 0)), .num (.v 65544 0), .tru (.le (.n 0) (.n 0))]))
   (.f (.npre 81 [.num (.wrap .u64 (.v 0 0)), .num (.wrap .u64 (.v 0 2)), .num (.v 65544 1)]) <|
    .bad))
  (.f (.npre 81 [.num (.v 0 1), .num (.v 0 3), .num (.n 0)]) <|
   .bad)
theorem c50 : ConS Tryz.prog T C50 := con_tr (cs := [C81]) (lcs := []) (known := []) (cons_cons c81 (cons_nil _ _)) (Known.nil _) (N := 400) (d := 40) (t := t50) (by kernel_rfl) <| by
  intro E hl hp
  clear hl
  have hp := hp rfl
  simp only [C50, show T.pre 50 = Q50 from rfl, flatS, SP.flat, dvs, List.append_nil, List.cons_append, List.nil_append, Q50, U64, U32, I64, Big, W, wv, s64, WT, PR, MR] at hp
  simp only [t50, C50, Tr.good, Fact.den, LX.den, DX.ls, DV.ls, DX.den, Bx.den, Ex.den, EO.den, dvs, flatS, SP.flat, ST.flat, List.map_cons, List.map_nil, List.append_nil, List.cons_append, List.nil_append, ltb_t, ltb_f, leb_t, leb_f, eqb_t, eqb_f, decide_eq_true_eq, decide_eq_false_iff_not, Bool.not_eq_true', Bool.not_eq_false', Bool.and_eq_true, Bool.and_eq_false_imp, beq_iff_eq, beq_eq_false_iff_ne, bne_iff_ne, U64, U32, I64, Big, W, wv, Told, s64, WT, PR, MR, Int.zero_mul, Int.zero_add, Int.add_zero, Int.mul_zero, IntKind.wrap_u64, IntKind.wrap_i64, IntKind.wrap_u32, ne_eq, forall_const, true_implies, show T.rel 50 = R50 from rfl, R50, show T.rel 81 = R81 from rfl, R81, show T.pre 50 = Q50 from rfl, Q50, show T.pre 81 = Q81 from rfl, Q81]
  revert hp
  generalize (E.r 0).i 0 = ah
  generalize (E.r 0).i 1 = al
  generalize (E.r 0).i 2 = bh
  generalize (E.r 0).i 3 = bl
  generalize (E.r 65544).i 0 = x8_0
  generalize (E.r 65544).i 1 = x8_1
  generalize (E.r 65557).i 0 = x21_0
  generalize (E.r 65557).i 1 = x21_1
  try simp only [ltb, leb, eqb, Int.lt_irrefl, decide_false, Int.le_refl, decide_true]
  repeat' (first | intro _ | refine And.intro ?_ ?_ | refine Iff.intro ?_ ?_)
  all_goals first | omega | (simp_all; done) | (simp_all; omega)
end Go.Proofs.YtafhkgicekddlaaGreatDoor.Fn
namespace Go.Proofs.YtafhkgicekddlaaGreatDoor.Fn
open Go Go.RowKit Go.Proofs.YtafhkgicekddlaaGreatDoor.Sy
set_option linter.unusedVariables false
set_option linter.unusedSimpArgs false
set_option maxRecDepth 100000
def t85 : Tr :=
  .ok [.num (.n 0), .num (.v 0 0)]
theorem c85 : ConS Tryz.prog T C85 := con_tr (cs := []) (lcs := []) (known := []) (cons_nil _ _) (Known.nil _) (N := 400) (d := 40) (t := t85) (by kernel_rfl) <| by
  intro E hl hp
  clear hl
  clear hp
  simp only [t85, C85, Tr.good, Fact.den, LX.den, DX.ls, DV.ls, DX.den, Bx.den, Ex.den, EO.den, dvs, flatS, SP.flat, ST.flat, List.map_cons, List.map_nil, List.append_nil, List.cons_append, List.nil_append, ltb_t, ltb_f, leb_t, leb_f, eqb_t, eqb_f, decide_eq_true_eq, decide_eq_false_iff_not, Bool.not_eq_true', Bool.not_eq_false', Bool.and_eq_true, Bool.and_eq_false_imp, beq_iff_eq, beq_eq_false_iff_ne, bne_iff_ne, U64, U32, I64, Big, W, wv, Told, s64, WT, PR, MR, Int.zero_mul, Int.zero_add, Int.add_zero, Int.mul_zero, IntKind.wrap_u64, IntKind.wrap_i64, IntKind.wrap_u32, ne_eq, forall_const, true_implies, show T.rel 85 = R85 from rfl, R85]
  generalize (E.r 0).i 0 = x
  try simp only [ltb, leb, eqb, Int.lt_irrefl, decide_false, Int.le_refl, decide_true]
  repeat' (first | intro _ | refine And.intro ?_ ?_ | refine Iff.intro ?_ ?_)
  all_goals first | omega | (simp_all; done) | (simp_all; omega)
end Go.Proofs.YtafhkgicekddlaaGreatDoor.Fn
namespace Go.Proofs.YtafhkgicekddlaaGreatDoor.Fn
open Go Go.RowKit Go.Proofs.YtafhkgicekddlaaGreatDoor.Sy
set_option linter.unusedVariables false
set_option linter.unusedSimpArgs false
set_option maxRecDepth 100000
def t49 : Tr :=
  .f (.rel 85 [.num (.wrap .u64 (.v 0 2))] 65541 [.int .i64, .int .u64]) <|
   .f (.rel 10 [.num (.v 0 0), .num (.v 0 3)] 65545 [.int .i64]) <|
    .br (.f (.rel 47 [.num (.v 65541 0), .num (.v 65541 1), .num (.v 65545 0)] 65546 [.int .i64, .int .u64, .bool]) <|
     .f (.rel 85 [.num (.wrap .u64 (.v 0 1))] 65557 [.int .i64, .int .u64]) <|
      .br (.f (.rel 50 [.num (.v 65546 0), .num (.v 65546 1), .num (.v 65557 0), .num (.v 65557 1)] 65558 [.int .i64, .int .u64, .bool]) <|
       .ok [.num (.v 65558 0), .num (.v 65558 1)])
      (.f (.npre 50 [.num (.v 65546 0), .num (.v 65546 1), .num (.v 65557 0), .num (.v 65557 1)]) <|
       .bad))
    (.f (.npre 47 [.num (.v 65541 0), .num (.v 65541 1), .num (.v 65545 0)]) <|
     .bad)
theorem c49 : ConS Tryz.prog T C49 := con_tr (cs := [C10, C47, C50, C85]) (lcs := []) (known := []) (cons_cons c10 (cons_cons c47 (cons_cons c50 (cons_cons c85 (cons_nil _ _))))) (Known.nil _) (N := 400) (d := 40) (t := t49) (by kernel_rfl) <| by
  intro E hl hp
  clear hl
  have hp := hp rfl
  simp only [C49, show T.pre 49 = Q49 from rfl, flatS, SP.flat, dvs, List.append_nil, List.cons_append, List.nil_append, Q49, U64, U32, I64, Big, W, wv, s64, WT, PR, MR] at hp
  simp only [t49, C49, Tr.good, Fact.den, LX.den, DX.ls, DV.ls, DX.den, Bx.den, Ex.den, EO.den, dvs, flatS, SP.flat, ST.flat, List.map_cons, List.map_nil, List.append_nil, List.cons_append, List.nil_append, ltb_t, ltb_f, leb_t, leb_f, eqb_t, eqb_f, decide_eq_true_eq, decide_eq_false_iff_not, Bool.not_eq_true', Bool.not_eq_false', Bool.and_eq_true, Bool.and_eq_false_imp, beq_iff_eq, beq_eq_false_iff_ne, bne_iff_ne, U64, U32, I64, Big, W, wv, Told, s64, WT, PR, MR, Int.zero_mul, Int.zero_add, Int.add_zero, Int.mul_zero, IntKind.wrap_u64, IntKind.wrap_i64, IntKind.wrap_u32, ne_eq, forall_const, true_implies, show T.rel 10 = R10 from rfl, R10, show T.rel 47 = R47 from rfl, R47, show T.rel 49 = R49 from rfl, R49, show T.rel 50 = R50 from rfl, R50, show T.rel 85 = R85 from rfl, R85, show T.pre 47 = Q47 from rfl, Q47, show T.pre 49 = Q49 from rfl, Q49, show T.pre 50 = Q50 from rfl, Q50]
  revert hp
  generalize (E.r 0).i 0 = t
  generalize (E.r 0).i 1 = r
  generalize (E.r 0).i 2 = w
  generalize (E.r 0).i 3 = base
  generalize (E.r 65541).i 0 = x5_0
  generalize (E.r 65541).i 1 = x5_1
  generalize (E.r 65545).i 0 = x9_0
  generalize (E.r 65546).i 0 = x10_0
  generalize (E.r 65546).i 1 = x10_1
  generalize (E.r 65546).c 2 = x10_2
  generalize (E.r 65557).i 0 = x21_0
  generalize (E.r 65557).i 1 = x21_1
  generalize (E.r 65558).i 0 = x22_0
  generalize (E.r 65558).i 1 = x22_1
  generalize (E.r 65558).c 2 = x22_2
  try simp only [ltb, leb, eqb, Int.lt_irrefl, decide_false, Int.le_refl, decide_true]
  intro hp
  have e1 : w % 18446744073709551616 = w := by omega
  have e2 : r % 18446744073709551616 = r := by omega
  simp only [e1, e2]
  have s := mul_abs (w := w) (s := (t - base + 9223372036854775808) % 18446744073709551616 - 9223372036854775808) (A := 4294967295) (by omega) (by omega) (by omega) (by omega)
  rintro ⟨rfl, rfl⟩ rfl
  simp only [Int.zero_mul, Int.zero_add]
  cases x10_2 <;> cases x22_2 <;> simp only [reduceCtorEq, false_imp_iff, true_imp_iff, true_and, and_true]
  all_goals generalize hz : x5_1 * ((t - base + 9223372036854775808) % 18446744073709551616 - 9223372036854775808) = z at *
  repeat' (first | intro _ | refine And.intro ?_ ?_ | refine Iff.intro ?_ ?_)
  all_goals first | omega | (simp_all; done) | (simp_all; omega)
end Go.Proofs.YtafhkgicekddlaaGreatDoor.Fn
namespace Go.Proofs.YtafhkgicekddlaaGreatDoor.Fn
open Go Go.RowKit Go.Proofs.YtafhkgicekddlaaGreatDoor.Sy
set_option linter.unusedVariables false
set_option linter.unusedSimpArgs false
set_option maxRecDepth 100000
def t45 : Tr :=
  .br (.f (.rel 46 [.num (.v 0 0), .num (.v 0 1), .num (.v 0 2), .num (.v 0 3), .num (.v 0 4)] 65541 [.bool]) <|
   .br (.f (.is (.v 65541 0) false) <|
    .ok [.num (.n 0), .num (.n 0), .num (.n 0), .num (.n 0), .num (.n 0), .tru (.lt (.n 0) (.n 0))])
   (.f (.is (.v 65541 0) true) <|
    .f (.rel 11 [.num (.v 0 5), .num (.v 0 6), .num (.v 0 7)] 65545 [.bool]) <|
     .br (.f (.is (.v 65545 0) false) <|
      .ok [.num (.n 0), .num (.n 0), .num (.n 0), .num (.n 0), .num (.n 0), .tru (.lt (.n 0) (.n 0))])
     (.f (.is (.v 65545 0) true) <|
      .br (.f (.is (.eq (.v 0 4) (.n 32)) true) <|
       .ok [.num (.n 0), .num (.n 0), .num (.n 0), .num (.n 0), .num (.n 0), .tru (.lt (.n 0) (.n 0))])
      (.f (.is (.eq (.v 0 4) (.n 32)) false) <|
       .br (.f (.rel 49 [.num (.v 0 5), .num (.v 0 6), .num (.v 0 7), .num (.v 0 0)] 65558 [.int .i64, .int .u64]) <|
        .br (.f (.rel 50 [.num (.v 0 1), .num (.v 0 2), .num (.v 65558 0), .num (.v 65558 1)] 65559 [.int .i64, .int .u64, .bool]) <|
         .br (.f (.is (.v 65559 2) false) <|
          .ok [.num (.n 0), .num (.n 0), .num (.n 0), .num (.n 0), .num (.n 0), .tru (.lt (.n 0) (.n 0))])
         (.f (.is (.v 65559 2) true) <|
          .ok [.num (.v 0 0), .num (.v 65559 0), .num (.v 65559 1), .num (.wrap .u64 (.bin .add (.v 0 3) (.wrap .u64 (.v 0 7)))), .num (.wrap .i64 (.bin .add (.v 0 4) (.n 1))), .tru (.le (.n 0) (.n 0))]))
        (.f (.npre 50 [.num (.v 0 1), .num (.v 0 2), .num (.v 65558 0), .num (.v 65558 1)]) <|
         .bad))
       (.f (.npre 49 [.num (.v 0 5), .num (.v 0 6), .num (.v 0 7), .num (.v 0 0)]) <|
        .bad)))))
  (.f (.npre 46 [.num (.v 0 0), .num (.v 0 1), .num (.v 0 2), .num (.v 0 3), .num (.v 0 4)]) <|
   .bad)
theorem c45 : ConS Tryz.prog T C45 := con_tr (cs := [C11, C46, C49, C50]) (lcs := []) (known := []) (cons_cons c11 (cons_cons c46 (cons_cons c49 (cons_cons c50 (cons_nil _ _))))) (Known.nil _) (N := 400) (d := 40) (t := t45) (by kernel_rfl) <| by
  intro E hl hp
  clear hl
  have hp := hp rfl
  simp only [C45, show T.pre 45 = Q45 from rfl, flatS, SP.flat, dvs, List.append_nil, List.cons_append, List.nil_append, Q45, U64, U32, I64, Big, W, wv, s64, WT, PR, MR] at hp
  simp only [t45, C45, Tr.good, Fact.den, LX.den, DX.ls, DV.ls, DX.den, Bx.den, Ex.den, EO.den, dvs, flatS, SP.flat, ST.flat, List.map_cons, List.map_nil, List.append_nil, List.cons_append, List.nil_append, ltb_t, ltb_f, leb_t, leb_f, eqb_t, eqb_f, decide_eq_true_eq, decide_eq_false_iff_not, Bool.not_eq_true', Bool.not_eq_false', Bool.and_eq_true, Bool.and_eq_false_imp, beq_iff_eq, beq_eq_false_iff_ne, bne_iff_ne, U64, U32, I64, Big, W, wv, Told, s64, WT, PR, MR, Int.zero_mul, Int.zero_add, Int.add_zero, Int.mul_zero, IntKind.wrap_u64, IntKind.wrap_i64, IntKind.wrap_u32, ne_eq, forall_const, true_implies, show T.rel 11 = R11 from rfl, R11, show T.rel 45 = R45 from rfl, R45, show T.rel 46 = R46 from rfl, R46, show T.rel 49 = R49 from rfl, R49, show T.rel 50 = R50 from rfl, R50, show T.pre 45 = Q45 from rfl, Q45, show T.pre 46 = Q46 from rfl, Q46, show T.pre 49 = Q49 from rfl, Q49, show T.pre 50 = Q50 from rfl, Q50]
  revert hp
  generalize (E.r 0).i 0 = b
  generalize (E.r 0).i 1 = h
  generalize (E.r 0).i 2 = l
  generalize (E.r 0).i 3 = w
  generalize (E.r 0).i 4 = n
  generalize (E.r 0).i 5 = t
  generalize (E.r 0).i 6 = r
  generalize (E.r 0).i 7 = v
  generalize (E.r 65541).c 0 = x5_0
  generalize (E.r 65545).c 0 = x9_0
  generalize (E.r 65558).i 0 = x22_0
  generalize (E.r 65558).i 1 = x22_1
  generalize (E.r 65559).i 0 = x23_0
  generalize (E.r 65559).i 1 = x23_1
  generalize (E.r 65559).c 2 = x23_2
  try simp only [ltb, leb, eqb, Int.lt_irrefl, decide_false, Int.le_refl, decide_true]
  repeat' (first | intro _ | refine And.intro ?_ ?_ | refine Iff.intro ?_ ?_)
  all_goals first | omega | (simp_all; done) | (simp_all; omega)
end Go.Proofs.YtafhkgicekddlaaGreatDoor.Fn
namespace Go.Proofs.YtafhkgicekddlaaGreatDoor.Fn
open Go Go.RowKit Go.Proofs.YtafhkgicekddlaaGreatDoor.Sy
set_option linter.unusedVariables false
set_option linter.unusedSimpArgs false
set_option maxRecDepth 100000
def t12 : Tr :=
  .br (.f (.rel 101203 [.num (.v 0 0), .lst 0 1, .num (.n 0), .num (.v 0 0), .num (.n 0), .num (.n 0), .num (.n 0), .num (.n 0)] 65545 [.int .i64, .int .u64, .int .i64, .int .u64, .int .u64, .int .i64]) <|
   .br (.f (.is (.lt (.v 65545 0) (.len 0 1)) true) <|
    .br (.f (.is (.lt (.v 65545 0) (.n 0)) false) <|
     .br (.f (.rel 45 [.num (.v 65545 1), .num (.v 65545 2), .num (.v 65545 3), .num (.v 65545 4), .num (.v 65545 5), .num (.at 0 1 (.v 65545 0) 0), .num (.at 0 1 (.v 65545 0) 1), .num (.at 0 1 (.v 65545 0) 2)] 65553 [.int .u64, .int .i64, .int .u64, .int .u64, .int .i64, .bool]) <|
      .br (.f (.is (.v 65553 5) false) <|
       .ok [.num (.n 0), .num (.n 0), .num (.n 0), .num (.n 0), .num (.n 0), .tru (.lt (.n 0) (.n 0))])
      (.f (.is (.v 65553 5) true) <|
       .br (.f (.nrel 101203 [.num (.v 0 0), .lst 0 1, .num (.n 0), .num (.v 0 0), .num (.n 0), .num (.n 0), .num (.n 0), .num (.n 0)] [.num (.wrap .i64 (.bin .add (.v 65545 0) (.n 1))), .num (.v 65553 0), .num (.v 65553 1), .num (.v 65553 2), .num (.v 65553 3), .num (.v 65553 4)]) <|
        .bad)
       (.f (.ndec 101203 [.num (.v 0 0), .lst 0 1, .num (.n 0), .num (.v 0 0), .num (.n 0), .num (.n 0), .num (.n 0), .num (.n 0)] [.num (.v 65545 0), .num (.v 65545 1), .num (.v 65545 2), .num (.v 65545 3), .num (.v 65545 4), .num (.v 65545 5)] [.num (.wrap .i64 (.bin .add (.v 65545 0) (.n 1))), .num (.v 65553 0), .num (.v 65553 1), .num (.v 65553 2), .num (.v 65553 3), .num (.v 65553 4)]) <|
        .bad)))
     (.f (.npre 45 [.num (.v 65545 1), .num (.v 65545 2), .num (.v 65545 3), .num (.v 65545 4), .num (.v 65545 5), .num (.at 0 1 (.v 65545 0) 0), .num (.at 0 1 (.v 65545 0) 1), .num (.at 0 1 (.v 65545 0) 2)]) <|
      .bad))
    (.f (.is (.lt (.v 65545 0) (.n 0)) true) <|
     .bad))
   (.f (.is (.lt (.v 65545 0) (.len 0 1)) false) <|
    .ok [.num (.v 65545 1), .num (.v 65545 2), .num (.v 65545 3), .num (.v 65545 4), .num (.v 65545 5), .tru (.le (.n 0) (.n 0))]))
  (.f (.nrel 101203 [.num (.v 0 0), .lst 0 1, .num (.n 0), .num (.v 0 0), .num (.n 0), .num (.n 0), .num (.n 0), .num (.n 0)] [.num (.n 0), .num (.v 0 0), .num (.n 0), .num (.n 0), .num (.n 0), .num (.n 0)]) <|
   .bad)
theorem c12 : ConS Tryz.prog T C12 := con_tr (cs := [C45]) (lcs := [L101203]) (known := []) (cons_cons c45 (cons_nil _ _)) (Known.nil _) (N := 400) (d := 40) (t := t12) (by kernel_rfl) <| by
  intro E hl hp
  have hl1 := hl 1 _ rfl
  clear hl
  have hp := hp rfl
  simp only [C12, show T.pre 12 = Q12 from rfl, flatS, SP.flat, dvs, List.append_nil, List.cons_append, List.nil_append, Q12, U64, U32, I64, s64, WT, PR] at hp
  simp only [t12, C12, Tr.good, Fact.den, LX.den, DX.ls, DV.ls, DX.den, Bx.den, Ex.den, EO.den, dvs, flatS, SP.flat, ST.flat, List.map_cons, List.map_nil, List.append_nil, List.cons_append, List.nil_append, ltb_t, ltb_f, leb_t, leb_f, eqb_t, eqb_f, decide_eq_true_eq, decide_eq_false_iff_not, Bool.not_eq_true', Bool.not_eq_false', Bool.and_eq_true, Bool.and_eq_false_imp, beq_iff_eq, beq_eq_false_iff_ne, bne_iff_ne, U64, U32, I64, Told, s64, WT, PR, Int.zero_mul, Int.zero_add, Int.add_zero, Int.mul_zero, IntKind.wrap_u64, IntKind.wrap_i64, IntKind.wrap_u32, ne_eq, forall_const, true_implies, show T.rel 12 = R12 from rfl, R12, show T.rel 45 = R45 from rfl, R45, show T.rel 101203 = R101203 from rfl, R101203, show T.mu 101203 = M101203 from rfl, M101203, show T.pre 12 = Q12 from rfl, Q12, show T.pre 45 = Q45 from rfl, Q45]
  revert hp hl1
  generalize (E.r 0).i 0 = b
  generalize (E.r 0).l 1 = xs
  generalize (E.r 65545).i 0 = x9_0
  generalize (E.r 65545).i 1 = x9_1
  generalize (E.r 65545).i 2 = x9_2
  generalize (E.r 65545).i 3 = x9_3
  generalize (E.r 65545).i 4 = x9_4
  generalize (E.r 65545).i 5 = x9_5
  generalize (E.r 65553).i 0 = x17_0
  generalize (E.r 65553).i 1 = x17_1
  generalize (E.r 65553).i 2 = x17_2
  generalize (E.r 65553).i 3 = x17_3
  generalize (E.r 65553).i 4 = x17_4
  generalize (E.r 65553).c 5 = x17_5
  try simp only [ltb, leb, eqb, Int.lt_irrefl, decide_false, Int.le_refl, decide_true]
  intro hl hk
  have W0 : W 0 0 := by omega
  refine ⟨fun ⟨l0, l1, l2, l3, l4, l5, l6, l7, l8⟩ => ?_, fun n => n ⟨trivial, by omega, by omega, trivial, W0, trivial, rfl, rfl, fun j hj => absurd hj (by simp)⟩⟩
  obtain ⟨k, rfl⟩ := Int.eq_ofNat_of_zero_le l0
  simp only [Int.toNat_natCast] at l6 l7 l8
  subst l3 l5 l6
  have sa := SA_le (b := x9_1) hk l8
  have sw := SW_le l8
  have kk := hk k
  have hm : MR x9_2 x9_3 (SW xs k) k := by
    cases k with
    | zero => simp only [SA, wv] at l7; exact Or.inl ⟨rfl, rfl, by omega, by omega⟩
    | succ k => right; omega
  refine ⟨fun hlt => ⟨fun h0 => ⟨fun ⟨f1, f2, f3⟩ => ?_, fun n => n ⟨l4, by omega, by omega, by omega, by omega⟩⟩, fun h => by omega⟩, fun hge => ?_⟩
  · have e : ((k : Int) + 1 + 9223372036854775808) % 18446744073709551616 - 9223372036854775808 = ((k + 1 : Nat) : Int) := by omega
    simp only [e, Int.toNat_natCast]
    have hS : AP xs (k + 1) ↔ AP xs k ∧ PR (Sy.rowAt xs k 1) (Sy.rowAt xs k 2) := AP.succ
    cases x17_5 with
    | true =>
      obtain ⟨g1, g2, g3, g4⟩ := f1.1 rfl
      obtain ⟨q1, q2, q3, q4, q5⟩ := f2 rfl
      have e1 : SW xs (k + 1) = SW xs k + Sy.rowAt xs k 2 := rfl
      have e2 : SA x9_1 xs (k + 1) = SA x9_1 xs k + rdist x9_1 xs k := rfl
      simp only [reduceCtorEq, false_imp_iff, true_imp_iff, true_and]
      refine ⟨fun n => n ⟨by omega, by omega, by omega, q1, q2, by omega, by omega, ?_, hS.2 ⟨l8, g2⟩⟩, by omega⟩
      rw [q3, e2, l7]
    | false =>
      simp only [reduceCtorEq, false_imp_iff, true_imp_iff, true_and, and_true, false_iff]
      rintro ⟨a1, a2⟩
      have hp := a2 k (by omega)
      have d := rdist_le (b := x9_1) hk hp
      simp only [rdist, s64] at d
      have := f1.2 ⟨hm, hp, by omega, by rw [l7]; omega⟩
      cases this
  · have ek : k = xs.length := by omega
    subst ek
    simp only [true_imp_iff, true_and, and_true, true_iff, false_imp_iff]
    exact ⟨⟨by omega, l8⟩, l4, l7⟩
end Go.Proofs.YtafhkgicekddlaaGreatDoor.Fn
namespace Go.Proofs.YtafhkgicekddlaaGreatDoor.Fn
open Go Go.RowKit Go.Proofs.YtafhkgicekddlaaGreatDoor.Sy
set_option linter.unusedVariables false
set_option linter.unusedSimpArgs false
set_option maxRecDepth 100000

set_option maxHeartbeats 4000000 in
set_option maxRecDepth 100000 in
theorem calls111 (x : Int) (w : World) (h0 : 0 ≤ x) (h1 : x ≤ 18446744073709551615) :
    Calls Tryz.prog 111 #[.int .u64 x] w fun e w' => e = .returned (.int .i64 (Lib.bitLen x.toNat)) ∧ w' = w := by
  go_enter Tryz.func111, Tryz.ntmps111
  go_wp2
  all_goals (go_ret; refine ⟨congrArg Ending.returned (congrArg (Value.int IntKind.i64) ?_), rfl⟩)
  all_goals first
    | (rw [Lib.len8_of (x / 4294967296 / 65536 / 256 % 256) (by omega) (by omega)]
       have e : (x / 4294967296 / 65536 / 256 % 256).toNat = x.toNat / 72057594037927936 := by omega
       have l := Lib.bitLen_le8' (x / 4294967296 / 65536 / 256 % 256) (by omega) (by omega)
       have s := Lib.bitLen_shift56 x.toNat (by omega) (by omega)
       rw [e] at l ⊢
       omega)
    | (rw [Lib.len8_of (x / 4294967296 / 65536 % 256) (by omega) (by omega)]
       have e : (x / 4294967296 / 65536 % 256).toNat = x.toNat / 281474976710656 := by omega
       have l := Lib.bitLen_le8' (x / 4294967296 / 65536 % 256) (by omega) (by omega)
       have s := Lib.bitLen_shift48 x.toNat (by omega) (by omega)
       rw [e] at l ⊢
       omega)
    | (rw [Lib.len8_of (x / 4294967296 / 256 % 256) (by omega) (by omega)]
       have e : (x / 4294967296 / 256 % 256).toNat = x.toNat / 1099511627776 := by omega
       have l := Lib.bitLen_le8' (x / 4294967296 / 256 % 256) (by omega) (by omega)
       have s := Lib.bitLen_shift40 x.toNat (by omega) (by omega)
       rw [e] at l ⊢
       omega)
    | (rw [Lib.len8_of (x / 4294967296 % 256) (by omega) (by omega)]
       have e : (x / 4294967296 % 256).toNat = x.toNat / 4294967296 := by omega
       have l := Lib.bitLen_le8' (x / 4294967296 % 256) (by omega) (by omega)
       have s := Lib.bitLen_shift32 x.toNat (by omega) (by omega)
       rw [e] at l ⊢
       omega)
    | (rw [Lib.len8_of (x / 65536 / 256 % 256) (by omega) (by omega)]
       have e : (x / 65536 / 256 % 256).toNat = x.toNat / 16777216 := by omega
       have l := Lib.bitLen_le8' (x / 65536 / 256 % 256) (by omega) (by omega)
       have s := Lib.bitLen_shift24 x.toNat (by omega) (by omega)
       rw [e] at l ⊢
       omega)
    | (rw [Lib.len8_of (x / 65536 % 256) (by omega) (by omega)]
       have e : (x / 65536 % 256).toNat = x.toNat / 65536 := by omega
       have l := Lib.bitLen_le8' (x / 65536 % 256) (by omega) (by omega)
       have s := Lib.bitLen_shift16 x.toNat (by omega) (by omega)
       rw [e] at l ⊢
       omega)
    | (rw [Lib.len8_of (x / 256 % 256) (by omega) (by omega)]
       have e : (x / 256 % 256).toNat = x.toNat / 256 := by omega
       have l := Lib.bitLen_le8' (x / 256 % 256) (by omega) (by omega)
       have s := Lib.bitLen_shift8 x.toNat (by omega) (by omega)
       rw [e] at l ⊢
       omega)
    | (rw [Lib.len8_of (x % 256) (by omega) (by omega)]
       have e : (x % 256).toNat = x.toNat := by omega
       have l := Lib.bitLen_le8' (x % 256) (by omega) (by omega)
       rw [e] at l ⊢
       omega)
theorem c111 : ConS Tryz.prog T C111 := by
  intro r w _ hp
  have hp : U64 (r.i 0) := hp rfl
  unfold Invoked
  rw [if_pos (by kernel_rfl)]
  refine (calls111 (r.i 0) w hp.1 (by have := hp.2; omega)).mono ?_
  rintro e w' ⟨rfl, rfl⟩
  exact ⟨⟨fun _ => (Lib.bitLen (r.i 0).toNat : Int), fun _ => false, fun _ => [], fun _ => none, fun _ => 0, fun _ => undef⟩, rfl, rfl, Below.refl _ _, fun j ks hj => by match j, hj with | 0, hj => cases hj | _ + 1, hj => cases hj⟩
end Go.Proofs.YtafhkgicekddlaaGreatDoor.Fn
namespace Go.Proofs.YtafhkgicekddlaaGreatDoor.Fn
open Go Go.RowKit Go.Proofs.YtafhkgicekddlaaGreatDoor.Sy
set_option linter.unusedVariables false
set_option linter.unusedSimpArgs false
set_option maxRecDepth 100000
def t100 : Tr :=
  .br (.f (.rel 111 [.num (.v 0 0)] 65538 [.int .i64]) <|
   .ok [.num (.wrap .i64 (.bin .sub (.n 64) (.v 65538 0)))])
  (.f (.npre 111 [.num (.v 0 0)]) <|
   .bad)
theorem c100 : ConS Tryz.prog T C100 := con_tr (cs := [C111]) (lcs := []) (known := []) (cons_cons c111 (cons_nil _ _)) (Known.nil _) (N := 400) (d := 40) (t := t100) (by kernel_rfl) <| by
  intro E hl hp
  clear hl
  have hp := hp rfl
  simp only [C100, show T.pre 100 = Q100 from rfl, flatS, SP.flat, dvs, List.append_nil, List.cons_append, List.nil_append, Q100, U64, U32, I64, Big, W, wv, s64, WT, PR, MR] at hp
  simp only [t100, C100, Tr.good, Fact.den, LX.den, DX.ls, DV.ls, DX.den, Bx.den, Ex.den, EO.den, dvs, flatS, SP.flat, ST.flat, List.map_cons, List.map_nil, List.append_nil, List.cons_append, List.nil_append, ltb_t, ltb_f, leb_t, leb_f, eqb_t, eqb_f, decide_eq_true_eq, decide_eq_false_iff_not, Bool.not_eq_true', Bool.not_eq_false', Bool.and_eq_true, Bool.and_eq_false_imp, beq_iff_eq, beq_eq_false_iff_ne, bne_iff_ne, U64, U32, I64, Big, W, wv, Told, s64, WT, PR, MR, Int.zero_mul, Int.zero_add, Int.add_zero, Int.mul_zero, IntKind.wrap_u64, IntKind.wrap_i64, IntKind.wrap_u32, ne_eq, forall_const, true_implies, show T.rel 100 = R100 from rfl, R100, show T.rel 111 = R111 from rfl, R111, show T.pre 100 = Q100 from rfl, Q100, show T.pre 111 = Q111 from rfl, Q111]
  revert hp
  generalize (E.r 0).i 0 = x
  generalize (E.r 65538).i 0 = x2_0
  try simp only [ltb, leb, eqb, Int.lt_irrefl, decide_false, Int.le_refl, decide_true]
  intro hp
  refine ⟨fun h => ?_, fun h => h hp⟩
  have := Lib.bitLen_le x.toNat 64 (by omega) (by omega)
  omega
end Go.Proofs.YtafhkgicekddlaaGreatDoor.Fn
