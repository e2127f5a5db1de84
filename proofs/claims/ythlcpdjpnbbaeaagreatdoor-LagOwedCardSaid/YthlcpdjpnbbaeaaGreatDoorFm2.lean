/- What is told of the functions, shown: (turnstone/mean.Mean).Right, math/bits.Add64, (turnstone/wide.Int).Add, turnstone/wide.Of, math/bits.Sub64, (turnstone/wide.Int).flip, (turnstone/wide.Int).size, math/bits.Mul64, turnstone/wide.signed, (turnstone/wide.Int).Mul, turnstone/wide.OfU, (turnstone/pos.Pos).Distance, (turnstone/mean.Mean).Add, turnstone/mean.Of, slices.Equal[[]int,int], (turnstone/wide.Int).Cmp, (turnstone/wide.Int).Sign. -/
import Derived.Test.YthlcpdjpnbbaeaaGreatDoorFm1
namespace Go.Proofs.YthlcpdjpnbbaeaaGreatDoor.Fn
open Go Go.RowKit Go.Proofs.YthlcpdjpnbbaeaaGreatDoor.Sy
set_option linter.unusedVariables false
set_option linter.unusedSimpArgs false
set_option maxRecDepth 100000
def t56 : Tr :=
  .br (.f (.is (.eq (.v 0 4) (.n 0)) true) <|
   .br (.f (.is (.eq (.v 0 3) (.n 0)) true) <|
    .ok [.tru (.and (.eq (.v 0 1) (.n 0)) (.and (.eq (.v 0 2) (.n 0)) (.le (.n 0) (.n 0))))])
   (.f (.is (.eq (.v 0 3) (.n 0)) false) <|
    .ok [.tru (.lt (.n 0) (.n 0))]))
  (.f (.is (.eq (.v 0 4) (.n 0)) false) <|
   .br (.f (.is (.lt (.n 0) (.v 0 4)) true) <|
    .br (.f (.is (.le (.v 0 4) (.n 32)) true) <|
     .br (.f (.is (.le (.wrap .u64 (.v 0 4)) (.v 0 3)) true) <|
      .ok [.tru (.le (.v 0 3) (.wrap .u64 (.bin .mul (.wrap .u64 (.v 0 4)) (.n 1048576))))])
     (.f (.is (.le (.wrap .u64 (.v 0 4)) (.v 0 3)) false) <|
      .ok [.tru (.lt (.n 0) (.n 0))]))
    (.f (.is (.le (.v 0 4) (.n 32)) false) <|
     .ok [.tru (.lt (.n 0) (.n 0))]))
   (.f (.is (.lt (.n 0) (.v 0 4)) false) <|
    .ok [.tru (.lt (.n 0) (.n 0))]))
theorem c56 : ConS Tryz.prog T C56 := con_tr (cs := []) (lcs := []) (known := []) (cons_nil _ _) (Known.nil _) (N := 400) (d := 40) (t := t56) (by kernel_rfl) <| by
  intro E hl hp
  clear hl
  have hp := hp rfl
  simp only [C56, show T.pre 56 = Q56 from rfl, flatS, SP.flat, dvs, List.append_nil, List.cons_append, List.nil_append, Q56, U64, U32, I64, Big, W, wv, s64, WT, PR, MR, MB] at hp
  simp only [t56, C56, Tr.good, Fact.den, LX.den, DX.ls, DV.ls, DX.den, Bx.den, Ex.den, eo_add, eo_sub, eo_mul, eo_quo, eo_rem, eo_fdv, eo_mn, eo_mx, eo_land, eo_lor, eo_lxor, eo_landn, eo_shl, eo_shr, dvs, flatS, SP.flat, ST.flat, List.map_cons, List.map_nil, List.append_nil, List.cons_append, List.nil_append, ltb_t, ltb_f, leb_t, leb_f, eqb_t, eqb_f, decide_eq_true_eq, decide_eq_false_iff_not, Bool.not_eq_true', Bool.not_eq_false', Bool.and_eq_true, Bool.and_eq_false_imp, beq_iff_eq, beq_eq_false_iff_ne, bne_iff_ne, U64, U32, I64, Big, W, wv, Told, s64, WT, PR, MR, MB, Int.zero_mul, Int.zero_add, Int.add_zero, Int.mul_zero, IntKind.wrap_u64, IntKind.wrap_i64, IntKind.wrap_u32, ne_eq, forall_const, true_implies, show T.rel 56 = R56 from rfl, R56, show T.pre 56 = Q56 from rfl, Q56]
  revert hp
  generalize (E.r 0).i 0 = b
  generalize (E.r 0).i 1 = h
  generalize (E.r 0).i 2 = l
  generalize (E.r 0).i 3 = w
  generalize (E.r 0).i 4 = n
  try simp only [mxI, mnI]
  try simp only [ltb, leb, eqb, Int.lt_irrefl, decide_false, Int.le_refl, decide_true]
  repeat' (first | intro _ | refine And.intro ?_ ?_ | refine Iff.intro ?_ ?_)
  all_goals first | omega | (simp_all; done) | (simp_all; omega)
end Go.Proofs.YthlcpdjpnbbaeaaGreatDoor.Fn
namespace Go.Proofs.YthlcpdjpnbbaeaaGreatDoor.Fn
open Go Go.RowKit Go.Proofs.YthlcpdjpnbbaeaaGreatDoor.Sy
set_option linter.unusedVariables false
set_option linter.unusedSimpArgs false
set_option maxRecDepth 100000

theorem small_cases94 (c : Int) (hc : c ≤ 1) : c = Int.ofNat 0 ∨ c = Int.ofNat 1 ∨ ∃ n, c = Int.negSucc n := by
  cases c with
  | ofNat n => match n, hc with
    | 0, _ => exact .inl rfl
    | 1, _ => exact .inr (.inl rfl)
    | n + 2, h => exact absurd h (by simp only [Int.ofNat_eq_natCast]; omega)
  | negSucc n => exact .inr (.inr ⟨n, rfl⟩)
theorem run94 (a b c : Int) (hc : c ≤ 1) (w : World) :
    (callFunc 94 #[.int .u64 a, .int .u64 b, .int .u64 c]).run Tryz.prog w = .ok (.value (.tuple #[.int .u64 (((a.toNat + b.toNat + c.toNat) % 18446744073709551616 : Nat) : Int), .int .u64 (((a.toNat + b.toNat + c.toNat) / 18446744073709551616 : Nat) : Int)])) w := by
  rw [run_callFunc_extern Tryz.func94 (by kernel_rfl) (by kernel_rfl) (by kernel_rfl) (e := add64Entry) (by kernel_rfl)]
  rcases small_cases94 c hc with rfl | rfl | ⟨n, rfl⟩ <;> rfl
theorem c94 : ConS Tryz.prog T C94 := con_ext (by kernel_rfl) rfl fun r w hp => by
  have hp : U64 (r.i 0) ∧ U64 (r.i 1) ∧ 0 ≤ r.i 2 ∧ r.i 2 ≤ 1 := hp rfl
  have hc : r.i 2 ≤ 1 := hp.2.2.2
  refine ⟨⟨fun j => if j = 0 then (((((r.i 0).toNat + (r.i 1).toNat + (r.i 2).toNat) % 18446744073709551616 : Nat)) : Int) else ((((r.i 0).toNat + (r.i 1).toNat + (r.i 2).toNat) / 18446744073709551616 : Nat) : Int), fun _ => false, fun _ => [], fun _ => none, fun _ => 0, fun _ => undef⟩, run94 (r.i 0) (r.i 1) (r.i 2) hc w, ?_⟩
  show R94 [.num (r.i 0), .num (r.i 1), .num (r.i 2)] [.num _, .num _]
  simp only [R94]
  constructor <;> simp <;> omega
end Go.Proofs.YthlcpdjpnbbaeaaGreatDoor.Fn
namespace Go.Proofs.YthlcpdjpnbbaeaaGreatDoor.Fn
open Go Go.RowKit Go.Proofs.YthlcpdjpnbbaeaaGreatDoor.Sy
set_option linter.unusedVariables false
set_option linter.unusedSimpArgs false
set_option maxRecDepth 100000
def t90 : Tr :=
  .br (.f (.rel 94 [.num (.v 0 1), .num (.v 0 3), .num (.n 0)] 65544 [.int .u64, .int .u64]) <|
   .br (.f (.rel 94 [.num (.wrap .u64 (.v 0 0)), .num (.wrap .u64 (.v 0 2)), .num (.v 65544 1)] 65557 [.int .u64, .int .u64]) <|
    .br (.f (.is (.beq (.lt (.v 0 0) (.n 0)) (.lt (.v 0 2) (.n 0))) true) <|
     .br (.f (.is (.beq (.lt (.v 0 0) (.n 0)) (.lt (.wrap .i64 (.v 65557 0)) (.n 0))) false) <|
      .ok [.num (.n 0), .num (.n 0), .tru (.lt (.n 0) (.n 0))])
     (.f (.is (.beq (.lt (.v 0 0) (.n 0)) (.lt (.wrap .i64 (.v 65557 0)) (.n 0))) true) <|
      .ok [.num (.wrap .i64 (.v 65557 0)), .num (.v 65544 0), .tru (.le (.n 0) (.n 0))]))
    (.f (.is (.beq (.lt (.v 0 0) (.n 0)) (.lt (.v 0 2) (.n 0))) false) <|
     .ok [.num (.wrap .i64 (.v 65557 0)), .num (.v 65544 0), .tru (.le (.n 0) (.n 0))]))
   (.f (.npre 94 [.num (.wrap .u64 (.v 0 0)), .num (.wrap .u64 (.v 0 2)), .num (.v 65544 1)]) <|
    .bad))
  (.f (.npre 94 [.num (.v 0 1), .num (.v 0 3), .num (.n 0)]) <|
   .bad)
theorem c90 : ConS Tryz.prog T C90 := con_tr (cs := [C94]) (lcs := []) (known := []) (cons_cons c94 (cons_nil _ _)) (Known.nil _) (N := 400) (d := 40) (t := t90) (by kernel_rfl) <| by
  intro E hl hp
  clear hl
  have hp := hp rfl
  simp only [C90, show T.pre 90 = Q90 from rfl, flatS, SP.flat, dvs, List.append_nil, List.cons_append, List.nil_append, Q90, U64, U32, I64, Big, W, wv, s64, WT, PR, MR, MB] at hp
  simp only [t90, C90, Tr.good, Fact.den, LX.den, DX.ls, DV.ls, DX.den, Bx.den, Ex.den, eo_add, eo_sub, eo_mul, eo_quo, eo_rem, eo_fdv, eo_mn, eo_mx, eo_land, eo_lor, eo_lxor, eo_landn, eo_shl, eo_shr, dvs, flatS, SP.flat, ST.flat, List.map_cons, List.map_nil, List.append_nil, List.cons_append, List.nil_append, ltb_t, ltb_f, leb_t, leb_f, eqb_t, eqb_f, decide_eq_true_eq, decide_eq_false_iff_not, Bool.not_eq_true', Bool.not_eq_false', Bool.and_eq_true, Bool.and_eq_false_imp, beq_iff_eq, beq_eq_false_iff_ne, bne_iff_ne, U64, U32, I64, Big, W, wv, Told, s64, WT, PR, MR, MB, Int.zero_mul, Int.zero_add, Int.add_zero, Int.mul_zero, IntKind.wrap_u64, IntKind.wrap_i64, IntKind.wrap_u32, ne_eq, forall_const, true_implies, show T.rel 90 = R90 from rfl, R90, show T.rel 94 = R94 from rfl, R94, show T.pre 90 = Q90 from rfl, Q90, show T.pre 94 = Q94 from rfl, Q94]
  revert hp
  generalize (E.r 0).i 0 = ah
  generalize (E.r 0).i 1 = al
  generalize (E.r 0).i 2 = bh
  generalize (E.r 0).i 3 = bl
  generalize (E.r 65544).i 0 = x8_0
  generalize (E.r 65544).i 1 = x8_1
  generalize (E.r 65557).i 0 = x21_0
  generalize (E.r 65557).i 1 = x21_1
  try simp only [mxI, mnI]
  try simp only [ltb, leb, eqb, Int.lt_irrefl, decide_false, Int.le_refl, decide_true]
  repeat' (first | intro _ | refine And.intro ?_ ?_ | refine Iff.intro ?_ ?_)
  all_goals first | omega | (simp_all; done) | (simp_all; omega)
end Go.Proofs.YthlcpdjpnbbaeaaGreatDoor.Fn
namespace Go.Proofs.YthlcpdjpnbbaeaaGreatDoor.Fn
open Go Go.RowKit Go.Proofs.YthlcpdjpnbbaeaaGreatDoor.Sy
set_option linter.unusedVariables false
set_option linter.unusedSimpArgs false
set_option maxRecDepth 100000
def t45 : Tr :=
  .br (.f (.is (.lt (.v 0 0) (.n 0)) true) <|
   .ok [.num (.n (-1)), .num (.wrap .u64 (.v 0 0))])
  (.f (.is (.lt (.v 0 0) (.n 0)) false) <|
   .ok [.num (.n 0), .num (.wrap .u64 (.v 0 0))])
theorem c45 : ConS Tryz.prog T C45 := con_tr (cs := []) (lcs := []) (known := []) (cons_nil _ _) (Known.nil _) (N := 400) (d := 40) (t := t45) (by kernel_rfl) <| by
  intro E hl hp
  clear hl
  have hp := hp rfl
  simp only [C45, show T.pre 45 = Q45 from rfl, flatS, SP.flat, dvs, List.append_nil, List.cons_append, List.nil_append, Q45, U64, U32, I64, Big, W, wv, s64, WT, PR, MR, MB] at hp
  simp only [t45, C45, Tr.good, Fact.den, LX.den, DX.ls, DV.ls, DX.den, Bx.den, Ex.den, eo_add, eo_sub, eo_mul, eo_quo, eo_rem, eo_fdv, eo_mn, eo_mx, eo_land, eo_lor, eo_lxor, eo_landn, eo_shl, eo_shr, dvs, flatS, SP.flat, ST.flat, List.map_cons, List.map_nil, List.append_nil, List.cons_append, List.nil_append, ltb_t, ltb_f, leb_t, leb_f, eqb_t, eqb_f, decide_eq_true_eq, decide_eq_false_iff_not, Bool.not_eq_true', Bool.not_eq_false', Bool.and_eq_true, Bool.and_eq_false_imp, beq_iff_eq, beq_eq_false_iff_ne, bne_iff_ne, U64, U32, I64, Big, W, wv, Told, s64, WT, PR, MR, MB, Int.zero_mul, Int.zero_add, Int.add_zero, Int.mul_zero, IntKind.wrap_u64, IntKind.wrap_i64, IntKind.wrap_u32, ne_eq, forall_const, true_implies, show T.rel 45 = R45 from rfl, R45, show T.pre 45 = Q45 from rfl, Q45]
  revert hp
  generalize (E.r 0).i 0 = x
  try simp only [mxI, mnI]
  try simp only [ltb, leb, eqb, Int.lt_irrefl, decide_false, Int.le_refl, decide_true]
  repeat' (first | intro _ | refine And.intro ?_ ?_ | refine Iff.intro ?_ ?_)
  all_goals first | omega | (simp_all; done) | (simp_all; omega)
end Go.Proofs.YthlcpdjpnbbaeaaGreatDoor.Fn
namespace Go.Proofs.YthlcpdjpnbbaeaaGreatDoor.Fn
open Go Go.RowKit Go.Proofs.YthlcpdjpnbbaeaaGreatDoor.Sy
set_option linter.unusedVariables false
set_option linter.unusedSimpArgs false
set_option maxRecDepth 100000

def row96 : Array Value → Sem Value := fun args => do
  let (x, y, b) ← Extern.MathBitsCarry.three "Sub64" args
  pure (Extern.MathBitsCarry.pair ((x + Extern.MathBitsCarry.m64 - y - b) % Extern.MathBitsCarry.m64) (if x < y + b then 1 else 0))
theorem small_cases96 (c : Int) (hc : c ≤ 1) : c = Int.ofNat 0 ∨ c = Int.ofNat 1 ∨ ∃ n, c = Int.negSucc n := by
  cases c with
  | ofNat n => match n, hc with
    | 0, _ => exact .inl rfl
    | 1, _ => exact .inr (.inl rfl)
    | n + 2, h => exact absurd h (by simp only [Int.ofNat_eq_natCast]; omega)
  | negSucc n => exact .inr (.inr ⟨n, rfl⟩)
theorem run96 (a b c : Int) (hc : c ≤ 1) (w : World) :
    (callFunc 96 #[.int .u64 a, .int .u64 b, .int .u64 c]).run Tryz.prog w = .ok (.value (.tuple #[.int .u64 (((a.toNat + 18446744073709551616 - b.toNat - c.toNat) % 18446744073709551616 : Nat) : Int), .int .u64 ((if a.toNat < b.toNat + c.toNat then 1 else 0 : Nat) : Int)])) w := by
  rw [run_callFunc_extern Tryz.func96 (by kernel_rfl) (by kernel_rfl) (by kernel_rfl) (e := row96) (by kernel_rfl)]
  rcases small_cases96 c hc with rfl | rfl | ⟨n, rfl⟩ <;> rfl
theorem c96 : ConS Tryz.prog T C96 := con_ext (by kernel_rfl) rfl fun r w hp => by
  have hp : U64 (r.i 0) ∧ U64 (r.i 1) ∧ 0 ≤ r.i 2 ∧ r.i 2 ≤ 1 := hp rfl
  have hc : r.i 2 ≤ 1 := hp.2.2.2
  refine ⟨⟨fun j => if j = 0 then (((((r.i 0).toNat + 18446744073709551616 - (r.i 1).toNat - (r.i 2).toNat) % 18446744073709551616 : Nat)) : Int) else ((if (r.i 0).toNat < (r.i 1).toNat + (r.i 2).toNat then 1 else 0 : Nat) : Int), fun _ => false, fun _ => [], fun _ => none, fun _ => 0, fun _ => undef⟩, run96 (r.i 0) (r.i 1) (r.i 2) hc w, ?_⟩
  show R96 [.num (r.i 0), .num (r.i 1), .num (r.i 2)] [.num _, .num _]
  simp only [R96]
  refine ⟨by simp; omega, fun h2 => ?_, fun h2 => ?_⟩
  · show ((if (r.i 0).toNat < (r.i 1).toNat + (r.i 2).toNat then 1 else 0 : Nat) : Int) = _
    rw [if_pos (by omega)]; rfl
  · show ((if (r.i 0).toNat < (r.i 1).toNat + (r.i 2).toNat then 1 else 0 : Nat) : Int) = _
    rw [if_neg (by omega)]; rfl
end Go.Proofs.YthlcpdjpnbbaeaaGreatDoor.Fn
namespace Go.Proofs.YthlcpdjpnbbaeaaGreatDoor.Fn
open Go Go.RowKit Go.Proofs.YthlcpdjpnbbaeaaGreatDoor.Sy
set_option linter.unusedVariables false
set_option linter.unusedSimpArgs false
set_option maxRecDepth 100000
def t98 : Tr :=
  .br (.f (.rel 96 [.num (.n 0), .num (.v 0 1), .num (.n 0)] 65540 [.int .u64, .int .u64]) <|
   .br (.f (.rel 96 [.num (.n 0), .num (.wrap .u64 (.v 0 0)), .num (.v 65540 1)] 65550 [.int .u64, .int .u64]) <|
    .ok [.num (.wrap .i64 (.v 65550 0)), .num (.v 65540 0)])
   (.f (.npre 96 [.num (.n 0), .num (.wrap .u64 (.v 0 0)), .num (.v 65540 1)]) <|
    .bad))
  (.f (.npre 96 [.num (.n 0), .num (.v 0 1), .num (.n 0)]) <|
   .bad)
theorem c98 : ConS Tryz.prog T C98 := con_tr (cs := [C96]) (lcs := []) (known := []) (cons_cons c96 (cons_nil _ _)) (Known.nil _) (N := 400) (d := 40) (t := t98) (by kernel_rfl) <| by
  intro E hl hp
  clear hl
  have hp := hp rfl
  simp only [C98, show T.pre 98 = Q98 from rfl, flatS, SP.flat, dvs, List.append_nil, List.cons_append, List.nil_append, Q98, U64, U32, I64, Big, W, wv, s64, WT, PR, MR, MB] at hp
  simp only [t98, C98, Tr.good, Fact.den, LX.den, DX.ls, DV.ls, DX.den, Bx.den, Ex.den, eo_add, eo_sub, eo_mul, eo_quo, eo_rem, eo_fdv, eo_mn, eo_mx, eo_land, eo_lor, eo_lxor, eo_landn, eo_shl, eo_shr, dvs, flatS, SP.flat, ST.flat, List.map_cons, List.map_nil, List.append_nil, List.cons_append, List.nil_append, ltb_t, ltb_f, leb_t, leb_f, eqb_t, eqb_f, decide_eq_true_eq, decide_eq_false_iff_not, Bool.not_eq_true', Bool.not_eq_false', Bool.and_eq_true, Bool.and_eq_false_imp, beq_iff_eq, beq_eq_false_iff_ne, bne_iff_ne, U64, U32, I64, Big, W, wv, Told, s64, WT, PR, MR, MB, Int.zero_mul, Int.zero_add, Int.add_zero, Int.mul_zero, IntKind.wrap_u64, IntKind.wrap_i64, IntKind.wrap_u32, ne_eq, forall_const, true_implies, show T.rel 96 = R96 from rfl, R96, show T.rel 98 = R98 from rfl, R98, show T.pre 96 = Q96 from rfl, Q96, show T.pre 98 = Q98 from rfl, Q98]
  revert hp
  generalize (E.r 0).i 0 = h
  generalize (E.r 0).i 1 = l
  generalize (E.r 65540).i 0 = x4_0
  generalize (E.r 65540).i 1 = x4_1
  generalize (E.r 65550).i 0 = x14_0
  generalize (E.r 65550).i 1 = x14_1
  try simp only [mxI, mnI]
  try simp only [ltb, leb, eqb, Int.lt_irrefl, decide_false, Int.le_refl, decide_true]
  repeat' (first | intro _ | refine And.intro ?_ ?_ | refine Iff.intro ?_ ?_)
  all_goals first | omega | (simp_all; done) | (simp_all; omega)
end Go.Proofs.YthlcpdjpnbbaeaaGreatDoor.Fn
namespace Go.Proofs.YthlcpdjpnbbaeaaGreatDoor.Fn
open Go Go.RowKit Go.Proofs.YthlcpdjpnbbaeaaGreatDoor.Sy
set_option linter.unusedVariables false
set_option linter.unusedSimpArgs false
set_option maxRecDepth 100000
def t92 : Tr :=
  .br (.f (.is (.lt (.v 0 0) (.n 0)) true) <|
   .br (.f (.rel 98 [.num (.v 0 0), .num (.v 0 1)] 65543 [.int .i64, .int .u64]) <|
    .ok [.num (.wrap .u64 (.v 65543 0)), .num (.v 65543 1)])
   (.f (.npre 98 [.num (.v 0 0), .num (.v 0 1)]) <|
    .bad))
  (.f (.is (.lt (.v 0 0) (.n 0)) false) <|
   .ok [.num (.wrap .u64 (.v 0 0)), .num (.v 0 1)])
theorem c92 : ConS Tryz.prog T C92 := con_tr (cs := [C98]) (lcs := []) (known := []) (cons_cons c98 (cons_nil _ _)) (Known.nil _) (N := 400) (d := 40) (t := t92) (by kernel_rfl) <| by
  intro E hl hp
  clear hl
  have hp := hp rfl
  simp only [C92, show T.pre 92 = Q92 from rfl, flatS, SP.flat, dvs, List.append_nil, List.cons_append, List.nil_append, Q92, U64, U32, I64, Big, W, wv, s64, WT, PR, MR, MB] at hp
  simp only [t92, C92, Tr.good, Fact.den, LX.den, DX.ls, DV.ls, DX.den, Bx.den, Ex.den, eo_add, eo_sub, eo_mul, eo_quo, eo_rem, eo_fdv, eo_mn, eo_mx, eo_land, eo_lor, eo_lxor, eo_landn, eo_shl, eo_shr, dvs, flatS, SP.flat, ST.flat, List.map_cons, List.map_nil, List.append_nil, List.cons_append, List.nil_append, ltb_t, ltb_f, leb_t, leb_f, eqb_t, eqb_f, decide_eq_true_eq, decide_eq_false_iff_not, Bool.not_eq_true', Bool.not_eq_false', Bool.and_eq_true, Bool.and_eq_false_imp, beq_iff_eq, beq_eq_false_iff_ne, bne_iff_ne, U64, U32, I64, Big, W, wv, Told, s64, WT, PR, MR, MB, Int.zero_mul, Int.zero_add, Int.add_zero, Int.mul_zero, IntKind.wrap_u64, IntKind.wrap_i64, IntKind.wrap_u32, ne_eq, forall_const, true_implies, show T.rel 92 = R92 from rfl, R92, show T.rel 98 = R98 from rfl, R98, show T.pre 92 = Q92 from rfl, Q92, show T.pre 98 = Q98 from rfl, Q98]
  revert hp
  generalize (E.r 0).i 0 = h
  generalize (E.r 0).i 1 = l
  generalize (E.r 65543).i 0 = x7_0
  generalize (E.r 65543).i 1 = x7_1
  try simp only [mxI, mnI]
  try simp only [ltb, leb, eqb, Int.lt_irrefl, decide_false, Int.le_refl, decide_true]
  repeat' (first | intro _ | refine And.intro ?_ ?_ | refine Iff.intro ?_ ?_)
  all_goals first | omega | (simp_all; done) | (simp_all; omega)
end Go.Proofs.YthlcpdjpnbbaeaaGreatDoor.Fn
namespace Go.Proofs.YthlcpdjpnbbaeaaGreatDoor.Fn
open Go Go.RowKit Go.Proofs.YthlcpdjpnbbaeaaGreatDoor.Sy
set_option linter.unusedVariables false
set_option linter.unusedSimpArgs false
set_option maxRecDepth 100000
def t93 : Tr :=
  .f (.is (.eq (.v 65554 0) (.wrap .u64 (.bin .mul (.bin (.land .u64) (.v 0 0) (.n 4294967295)) (.bin (.land .u64) (.v 0 1) (.n 4294967295))))) true) <|
   .f (.is (.eq (.v 65562 0) (.wrap .u64 (.bin .mul (.bin .fdv (.v 0 0) (.n 4294967296)) (.bin (.land .u64) (.v 0 1) (.n 4294967295))))) true) <|
    .f (.is (.eq (.v 65566 0) (.bin (.land .u64) (.wrap .u64 (.bin .add (.v 65562 0) (.bin .fdv (.v 65554 0) (.n 4294967296)))) (.n 4294967295))) true) <|
     .f (.is (.eq (.v 65570 0) (.bin .fdv (.wrap .u64 (.bin .add (.v 65562 0) (.bin .fdv (.v 65554 0) (.n 4294967296)))) (.n 4294967296))) true) <|
      .f (.is (.eq (.v 65577 0) (.wrap .u64 (.bin .mul (.bin (.land .u64) (.v 0 0) (.n 4294967295)) (.bin .fdv (.v 0 1) (.n 4294967296))))) true) <|
       .f (.is (.eq (.v 65587 0) (.wrap .u64 (.bin .mul (.bin .fdv (.v 0 0) (.n 4294967296)) (.bin .fdv (.v 0 1) (.n 4294967296))))) true) <|
        .f (.is (.eq (.v 65588 0) (.wrap .u64 (.bin .add (.wrap .u64 (.bin .add (.v 65587 0) (.v 65570 0))) (.bin .fdv (.wrap .u64 (.bin .add (.v 65566 0) (.v 65577 0))) (.n 4294967296))))) true) <|
         .ok [.num (.v 65588 0), .num (.wrap .u64 (.bin .mul (.v 0 0) (.v 0 1)))]
theorem c93 : ConS Tryz.prog T C93 := con_tr (cs := []) (lcs := []) (known := []) (cons_nil _ _) (Known.nil _) (N := 400) (d := 40) (t := t93) (by kernel_rfl) <| by
  intro E hl hp
  clear hl
  have hp := hp rfl
  simp only [C93, show T.pre 93 = Q93 from rfl, flatS, SP.flat, dvs, List.append_nil, List.cons_append, List.nil_append, Q93, U64, U32, I64, Big, W, wv, s64, WT, PR, MR, MB] at hp
  simp only [t93, C93, Tr.good, Fact.den, LX.den, DX.ls, DV.ls, DX.den, Bx.den, Ex.den, eo_add, eo_sub, eo_mul, eo_quo, eo_rem, eo_fdv, eo_mn, eo_mx, eo_land, eo_lor, eo_lxor, eo_landn, eo_shl, eo_shr, dvs, flatS, SP.flat, ST.flat, List.map_cons, List.map_nil, List.append_nil, List.cons_append, List.nil_append, ltb_t, ltb_f, leb_t, leb_f, eqb_t, eqb_f, decide_eq_true_eq, decide_eq_false_iff_not, Bool.not_eq_true', Bool.not_eq_false', Bool.and_eq_true, Bool.and_eq_false_imp, beq_iff_eq, beq_eq_false_iff_ne, bne_iff_ne, U64, U32, I64, Big, W, wv, Told, s64, WT, PR, MR, MB, Int.zero_mul, Int.zero_add, Int.add_zero, Int.mul_zero, IntKind.wrap_u64, IntKind.wrap_i64, IntKind.wrap_u32, ne_eq, forall_const, true_implies, show T.rel 93 = R93 from rfl, R93, show T.pre 93 = Q93 from rfl, Q93]
  revert hp
  generalize (E.r 0).i 0 = x
  generalize (E.r 0).i 1 = y
  generalize (E.r 65554).i 0 = x18_0
  generalize (E.r 65562).i 0 = x26_0
  generalize (E.r 65566).i 0 = x30_0
  generalize (E.r 65570).i 0 = x34_0
  generalize (E.r 65577).i 0 = x41_0
  generalize (E.r 65587).i 0 = x51_0
  generalize (E.r 65588).i 0 = x52_0
  try simp only [mxI, mnI]
  try simp only [ltb, leb, eqb, Int.lt_irrefl, decide_false, Int.le_refl, decide_true]
  intro hp e18 e26 e30 e34 e41 e51 e52
  obtain ⟨⟨x0, x1⟩, ⟨y0, y1⟩⟩ := hp
  rw [land_mask x0 x1, land_mask y0 y1] at e18
  rw [land_mask y0 y1, fdv (by omega)] at e26
  rw [land_mask x0 x1, fdv (by omega)] at e41
  rw [fdv (by omega), fdv (by omega)] at e51
  simp only [fdv (show (0 : Int) ≤ 4294967296 by omega)] at e30 e34 e52
  have p00 := mul_below (a := x % 4294967296) (b := y % 4294967296) (c := 4294967295) (d := 4294967295) (by omega) (by omega) (by omega) (by omega)
  have p10 := mul_below (a := x / 4294967296) (b := y % 4294967296) (c := 4294967295) (d := 4294967295) (by omega) (by omega) (by omega) (by omega)
  have p01 := mul_below (a := x % 4294967296) (b := y / 4294967296) (c := 4294967295) (d := 4294967295) (by omega) (by omega) (by omega) (by omega)
  have p11 := mul_below (a := x / 4294967296) (b := y / 4294967296) (c := 4294967295) (d := 4294967295) (by omega) (by omega) (by omega) (by omega)
  have e : x * y = (x / 4294967296) * (y / 4294967296) * 18446744073709551616 + ((x / 4294967296) * (y % 4294967296) + (x % 4294967296) * (y / 4294967296)) * 4294967296 + (x % 4294967296) * (y % 4294967296) := by
    have hx : x = x / 4294967296 * 4294967296 + x % 4294967296 := by omega
    have hy : y = y / 4294967296 * 4294967296 + y % 4294967296 := by omega
    generalize x / 4294967296 = a at *
    generalize x % 4294967296 = b at *
    generalize y / 4294967296 = c at *
    generalize y % 4294967296 = d at *
    subst hx hy
    grind
  generalize (x / 4294967296) * (y / 4294967296) = q11 at *
  generalize (x / 4294967296) * (y % 4294967296) = q10 at *
  generalize (x % 4294967296) * (y / 4294967296) = q01 at *
  generalize (x % 4294967296) * (y % 4294967296) = q00 at *
  generalize x * y = z at *
  rw [land_mask (by omega) (by omega)] at e30
  omega
end Go.Proofs.YthlcpdjpnbbaeaaGreatDoor.Fn
namespace Go.Proofs.YthlcpdjpnbbaeaaGreatDoor.Fn
open Go Go.RowKit Go.Proofs.YthlcpdjpnbbaeaaGreatDoor.Sy
set_option linter.unusedVariables false
set_option linter.unusedSimpArgs false
set_option maxRecDepth 100000
def t95 : Tr :=
  .br (.f (.is (.v 0 2) true) <|
   .br (.f (.is (.lt (.v 0 0) (.n 9223372036854775808)) true) <|
    .br (.f (.rel 98 [.num (.wrap .i64 (.v 0 0)), .num (.v 0 1)] 65559 [.int .i64, .int .u64]) <|
     .ok [.num (.v 65559 0), .num (.v 65559 1), .tru (.le (.n 0) (.n 0))])
    (.f (.npre 98 [.num (.wrap .i64 (.v 0 0)), .num (.v 0 1)]) <|
     .bad))
   (.f (.is (.lt (.v 0 0) (.n 9223372036854775808)) false) <|
    .br (.f (.is (.eq (.v 0 0) (.n 9223372036854775808)) true) <|
     .br (.f (.is (.eq (.v 0 1) (.n 0)) true) <|
      .br (.f (.rel 98 [.num (.wrap .i64 (.v 0 0)), .num (.v 0 1)] 65559 [.int .i64, .int .u64]) <|
       .ok [.num (.v 65559 0), .num (.v 65559 1), .tru (.le (.n 0) (.n 0))])
      (.f (.npre 98 [.num (.wrap .i64 (.v 0 0)), .num (.v 0 1)]) <|
       .bad))
     (.f (.is (.eq (.v 0 1) (.n 0)) false) <|
      .ok [.num (.n 0), .num (.n 0), .tru (.lt (.n 0) (.n 0))]))
    (.f (.is (.eq (.v 0 0) (.n 9223372036854775808)) false) <|
     .ok [.num (.n 0), .num (.n 0), .tru (.lt (.n 0) (.n 0))])))
  (.f (.is (.v 0 2) false) <|
   .br (.f (.is (.lt (.v 0 0) (.n 9223372036854775808)) true) <|
    .ok [.num (.wrap .i64 (.v 0 0)), .num (.v 0 1), .tru (.le (.n 0) (.n 0))])
   (.f (.is (.lt (.v 0 0) (.n 9223372036854775808)) false) <|
    .ok [.num (.n 0), .num (.n 0), .tru (.lt (.n 0) (.n 0))]))
theorem c95 : ConS Tryz.prog T C95 := con_tr (cs := [C98]) (lcs := []) (known := []) (cons_cons c98 (cons_nil _ _)) (Known.nil _) (N := 400) (d := 40) (t := t95) (by kernel_rfl) <| by
  intro E hl hp
  clear hl
  have hp := hp rfl
  simp only [C95, show T.pre 95 = Q95 from rfl, flatS, SP.flat, dvs, List.append_nil, List.cons_append, List.nil_append, Q95, U64, U32, I64, Big, W, wv, s64, WT, PR, MR, MB] at hp
  simp only [t95, C95, Tr.good, Fact.den, LX.den, DX.ls, DV.ls, DX.den, Bx.den, Ex.den, eo_add, eo_sub, eo_mul, eo_quo, eo_rem, eo_fdv, eo_mn, eo_mx, eo_land, eo_lor, eo_lxor, eo_landn, eo_shl, eo_shr, dvs, flatS, SP.flat, ST.flat, List.map_cons, List.map_nil, List.append_nil, List.cons_append, List.nil_append, ltb_t, ltb_f, leb_t, leb_f, eqb_t, eqb_f, decide_eq_true_eq, decide_eq_false_iff_not, Bool.not_eq_true', Bool.not_eq_false', Bool.and_eq_true, Bool.and_eq_false_imp, beq_iff_eq, beq_eq_false_iff_ne, bne_iff_ne, U64, U32, I64, Big, W, wv, Told, s64, WT, PR, MR, MB, Int.zero_mul, Int.zero_add, Int.add_zero, Int.mul_zero, IntKind.wrap_u64, IntKind.wrap_i64, IntKind.wrap_u32, ne_eq, forall_const, true_implies, show T.rel 95 = R95 from rfl, R95, show T.rel 98 = R98 from rfl, R98, show T.pre 95 = Q95 from rfl, Q95, show T.pre 98 = Q98 from rfl, Q98]
  revert hp
  generalize (E.r 0).i 0 = hi
  generalize (E.r 0).i 1 = lo
  generalize (E.r 0).c 2 = below
  generalize (E.r 65559).i 0 = x23_0
  generalize (E.r 65559).i 1 = x23_1
  try simp only [mxI, mnI]
  try simp only [ltb, leb, eqb, Int.lt_irrefl, decide_false, Int.le_refl, decide_true]
  repeat' (first | intro _ | refine And.intro ?_ ?_ | refine Iff.intro ?_ ?_)
  all_goals first | omega | (simp_all; done) | (simp_all; omega)
end Go.Proofs.YthlcpdjpnbbaeaaGreatDoor.Fn
namespace Go.Proofs.YthlcpdjpnbbaeaaGreatDoor.Fn
open Go Go.RowKit Go.Proofs.YthlcpdjpnbbaeaaGreatDoor.Sy
set_option linter.unusedVariables false
set_option linter.unusedSimpArgs false
set_option maxRecDepth 100000
def t57 : Tr :=
  .br (.f (.rel 92 [.num (.v 0 0), .num (.v 0 1)] 65540 [.int .u64, .int .u64]) <|
   .br (.f (.rel 45 [.num (.v 0 2)] 65547 [.int .i64, .int .u64]) <|
    .br (.f (.rel 92 [.num (.v 65547 0), .num (.v 65547 1)] 65548 [.int .u64, .int .u64]) <|
     .br (.f (.rel 93 [.num (.v 65540 0), .num (.v 65548 1)] 65556 [.int .u64, .int .u64]) <|
      .br (.f (.rel 93 [.num (.v 65540 1), .num (.v 65548 1)] 65564 [.int .u64, .int .u64]) <|
       .br (.f (.rel 94 [.num (.v 65556 1), .num (.v 65564 0), .num (.n 0)] 65572 [.int .u64, .int .u64]) <|
        .br (.f (.is (.eq (.v 65556 0) (.n 0)) false) <|
         .ok [.num (.n 0), .num (.n 0), .tru (.lt (.n 0) (.n 0))])
        (.f (.is (.eq (.v 65556 0) (.n 0)) true) <|
         .br (.f (.is (.eq (.v 65572 1) (.n 0)) false) <|
          .ok [.num (.n 0), .num (.n 0), .tru (.lt (.n 0) (.n 0))])
         (.f (.is (.eq (.v 65572 1) (.n 0)) true) <|
          .br (.f (.rel 95 [.num (.v 65572 0), .num (.v 65564 1), .tru (.not (.beq (.lt (.v 0 0) (.n 0)) (.lt (.v 0 2) (.n 0))))] 65592 [.int .i64, .int .u64, .bool]) <|
           .ok [.num (.v 65592 0), .num (.v 65592 1), .tru (.v 65592 2)])
          (.f (.npre 95 [.num (.v 65572 0), .num (.v 65564 1), .tru (.not (.beq (.lt (.v 0 0) (.n 0)) (.lt (.v 0 2) (.n 0))))]) <|
           .bad))))
       (.f (.npre 94 [.num (.v 65556 1), .num (.v 65564 0), .num (.n 0)]) <|
        .bad))
      (.f (.npre 93 [.num (.v 65540 1), .num (.v 65548 1)]) <|
       .bad))
     (.f (.npre 93 [.num (.v 65540 0), .num (.v 65548 1)]) <|
      .bad))
    (.f (.npre 92 [.num (.v 65547 0), .num (.v 65547 1)]) <|
     .bad))
   (.f (.npre 45 [.num (.v 0 2)]) <|
    .bad))
  (.f (.npre 92 [.num (.v 0 0), .num (.v 0 1)]) <|
   .bad)
theorem c57 : ConS Tryz.prog T C57 := con_tr (cs := [C45, C92, C93, C94, C95]) (lcs := []) (known := []) (cons_cons c45 (cons_cons c92 (cons_cons c93 (cons_cons c94 (cons_cons c95 (cons_nil _ _)))))) (Known.nil _) (N := 400) (d := 40) (t := t57) (by kernel_rfl) <| by
  intro E hl hp
  clear hl
  have hp := hp rfl
  simp only [C57, show T.pre 57 = Q57 from rfl, flatS, SP.flat, dvs, List.append_nil, List.cons_append, List.nil_append, Q57, U64, U32, I64, Big, W, wv, s64, WT, PR, MR, MB] at hp
  simp only [t57, C57, Tr.good, Fact.den, LX.den, DX.ls, DV.ls, DX.den, Bx.den, Ex.den, eo_add, eo_sub, eo_mul, eo_quo, eo_rem, eo_fdv, eo_mn, eo_mx, eo_land, eo_lor, eo_lxor, eo_landn, eo_shl, eo_shr, dvs, flatS, SP.flat, ST.flat, List.map_cons, List.map_nil, List.append_nil, List.cons_append, List.nil_append, ltb_t, ltb_f, leb_t, leb_f, eqb_t, eqb_f, decide_eq_true_eq, decide_eq_false_iff_not, Bool.not_eq_true', Bool.not_eq_false', Bool.and_eq_true, Bool.and_eq_false_imp, beq_iff_eq, beq_eq_false_iff_ne, bne_iff_ne, U64, U32, I64, Big, W, wv, Told, s64, WT, PR, MR, MB, Int.zero_mul, Int.zero_add, Int.add_zero, Int.mul_zero, IntKind.wrap_u64, IntKind.wrap_i64, IntKind.wrap_u32, ne_eq, forall_const, true_implies, show T.rel 45 = R45 from rfl, R45, show T.rel 57 = R57 from rfl, R57, show T.rel 92 = R92 from rfl, R92, show T.rel 93 = R93 from rfl, R93, show T.rel 94 = R94 from rfl, R94, show T.rel 95 = R95 from rfl, R95, show T.pre 45 = Q45 from rfl, Q45, show T.pre 57 = Q57 from rfl, Q57, show T.pre 92 = Q92 from rfl, Q92, show T.pre 93 = Q93 from rfl, Q93, show T.pre 94 = Q94 from rfl, Q94, show T.pre 95 = Q95 from rfl, Q95]
  revert hp
  generalize (E.r 0).i 0 = h
  generalize (E.r 0).i 1 = l
  generalize (E.r 0).i 2 = b
  generalize (E.r 65540).i 0 = x4_0
  generalize (E.r 65540).i 1 = x4_1
  generalize (E.r 65547).i 0 = x11_0
  generalize (E.r 65547).i 1 = x11_1
  generalize (E.r 65548).i 0 = x12_0
  generalize (E.r 65548).i 1 = x12_1
  generalize (E.r 65556).i 0 = x20_0
  generalize (E.r 65556).i 1 = x20_1
  generalize (E.r 65564).i 0 = x28_0
  generalize (E.r 65564).i 1 = x28_1
  generalize (E.r 65572).i 0 = x36_0
  generalize (E.r 65572).i 1 = x36_1
  generalize (E.r 65592).i 0 = x56_0
  generalize (E.r 65592).i 1 = x56_1
  generalize (E.r 65592).c 2 = x56_2
  try simp only [mxI, mnI]
  try simp only [ltb, leb, eqb, Int.lt_irrefl, decide_false, Int.le_refl, decide_true]
  intro hp
  refine ⟨fun f1 => ⟨fun f2 => ⟨fun f3 => ⟨fun f4 => ⟨fun f5 => ⟨fun f6 => ?_, ?_⟩, ?_⟩, ?_⟩, ?_⟩, ?_⟩, ?_⟩
  · have n0 : x12_0 = 0 := by omega
    have hs := mul_sign (v := h * 18446744073709551616 + l) (b := b) (m0 := x4_0) (m1 := x4_1) (n := x12_1) (by omega) (by omega) (by omega) (by omega)
    generalize (h * 18446744073709551616 + l) * b = z at *
    generalize x4_0 * x12_1 = H at *
    generalize x4_1 * x12_1 = L at *
    by_cases s1 : h < 0 <;> by_cases s2 : b < 0 <;> simp only [s1, s2, decide_true, decide_false, not_true_eq_false, false_imp_iff, true_imp_iff, true_and, and_true, not_false_eq_true, reduceCtorEq]
    all_goals cases x56_2 <;> simp only [false_imp_iff, true_imp_iff, true_and, and_true, reduceCtorEq] <;> omega
  all_goals try simp only [true_and]
  all_goals omega
end Go.Proofs.YthlcpdjpnbbaeaaGreatDoor.Fn
namespace Go.Proofs.YthlcpdjpnbbaeaaGreatDoor.Fn
open Go Go.RowKit Go.Proofs.YthlcpdjpnbbaeaaGreatDoor.Sy
set_option linter.unusedVariables false
set_option linter.unusedSimpArgs false
set_option maxRecDepth 100000
def t112 : Tr :=
  .ok [.num (.n 0), .num (.v 0 0)]
theorem c112 : ConS Tryz.prog T C112 := con_tr (cs := []) (lcs := []) (known := []) (cons_nil _ _) (Known.nil _) (N := 400) (d := 40) (t := t112) (by kernel_rfl) <| by
  intro E hl hp
  clear hl
  clear hp
  simp only [t112, C112, Tr.good, Fact.den, LX.den, DX.ls, DV.ls, DX.den, Bx.den, Ex.den, eo_add, eo_sub, eo_mul, eo_quo, eo_rem, eo_fdv, eo_mn, eo_mx, eo_land, eo_lor, eo_lxor, eo_landn, eo_shl, eo_shr, dvs, flatS, SP.flat, ST.flat, List.map_cons, List.map_nil, List.append_nil, List.cons_append, List.nil_append, ltb_t, ltb_f, leb_t, leb_f, eqb_t, eqb_f, decide_eq_true_eq, decide_eq_false_iff_not, Bool.not_eq_true', Bool.not_eq_false', Bool.and_eq_true, Bool.and_eq_false_imp, beq_iff_eq, beq_eq_false_iff_ne, bne_iff_ne, U64, U32, I64, Big, W, wv, Told, s64, WT, PR, MR, MB, Int.zero_mul, Int.zero_add, Int.add_zero, Int.mul_zero, IntKind.wrap_u64, IntKind.wrap_i64, IntKind.wrap_u32, ne_eq, forall_const, true_implies, show T.rel 112 = R112 from rfl, R112]
  generalize (E.r 0).i 0 = x
  try simp only [mxI, mnI]
  try simp only [ltb, leb, eqb, Int.lt_irrefl, decide_false, Int.le_refl, decide_true]
  repeat' (first | intro _ | refine And.intro ?_ ?_ | refine Iff.intro ?_ ?_)
  all_goals first | omega | (simp_all; done) | (simp_all; omega)
end Go.Proofs.YthlcpdjpnbbaeaaGreatDoor.Fn
namespace Go.Proofs.YthlcpdjpnbbaeaaGreatDoor.Fn
open Go Go.RowKit Go.Proofs.YthlcpdjpnbbaeaaGreatDoor.Sy
set_option linter.unusedVariables false
set_option linter.unusedSimpArgs false
set_option maxRecDepth 100000
def t91 : Tr :=
  .f (.rel 112 [.num (.wrap .u64 (.v 0 2))] 65541 [.int .i64, .int .u64]) <|
   .f (.rel 14 [.num (.v 0 0), .num (.v 0 3)] 65545 [.int .i64]) <|
    .br (.f (.rel 57 [.num (.v 65541 0), .num (.v 65541 1), .num (.v 65545 0)] 65546 [.int .i64, .int .u64, .bool]) <|
     .f (.rel 112 [.num (.wrap .u64 (.v 0 1))] 65557 [.int .i64, .int .u64]) <|
      .br (.f (.rel 90 [.num (.v 65546 0), .num (.v 65546 1), .num (.v 65557 0), .num (.v 65557 1)] 65558 [.int .i64, .int .u64, .bool]) <|
       .ok [.num (.v 65558 0), .num (.v 65558 1)])
      (.f (.npre 90 [.num (.v 65546 0), .num (.v 65546 1), .num (.v 65557 0), .num (.v 65557 1)]) <|
       .bad))
    (.f (.npre 57 [.num (.v 65541 0), .num (.v 65541 1), .num (.v 65545 0)]) <|
     .bad)
theorem c91 : ConS Tryz.prog T C91 := con_tr (cs := [C14, C57, C90, C112]) (lcs := []) (known := []) (cons_cons c14 (cons_cons c57 (cons_cons c90 (cons_cons c112 (cons_nil _ _))))) (Known.nil _) (N := 400) (d := 40) (t := t91) (by kernel_rfl) <| by
  intro E hl hp
  clear hl
  have hp := hp rfl
  simp only [C91, show T.pre 91 = Q91 from rfl, flatS, SP.flat, dvs, List.append_nil, List.cons_append, List.nil_append, Q91, U64, U32, I64, Big, W, wv, s64, WT, PR, MR, MB] at hp
  simp only [t91, C91, Tr.good, Fact.den, LX.den, DX.ls, DV.ls, DX.den, Bx.den, Ex.den, eo_add, eo_sub, eo_mul, eo_quo, eo_rem, eo_fdv, eo_mn, eo_mx, eo_land, eo_lor, eo_lxor, eo_landn, eo_shl, eo_shr, dvs, flatS, SP.flat, ST.flat, List.map_cons, List.map_nil, List.append_nil, List.cons_append, List.nil_append, ltb_t, ltb_f, leb_t, leb_f, eqb_t, eqb_f, decide_eq_true_eq, decide_eq_false_iff_not, Bool.not_eq_true', Bool.not_eq_false', Bool.and_eq_true, Bool.and_eq_false_imp, beq_iff_eq, beq_eq_false_iff_ne, bne_iff_ne, U64, U32, I64, Big, W, wv, Told, s64, WT, PR, MR, MB, Int.zero_mul, Int.zero_add, Int.add_zero, Int.mul_zero, IntKind.wrap_u64, IntKind.wrap_i64, IntKind.wrap_u32, ne_eq, forall_const, true_implies, show T.rel 14 = R14 from rfl, R14, show T.rel 57 = R57 from rfl, R57, show T.rel 90 = R90 from rfl, R90, show T.rel 91 = R91 from rfl, R91, show T.rel 112 = R112 from rfl, R112, show T.pre 57 = Q57 from rfl, Q57, show T.pre 90 = Q90 from rfl, Q90, show T.pre 91 = Q91 from rfl, Q91]
  revert hp
  generalize (E.r 0).i 0 = t
  generalize (E.r 0).i 1 = r
  generalize (E.r 0).i 2 = w
  generalize (E.r 0).i 3 = base
  generalize (E.r 65541).i 0 = x5_0
  generalize (E.r 65541).i 1 = x5_1
  generalize (E.r 65545).i 0 = x9_0
  generalize (E.r 65546).i 0 = x10_0
  generalize (E.r 65546).i 1 = x10_1
  generalize (E.r 65546).c 2 = x10_2
  generalize (E.r 65557).i 0 = x21_0
  generalize (E.r 65557).i 1 = x21_1
  generalize (E.r 65558).i 0 = x22_0
  generalize (E.r 65558).i 1 = x22_1
  generalize (E.r 65558).c 2 = x22_2
  try simp only [mxI, mnI]
  try simp only [ltb, leb, eqb, Int.lt_irrefl, decide_false, Int.le_refl, decide_true]
  intro hp
  have e1 : w % 18446744073709551616 = w := by omega
  have e2 : r % 18446744073709551616 = r := by omega
  simp only [e1, e2]
  have s := mul_abs (w := w) (s := (t - base + 9223372036854775808) % 18446744073709551616 - 9223372036854775808) (A := 4294967295) (by omega) (by omega) (by omega) (by omega)
  rintro ⟨rfl, rfl⟩ rfl
  simp only [Int.zero_mul, Int.zero_add]
  cases x10_2 <;> cases x22_2 <;> simp only [reduceCtorEq, false_imp_iff, true_imp_iff, true_and, and_true]
  all_goals generalize hz : x5_1 * ((t - base + 9223372036854775808) % 18446744073709551616 - 9223372036854775808) = z at *
  repeat' (first | intro _ | refine And.intro ?_ ?_ | refine Iff.intro ?_ ?_)
  all_goals first | omega | (simp_all; done) | (simp_all; omega)
end Go.Proofs.YthlcpdjpnbbaeaaGreatDoor.Fn
namespace Go.Proofs.YthlcpdjpnbbaeaaGreatDoor.Fn
open Go Go.RowKit Go.Proofs.YthlcpdjpnbbaeaaGreatDoor.Sy
set_option linter.unusedVariables false
set_option linter.unusedSimpArgs false
set_option maxRecDepth 100000
def t54 : Tr :=
  .br (.f (.rel 56 [.num (.v 0 0), .num (.v 0 1), .num (.v 0 2), .num (.v 0 3), .num (.v 0 4)] 65541 [.bool]) <|
   .br (.f (.is (.v 65541 0) false) <|
    .ok [.num (.n 0), .num (.n 0), .num (.n 0), .num (.n 0), .num (.n 0), .tru (.lt (.n 0) (.n 0))])
   (.f (.is (.v 65541 0) true) <|
    .f (.rel 15 [.num (.v 0 5), .num (.v 0 6), .num (.v 0 7)] 65545 [.bool]) <|
     .br (.f (.is (.v 65545 0) false) <|
      .ok [.num (.n 0), .num (.n 0), .num (.n 0), .num (.n 0), .num (.n 0), .tru (.lt (.n 0) (.n 0))])
     (.f (.is (.v 65545 0) true) <|
      .br (.f (.is (.eq (.v 0 4) (.n 32)) true) <|
       .ok [.num (.n 0), .num (.n 0), .num (.n 0), .num (.n 0), .num (.n 0), .tru (.lt (.n 0) (.n 0))])
      (.f (.is (.eq (.v 0 4) (.n 32)) false) <|
       .br (.f (.rel 91 [.num (.v 0 5), .num (.v 0 6), .num (.v 0 7), .num (.v 0 0)] 65558 [.int .i64, .int .u64]) <|
        .br (.f (.rel 90 [.num (.v 0 1), .num (.v 0 2), .num (.v 65558 0), .num (.v 65558 1)] 65559 [.int .i64, .int .u64, .bool]) <|
         .br (.f (.is (.v 65559 2) false) <|
          .ok [.num (.n 0), .num (.n 0), .num (.n 0), .num (.n 0), .num (.n 0), .tru (.lt (.n 0) (.n 0))])
         (.f (.is (.v 65559 2) true) <|
          .ok [.num (.v 0 0), .num (.v 65559 0), .num (.v 65559 1), .num (.wrap .u64 (.bin .add (.v 0 3) (.wrap .u64 (.v 0 7)))), .num (.wrap .i64 (.bin .add (.v 0 4) (.n 1))), .tru (.le (.n 0) (.n 0))]))
        (.f (.npre 90 [.num (.v 0 1), .num (.v 0 2), .num (.v 65558 0), .num (.v 65558 1)]) <|
         .bad))
       (.f (.npre 91 [.num (.v 0 5), .num (.v 0 6), .num (.v 0 7), .num (.v 0 0)]) <|
        .bad)))))
  (.f (.npre 56 [.num (.v 0 0), .num (.v 0 1), .num (.v 0 2), .num (.v 0 3), .num (.v 0 4)]) <|
   .bad)
theorem c54 : ConS Tryz.prog T C54 := con_tr (cs := [C15, C56, C90, C91]) (lcs := []) (known := []) (cons_cons c15 (cons_cons c56 (cons_cons c90 (cons_cons c91 (cons_nil _ _))))) (Known.nil _) (N := 400) (d := 40) (t := t54) (by kernel_rfl) <| by
  intro E hl hp
  clear hl
  have hp := hp rfl
  simp only [C54, show T.pre 54 = Q54 from rfl, flatS, SP.flat, dvs, List.append_nil, List.cons_append, List.nil_append, Q54, U64, U32, I64, Big, W, wv, s64, WT, PR, MR, MB] at hp
  simp only [t54, C54, Tr.good, Fact.den, LX.den, DX.ls, DV.ls, DX.den, Bx.den, Ex.den, eo_add, eo_sub, eo_mul, eo_quo, eo_rem, eo_fdv, eo_mn, eo_mx, eo_land, eo_lor, eo_lxor, eo_landn, eo_shl, eo_shr, dvs, flatS, SP.flat, ST.flat, List.map_cons, List.map_nil, List.append_nil, List.cons_append, List.nil_append, ltb_t, ltb_f, leb_t, leb_f, eqb_t, eqb_f, decide_eq_true_eq, decide_eq_false_iff_not, Bool.not_eq_true', Bool.not_eq_false', Bool.and_eq_true, Bool.and_eq_false_imp, beq_iff_eq, beq_eq_false_iff_ne, bne_iff_ne, U64, U32, I64, Big, W, wv, Told, s64, WT, PR, MR, MB, Int.zero_mul, Int.zero_add, Int.add_zero, Int.mul_zero, IntKind.wrap_u64, IntKind.wrap_i64, IntKind.wrap_u32, ne_eq, forall_const, true_implies, show T.rel 15 = R15 from rfl, R15, show T.rel 54 = R54 from rfl, R54, show T.rel 56 = R56 from rfl, R56, show T.rel 90 = R90 from rfl, R90, show T.rel 91 = R91 from rfl, R91, show T.pre 54 = Q54 from rfl, Q54, show T.pre 56 = Q56 from rfl, Q56, show T.pre 90 = Q90 from rfl, Q90, show T.pre 91 = Q91 from rfl, Q91]
  revert hp
  generalize (E.r 0).i 0 = b
  generalize (E.r 0).i 1 = h
  generalize (E.r 0).i 2 = l
  generalize (E.r 0).i 3 = w
  generalize (E.r 0).i 4 = n
  generalize (E.r 0).i 5 = t
  generalize (E.r 0).i 6 = r
  generalize (E.r 0).i 7 = v
  generalize (E.r 65541).c 0 = x5_0
  generalize (E.r 65545).c 0 = x9_0
  generalize (E.r 65558).i 0 = x22_0
  generalize (E.r 65558).i 1 = x22_1
  generalize (E.r 65559).i 0 = x23_0
  generalize (E.r 65559).i 1 = x23_1
  generalize (E.r 65559).c 2 = x23_2
  try simp only [mxI, mnI]
  try simp only [ltb, leb, eqb, Int.lt_irrefl, decide_false, Int.le_refl, decide_true]
  repeat' (first | intro _ | refine And.intro ?_ ?_ | refine Iff.intro ?_ ?_)
  all_goals first | omega | (simp_all; done) | (simp_all; omega)
end Go.Proofs.YthlcpdjpnbbaeaaGreatDoor.Fn
namespace Go.Proofs.YthlcpdjpnbbaeaaGreatDoor.Fn
open Go Go.RowKit Go.Proofs.YthlcpdjpnbbaeaaGreatDoor.Sy
set_option linter.unusedVariables false
set_option linter.unusedSimpArgs false
set_option maxRecDepth 100000
def t16 : Tr :=
  .br (.f (.rel 101603 [.num (.v 0 0), .lst 0 1, .num (.n 0), .num (.v 0 0), .num (.n 0), .num (.n 0), .num (.n 0), .num (.n 0)] 65545 [.int .i64, .int .u64, .int .i64, .int .u64, .int .u64, .int .i64]) <|
   .br (.f (.is (.lt (.v 65545 0) (.len 0 1)) true) <|
    .br (.f (.is (.lt (.v 65545 0) (.n 0)) false) <|
     .br (.f (.rel 54 [.num (.v 65545 1), .num (.v 65545 2), .num (.v 65545 3), .num (.v 65545 4), .num (.v 65545 5), .num (.at 0 1 (.v 65545 0) 0), .num (.at 0 1 (.v 65545 0) 1), .num (.at 0 1 (.v 65545 0) 2)] 65553 [.int .u64, .int .i64, .int .u64, .int .u64, .int .i64, .bool]) <|
      .br (.f (.is (.v 65553 5) false) <|
       .ok [.num (.n 0), .num (.n 0), .num (.n 0), .num (.n 0), .num (.n 0), .tru (.lt (.n 0) (.n 0))])
      (.f (.is (.v 65553 5) true) <|
       .br (.f (.nrel 101603 [.num (.v 0 0), .lst 0 1, .num (.n 0), .num (.v 0 0), .num (.n 0), .num (.n 0), .num (.n 0), .num (.n 0)] [.num (.wrap .i64 (.bin .add (.v 65545 0) (.n 1))), .num (.v 65553 0), .num (.v 65553 1), .num (.v 65553 2), .num (.v 65553 3), .num (.v 65553 4)]) <|
        .bad)
       (.f (.ndec 101603 [.num (.v 0 0), .lst 0 1, .num (.n 0), .num (.v 0 0), .num (.n 0), .num (.n 0), .num (.n 0), .num (.n 0)] [.num (.v 65545 0), .num (.v 65545 1), .num (.v 65545 2), .num (.v 65545 3), .num (.v 65545 4), .num (.v 65545 5)] [.num (.wrap .i64 (.bin .add (.v 65545 0) (.n 1))), .num (.v 65553 0), .num (.v 65553 1), .num (.v 65553 2), .num (.v 65553 3), .num (.v 65553 4)]) <|
        .bad)))
     (.f (.npre 54 [.num (.v 65545 1), .num (.v 65545 2), .num (.v 65545 3), .num (.v 65545 4), .num (.v 65545 5), .num (.at 0 1 (.v 65545 0) 0), .num (.at 0 1 (.v 65545 0) 1), .num (.at 0 1 (.v 65545 0) 2)]) <|
      .bad))
    (.f (.is (.lt (.v 65545 0) (.n 0)) true) <|
     .bad))
   (.f (.is (.lt (.v 65545 0) (.len 0 1)) false) <|
    .ok [.num (.v 65545 1), .num (.v 65545 2), .num (.v 65545 3), .num (.v 65545 4), .num (.v 65545 5), .tru (.le (.n 0) (.n 0))]))
  (.f (.nrel 101603 [.num (.v 0 0), .lst 0 1, .num (.n 0), .num (.v 0 0), .num (.n 0), .num (.n 0), .num (.n 0), .num (.n 0)] [.num (.n 0), .num (.v 0 0), .num (.n 0), .num (.n 0), .num (.n 0), .num (.n 0)]) <|
   .bad)
theorem c16 : ConS Tryz.prog T C16 := con_tr (cs := [C54]) (lcs := [L101603]) (known := []) (cons_cons c54 (cons_nil _ _)) (Known.nil _) (N := 400) (d := 40) (t := t16) (by kernel_rfl) <| by
  intro E hl hp
  have hl1 := hl 1 _ rfl
  clear hl
  have hp := hp rfl
  simp only [C16, show T.pre 16 = Q16 from rfl, flatS, SP.flat, dvs, List.append_nil, List.cons_append, List.nil_append, Q16, U64, U32, I64, s64, WT, PR, MB] at hp
  simp only [t16, C16, Tr.good, Fact.den, LX.den, DX.ls, DV.ls, DX.den, Bx.den, Ex.den, eo_add, eo_sub, eo_mul, eo_quo, eo_rem, eo_fdv, eo_mn, eo_mx, eo_land, eo_lor, eo_lxor, eo_landn, eo_shl, eo_shr, dvs, flatS, SP.flat, ST.flat, List.map_cons, List.map_nil, List.append_nil, List.cons_append, List.nil_append, ltb_t, ltb_f, leb_t, leb_f, eqb_t, eqb_f, decide_eq_true_eq, decide_eq_false_iff_not, Bool.not_eq_true', Bool.not_eq_false', Bool.and_eq_true, Bool.and_eq_false_imp, beq_iff_eq, beq_eq_false_iff_ne, bne_iff_ne, U64, U32, I64, Told, s64, WT, PR, MB, Int.zero_mul, Int.zero_add, Int.add_zero, Int.mul_zero, IntKind.wrap_u64, IntKind.wrap_i64, IntKind.wrap_u32, ne_eq, forall_const, true_implies, show T.rel 16 = R16 from rfl, R16, show T.rel 54 = R54 from rfl, R54, show T.rel 101603 = R101603 from rfl, R101603, show T.mu 101603 = M101603 from rfl, M101603, show T.pre 16 = Q16 from rfl, Q16, show T.pre 54 = Q54 from rfl, Q54]
  revert hp hl1
  generalize (E.r 0).i 0 = b
  generalize (E.r 0).l 1 = xs
  generalize (E.r 65545).i 0 = x9_0
  generalize (E.r 65545).i 1 = x9_1
  generalize (E.r 65545).i 2 = x9_2
  generalize (E.r 65545).i 3 = x9_3
  generalize (E.r 65545).i 4 = x9_4
  generalize (E.r 65545).i 5 = x9_5
  generalize (E.r 65553).i 0 = x17_0
  generalize (E.r 65553).i 1 = x17_1
  generalize (E.r 65553).i 2 = x17_2
  generalize (E.r 65553).i 3 = x17_3
  generalize (E.r 65553).i 4 = x17_4
  generalize (E.r 65553).c 5 = x17_5
  try simp only [mxI, mnI]
  try simp only [ltb, leb, eqb, Int.lt_irrefl, decide_false, Int.le_refl, decide_true]
  intro hl hk
  have W0 : W 0 0 := by omega
  refine ⟨fun ⟨l0, l1, l2, l3, l4, l5, l6, l7, l8⟩ => ?_, fun n => n ⟨trivial, by omega, by omega, trivial, W0, trivial, rfl, rfl, fun j hj => absurd hj (by simp)⟩⟩
  obtain ⟨k, rfl⟩ := Int.eq_ofNat_of_zero_le l0
  simp only [Int.toNat_natCast] at l6 l7 l8
  subst l3 l5 l6
  have sa := SA_le (b := x9_1) hk l8
  have sw := SW_le l8
  have kk := hk k
  have hm : MR x9_2 x9_3 (SW xs k) k := by
    cases k with
    | zero => simp only [SA, wv] at l7; exact Or.inl ⟨rfl, rfl, by omega, by omega⟩
    | succ k => right; omega
  refine ⟨fun hlt => ⟨fun h0 => ⟨fun ⟨f1, f2, f3⟩ => ?_, fun n => n ⟨l4, by omega, by omega, by omega, by omega⟩⟩, fun h => by omega⟩, fun hge => ?_⟩
  · have e : ((k : Int) + 1 + 9223372036854775808) % 18446744073709551616 - 9223372036854775808 = ((k + 1 : Nat) : Int) := by omega
    simp only [e, Int.toNat_natCast]
    have hS : AP xs (k + 1) ↔ AP xs k ∧ PR (Sy.rowAt xs k 1) (Sy.rowAt xs k 2) := AP.succ
    cases x17_5 with
    | true =>
      obtain ⟨g1, g2, g3, g4⟩ := f1.1 rfl
      obtain ⟨q1, q2, q3, q4, q5⟩ := f2 rfl
      have e1 : SW xs (k + 1) = SW xs k + Sy.rowAt xs k 2 := rfl
      have e2 : SA x9_1 xs (k + 1) = SA x9_1 xs k + rdist x9_1 xs k := rfl
      simp only [reduceCtorEq, false_imp_iff, true_imp_iff, true_and]
      refine ⟨fun n => n ⟨by omega, by omega, by omega, q1, q2, by omega, by omega, ?_, hS.2 ⟨l8, g2⟩⟩, by omega⟩
      rw [q3, e2, l7]
    | false =>
      simp only [reduceCtorEq, false_imp_iff, true_imp_iff, true_and, and_true, false_iff]
      rintro ⟨a1, a2⟩
      have hp := a2 k (by omega)
      have d := rdist_le (b := x9_1) hk hp
      simp only [rdist, s64] at d
      have := f1.2 ⟨hm, hp, by omega, by rw [l7]; omega⟩
      cases this
  · have ek : k = xs.length := by omega
    subst ek
    simp only [true_imp_iff, true_and, and_true, true_iff, false_imp_iff]
    exact ⟨⟨by omega, l8⟩, l4, l7⟩
end Go.Proofs.YthlcpdjpnbbaeaaGreatDoor.Fn
namespace Go.Proofs.YthlcpdjpnbbaeaaGreatDoor.Fn
open Go Go.RowKit Go.Proofs.YthlcpdjpnbbaeaaGreatDoor.Sy
set_option linter.unusedVariables false
set_option linter.unusedSimpArgs false
set_option maxRecDepth 100000
def t17 : Tr :=
  .br (.f (.is (.eq (.len 0 0) (.len 0 1)) false) <|
   .ok [.tru (.lt (.n 0) (.n 0))])
  (.f (.is (.eq (.len 0 0) (.len 0 1)) true) <|
   .br (.f (.rel 101704 [.lst 0 0, .lst 0 1, .num (.n 0)] 65545 [.int .i64]) <|
    .br (.f (.is (.lt (.v 65545 0) (.len 0 0)) true) <|
     .br (.f (.is (.lt (.v 65545 0) (.n 0)) false) <|
      .br (.f (.is (.lt (.v 65545 0) (.len 0 1)) true) <|
       .br (.f (.is (.eq (.at 0 0 (.v 65545 0) 0) (.at 0 1 (.v 65545 0) 0)) false) <|
        .ok [.tru (.lt (.n 0) (.n 0))])
       (.f (.is (.eq (.at 0 0 (.v 65545 0) 0) (.at 0 1 (.v 65545 0) 0)) true) <|
        .br (.f (.nrel 101704 [.lst 0 0, .lst 0 1, .num (.n 0)] [.num (.wrap .i64 (.bin .add (.v 65545 0) (.n 1)))]) <|
         .bad)
        (.f (.ndec 101704 [.lst 0 0, .lst 0 1, .num (.n 0)] [.num (.v 65545 0)] [.num (.wrap .i64 (.bin .add (.v 65545 0) (.n 1)))]) <|
         .bad)))
      (.f (.is (.lt (.v 65545 0) (.len 0 1)) false) <|
       .bad))
     (.f (.is (.lt (.v 65545 0) (.n 0)) true) <|
      .bad))
    (.f (.is (.lt (.v 65545 0) (.len 0 0)) false) <|
     .ok [.tru (.le (.n 0) (.n 0))]))
   (.f (.nrel 101704 [.lst 0 0, .lst 0 1, .num (.n 0)] [.num (.n 0)]) <|
    .bad))
theorem c17 : ConS Tryz.prog T C17 := con_tr (cs := []) (lcs := [L101704]) (known := []) (cons_nil _ _) (Known.nil _) (N := 400) (d := 40) (t := t17) (by kernel_rfl) <| by
  intro E hl hp
  have hl0 := hl 0 _ rfl
  have hl1 := hl 1 _ rfl
  clear hl
  clear hp
  simp only [t17, C17, Tr.good, Fact.den, LX.den, DX.ls, DV.ls, DX.den, Bx.den, Ex.den, eo_add, eo_sub, eo_mul, eo_quo, eo_rem, eo_fdv, eo_mn, eo_mx, eo_land, eo_lor, eo_lxor, eo_landn, eo_shl, eo_shr, dvs, flatS, SP.flat, ST.flat, List.map_cons, List.map_nil, List.append_nil, List.cons_append, List.nil_append, ltb_t, ltb_f, leb_t, leb_f, eqb_t, eqb_f, decide_eq_true_eq, decide_eq_false_iff_not, Bool.not_eq_true', Bool.not_eq_false', Bool.and_eq_true, Bool.and_eq_false_imp, beq_iff_eq, beq_eq_false_iff_ne, bne_iff_ne, U64, U32, I64, Big, W, wv, Told, s64, WT, PR, MR, MB, Int.zero_mul, Int.zero_add, Int.add_zero, Int.mul_zero, IntKind.wrap_u64, IntKind.wrap_i64, IntKind.wrap_u32, ne_eq, forall_const, true_implies, show T.rel 17 = R17 from rfl, R17, show T.rel 101704 = R101704 from rfl, R101704, show T.mu 101704 = M101704 from rfl, M101704]
  revert hl0 hl1
  generalize (E.r 0).l 0 = a
  generalize (E.r 0).l 1 = c
  generalize (E.r 65545).i 0 = x9_0
  try simp only [mxI, mnI]
  try simp only [ltb, leb, eqb, Int.lt_irrefl, decide_false, Int.le_refl, decide_true]
  intro hl hl2
  have m1 := hl.2
  simp only [maxLen] at m1
  refine ⟨fun h => ⟨fun f => f.elim, fun f => by omega⟩, fun h => ⟨fun ⟨i0, i1, i2⟩ => ⟨fun c1 => ⟨fun _ => ⟨fun c2 => ⟨fun ne => ⟨fun f => f.elim, fun f => ?_⟩, fun e => ?_⟩, fun f => by omega⟩, fun f => by omega⟩, fun c1 => ⟨fun _ => ⟨by omega, fun j hj => i2 j (by omega)⟩, fun _ => trivial⟩⟩, fun n => n ⟨trivial, by omega, fun j hj => by omega⟩⟩⟩
  · obtain ⟨k, rfl⟩ := Int.eq_ofNat_of_zero_le i0
    exact ne (f.2 k (by omega))
  · have ew : (x9_0 + 1 + 9223372036854775808) % 18446744073709551616 - 9223372036854775808 = x9_0 + 1 := by omega
    rw [ew]
    refine ⟨fun n => n ⟨by omega, by omega, fun j hj => ?_⟩, by omega⟩
    by_cases ej : (j : Int) = x9_0
    · rw [ej]; exact e
    · exact i2 j (by omega)
end Go.Proofs.YthlcpdjpnbbaeaaGreatDoor.Fn
namespace Go.Proofs.YthlcpdjpnbbaeaaGreatDoor.Fn
open Go Go.RowKit Go.Proofs.YthlcpdjpnbbaeaaGreatDoor.Sy
set_option linter.unusedVariables false
set_option linter.unusedSimpArgs false
set_option maxRecDepth 100000
def t105 : Tr :=
  .br (.f (.is (.lt (.v 0 0) (.v 0 2)) true) <|
   .br (.f (.is (.lt (.v 0 1) (.v 0 3)) true) <|
    .ok [.num (.n (-1))])
   (.f (.is (.lt (.v 0 1) (.v 0 3)) false) <|
    .br (.f (.is (.lt (.v 0 3) (.v 0 1)) true) <|
     .ok [.num (.n (-1))])
    (.f (.is (.lt (.v 0 3) (.v 0 1)) false) <|
     .ok [.num (.n (-1))])))
  (.f (.is (.lt (.v 0 0) (.v 0 2)) false) <|
   .br (.f (.is (.lt (.v 0 2) (.v 0 0)) true) <|
    .br (.f (.is (.lt (.v 0 1) (.v 0 3)) true) <|
     .ok [.num (.n 1)])
    (.f (.is (.lt (.v 0 1) (.v 0 3)) false) <|
     .br (.f (.is (.lt (.v 0 3) (.v 0 1)) true) <|
      .ok [.num (.n 1)])
     (.f (.is (.lt (.v 0 3) (.v 0 1)) false) <|
      .ok [.num (.n 1)])))
   (.f (.is (.lt (.v 0 2) (.v 0 0)) false) <|
    .br (.f (.is (.lt (.v 0 1) (.v 0 3)) true) <|
     .ok [.num (.n (-1))])
    (.f (.is (.lt (.v 0 1) (.v 0 3)) false) <|
     .br (.f (.is (.lt (.v 0 3) (.v 0 1)) true) <|
      .ok [.num (.n 1)])
     (.f (.is (.lt (.v 0 3) (.v 0 1)) false) <|
      .ok [.num (.n 0)]))))
theorem c105 : ConS Tryz.prog T C105 := con_tr (cs := []) (lcs := []) (known := []) (cons_nil _ _) (Known.nil _) (N := 400) (d := 40) (t := t105) (by kernel_rfl) <| by
  intro E hl hp
  clear hl
  have hp := hp rfl
  simp only [C105, show T.pre 105 = Q105 from rfl, flatS, SP.flat, dvs, List.append_nil, List.cons_append, List.nil_append, Q105, U64, U32, I64, Big, W, wv, s64, WT, PR, MR, MB] at hp
  simp only [t105, C105, Tr.good, Fact.den, LX.den, DX.ls, DV.ls, DX.den, Bx.den, Ex.den, eo_add, eo_sub, eo_mul, eo_quo, eo_rem, eo_fdv, eo_mn, eo_mx, eo_land, eo_lor, eo_lxor, eo_landn, eo_shl, eo_shr, dvs, flatS, SP.flat, ST.flat, List.map_cons, List.map_nil, List.append_nil, List.cons_append, List.nil_append, ltb_t, ltb_f, leb_t, leb_f, eqb_t, eqb_f, decide_eq_true_eq, decide_eq_false_iff_not, Bool.not_eq_true', Bool.not_eq_false', Bool.and_eq_true, Bool.and_eq_false_imp, beq_iff_eq, beq_eq_false_iff_ne, bne_iff_ne, U64, U32, I64, Big, W, wv, Told, s64, WT, PR, MR, MB, Int.zero_mul, Int.zero_add, Int.add_zero, Int.mul_zero, IntKind.wrap_u64, IntKind.wrap_i64, IntKind.wrap_u32, ne_eq, forall_const, true_implies, show T.rel 105 = R105 from rfl, R105, show T.pre 105 = Q105 from rfl, Q105]
  revert hp
  generalize (E.r 0).i 0 = ah
  generalize (E.r 0).i 1 = al
  generalize (E.r 0).i 2 = bh
  generalize (E.r 0).i 3 = bl
  try simp only [mxI, mnI]
  try simp only [ltb, leb, eqb, Int.lt_irrefl, decide_false, Int.le_refl, decide_true]
  repeat' (first | intro _ | refine And.intro ?_ ?_ | refine Iff.intro ?_ ?_)
  all_goals first | omega | (simp_all; done) | (simp_all; omega)
end Go.Proofs.YthlcpdjpnbbaeaaGreatDoor.Fn
namespace Go.Proofs.YthlcpdjpnbbaeaaGreatDoor.Fn
open Go Go.RowKit Go.Proofs.YthlcpdjpnbbaeaaGreatDoor.Sy
set_option linter.unusedVariables false
set_option linter.unusedSimpArgs false
set_option maxRecDepth 100000
def t67 : Tr :=
  .br (.f (.rel 105 [.num (.v 0 0), .num (.v 0 1), .num (.n 0), .num (.n 0)] 65540 [.int .i64]) <|
   .ok [.num (.v 65540 0)])
  (.f (.npre 105 [.num (.v 0 0), .num (.v 0 1), .num (.n 0), .num (.n 0)]) <|
   .bad)
theorem c67 : ConS Tryz.prog T C67 := con_tr (cs := [C105]) (lcs := []) (known := []) (cons_cons c105 (cons_nil _ _)) (Known.nil _) (N := 400) (d := 40) (t := t67) (by kernel_rfl) <| by
  intro E hl hp
  clear hl
  have hp := hp rfl
  simp only [C67, show T.pre 67 = Q67 from rfl, flatS, SP.flat, dvs, List.append_nil, List.cons_append, List.nil_append, Q67, U64, U32, I64, Big, W, wv, s64, WT, PR, MR, MB] at hp
  simp only [t67, C67, Tr.good, Fact.den, LX.den, DX.ls, DV.ls, DX.den, Bx.den, Ex.den, eo_add, eo_sub, eo_mul, eo_quo, eo_rem, eo_fdv, eo_mn, eo_mx, eo_land, eo_lor, eo_lxor, eo_landn, eo_shl, eo_shr, dvs, flatS, SP.flat, ST.flat, List.map_cons, List.map_nil, List.append_nil, List.cons_append, List.nil_append, ltb_t, ltb_f, leb_t, leb_f, eqb_t, eqb_f, decide_eq_true_eq, decide_eq_false_iff_not, Bool.not_eq_true', Bool.not_eq_false', Bool.and_eq_true, Bool.and_eq_false_imp, beq_iff_eq, beq_eq_false_iff_ne, bne_iff_ne, U64, U32, I64, Big, W, wv, Told, s64, WT, PR, MR, MB, Int.zero_mul, Int.zero_add, Int.add_zero, Int.mul_zero, IntKind.wrap_u64, IntKind.wrap_i64, IntKind.wrap_u32, ne_eq, forall_const, true_implies, show T.rel 67 = R67 from rfl, R67, show T.rel 105 = R105 from rfl, R105, show T.pre 67 = Q67 from rfl, Q67, show T.pre 105 = Q105 from rfl, Q105]
  revert hp
  generalize (E.r 0).i 0 = h
  generalize (E.r 0).i 1 = l
  generalize (E.r 65540).i 0 = x4_0
  try simp only [mxI, mnI]
  try simp only [ltb, leb, eqb, Int.lt_irrefl, decide_false, Int.le_refl, decide_true]
  repeat' (first | intro _ | refine And.intro ?_ ?_ | refine Iff.intro ?_ ?_)
  all_goals first | omega | (simp_all; done) | (simp_all; omega)
end Go.Proofs.YthlcpdjpnbbaeaaGreatDoor.Fn
