/- What is told of the functions, shown: turnstone/wide.OfU, math/bits.Add64, (turnstone/wide.Int).Add, turnstone/pos.weight, math/bits.Sub64, (turnstone/wide.Int).flip, (turnstone/wide.Int).size, math/bits.Len64, math/bits.LeadingZeros64, math/bits.Div64. -/
import Derived.Test.YtjemohphaeiaiaaGreatDoorTab
namespace Go.Proofs.YtjemohphaeiaiaaGreatDoor.Fn
open Go Go.RowKit Go.Proofs.YtjemohphaeiaiaaGreatDoor.Sy
set_option linter.unusedVariables false
set_option linter.unusedSimpArgs false
set_option maxRecDepth 100000
def t34 : Tr :=
  .ok [.num (.n 0), .num (.v 0 0)]
theorem c34 : ConS Tryz.prog T C34 := con_tr (cs := []) (lcs := []) (known := []) (cons_nil _ _) (Known.nil _) (N := 400) (d := 40) (t := t34) (by kernel_rfl) <| by
  intro E hl hp
  clear hl
  clear hp
  simp only [t34, C34, Tr.good, Fact.den, LX.den, DX.ls, DV.ls, DX.den, Bx.den, Ex.den, eo_add, eo_sub, eo_mul, eo_quo, eo_rem, eo_fdv, eo_mn, eo_mx, eo_land, eo_lor, eo_lxor, eo_landn, eo_shl, eo_shr, dvs, flatS, SP.flat, ST.flat, List.map_cons, List.map_nil, List.append_nil, List.cons_append, List.nil_append, ltb_t, ltb_f, leb_t, leb_f, eqb_t, eqb_f, decide_eq_true_eq, decide_eq_false_iff_not, Bool.not_eq_true', Bool.not_eq_false', Bool.and_eq_true, Bool.and_eq_false_imp, beq_iff_eq, beq_eq_false_iff_ne, bne_iff_ne, U64, U32, I64, Big, W, wv, Told, s64, WT, PR, MR, MB, Int.zero_mul, Int.zero_add, Int.add_zero, Int.mul_zero, IntKind.wrap_u64, IntKind.wrap_i64, IntKind.wrap_u32, ne_eq, forall_const, true_implies, show T.rel 34 = R34 from rfl, R34]
  generalize (E.r 0).i 0 = x
  try simp only [mxI, mnI]
  try simp only [ltb, leb, eqb, Int.lt_irrefl, decide_false, Int.le_refl, decide_true]
  repeat' (first | intro _ | refine And.intro ?_ ?_ | refine Iff.intro ?_ ?_)
  all_goals first | omega | (simp_all; done) | (simp_all; omega)
end Go.Proofs.YtjemohphaeiaiaaGreatDoor.Fn
namespace Go.Proofs.YtjemohphaeiaiaaGreatDoor.Fn
open Go Go.RowKit Go.Proofs.YtjemohphaeiaiaaGreatDoor.Sy
set_option linter.unusedVariables false
set_option linter.unusedSimpArgs false
set_option maxRecDepth 100000

theorem small_cases47 (c : Int) (hc : c ≤ 1) : c = Int.ofNat 0 ∨ c = Int.ofNat 1 ∨ ∃ n, c = Int.negSucc n := by
  cases c with
  | ofNat n => match n, hc with
    | 0, _ => exact .inl rfl
    | 1, _ => exact .inr (.inl rfl)
    | n + 2, h => exact absurd h (by simp only [Int.ofNat_eq_natCast]; omega)
  | negSucc n => exact .inr (.inr ⟨n, rfl⟩)
theorem run47 (a b c : Int) (hc : c ≤ 1) (w : World) :
    (callFunc 47 #[.int .u64 a, .int .u64 b, .int .u64 c]).run Tryz.prog w = .ok (.value (.tuple #[.int .u64 (((a.toNat + b.toNat + c.toNat) % 18446744073709551616 : Nat) : Int), .int .u64 (((a.toNat + b.toNat + c.toNat) / 18446744073709551616 : Nat) : Int)])) w := by
  rw [run_callFunc_extern Tryz.func47 (by kernel_rfl) (by kernel_rfl) (by kernel_rfl) (e := add64Entry) (by kernel_rfl)]
  rcases small_cases47 c hc with rfl | rfl | ⟨n, rfl⟩ <;> rfl
theorem c47 : ConS Tryz.prog T C47 := con_ext (by kernel_rfl) rfl fun r w hp => by
  have hp : U64 (r.i 0) ∧ U64 (r.i 1) ∧ 0 ≤ r.i 2 ∧ r.i 2 ≤ 1 := hp rfl
  have hc : r.i 2 ≤ 1 := hp.2.2.2
  refine ⟨⟨fun j => if j = 0 then (((((r.i 0).toNat + (r.i 1).toNat + (r.i 2).toNat) % 18446744073709551616 : Nat)) : Int) else ((((r.i 0).toNat + (r.i 1).toNat + (r.i 2).toNat) / 18446744073709551616 : Nat) : Int), fun _ => false, fun _ => [], fun _ => none, fun _ => 0, fun _ => undef⟩, run47 (r.i 0) (r.i 1) (r.i 2) hc w, ?_⟩
  show R47 [.num (r.i 0), .num (r.i 1), .num (r.i 2)] [.num _, .num _]
  simp only [R47]
  constructor <;> simp <;> omega
end Go.Proofs.YtjemohphaeiaiaaGreatDoor.Fn
namespace Go.Proofs.YtjemohphaeiaiaaGreatDoor.Fn
open Go Go.RowKit Go.Proofs.YtjemohphaeiaiaaGreatDoor.Sy
set_option linter.unusedVariables false
set_option linter.unusedSimpArgs false
set_option maxRecDepth 100000
def t35 : Tr :=
  .br (.f (.rel 47 [.num (.v 0 1), .num (.v 0 3), .num (.n 0)] 65544 [.int .u64, .int .u64]) <|
   .br (.f (.rel 47 [.num (.wrap .u64 (.v 0 0)), .num (.wrap .u64 (.v 0 2)), .num (.v 65544 1)] 65557 [.int .u64, .int .u64]) <|
    .br (.f (.is (.beq (.lt (.v 0 0) (.n 0)) (.lt (.v 0 2) (.n 0))) true) <|
     .br (.f (.is (.beq (.lt (.v 0 0) (.n 0)) (.lt (.wrap .i64 (.v 65557 0)) (.n 0))) false) <|
      .ok [.num (.n 0), .num (.n 0), .tru (.lt (.n 0) (.n 0))])
     (.f (.is (.beq (.lt (.v 0 0) (.n 0)) (.lt (.wrap .i64 (.v 65557 0)) (.n 0))) true) <|
      .ok [.num (.wrap .i64 (.v 65557 0)), .num (.v 65544 0), .tru (.le (.n 0) (.n 0))]))
    (.f (.is (.beq (.lt (.v 0 0) (.n 0)) (.lt (.v 0 2) (.n 0))) false) <|
     .ok [.num (.wrap .i64 (.v 65557 0)), .num (.v 65544 0), .tru (.le (.n 0) (.n 0))]))
   (.f (.npre 47 [.num (.wrap .u64 (.v 0 0)), .num (.wrap .u64 (.v 0 2)), .num (.v 65544 1)]) <|
    .bad))
  (.f (.npre 47 [.num (.v 0 1), .num (.v 0 3), .num (.n 0)]) <|
   .bad)
theorem c35 : ConS Tryz.prog T C35 := con_tr (cs := [C47]) (lcs := []) (known := []) (cons_cons c47 (cons_nil _ _)) (Known.nil _) (N := 400) (d := 40) (t := t35) (by kernel_rfl) <| by
  intro E hl hp
  clear hl
  have hp := hp rfl
  simp only [C35, show T.pre 35 = Q35 from rfl, flatS, SP.flat, dvs, List.append_nil, List.cons_append, List.nil_append, Q35, U64, U32, I64, Big, W, wv, s64, WT, PR, MR, MB] at hp
  simp only [t35, C35, Tr.good, Fact.den, LX.den, DX.ls, DV.ls, DX.den, Bx.den, Ex.den, eo_add, eo_sub, eo_mul, eo_quo, eo_rem, eo_fdv, eo_mn, eo_mx, eo_land, eo_lor, eo_lxor, eo_landn, eo_shl, eo_shr, dvs, flatS, SP.flat, ST.flat, List.map_cons, List.map_nil, List.append_nil, List.cons_append, List.nil_append, ltb_t, ltb_f, leb_t, leb_f, eqb_t, eqb_f, decide_eq_true_eq, decide_eq_false_iff_not, Bool.not_eq_true', Bool.not_eq_false', Bool.and_eq_true, Bool.and_eq_false_imp, beq_iff_eq, beq_eq_false_iff_ne, bne_iff_ne, U64, U32, I64, Big, W, wv, Told, s64, WT, PR, MR, MB, Int.zero_mul, Int.zero_add, Int.add_zero, Int.mul_zero, IntKind.wrap_u64, IntKind.wrap_i64, IntKind.wrap_u32, ne_eq, forall_const, true_implies, show T.rel 35 = R35 from rfl, R35, show T.rel 47 = R47 from rfl, R47, show T.pre 35 = Q35 from rfl, Q35, show T.pre 47 = Q47 from rfl, Q47]
  revert hp
  generalize (E.r 0).i 0 = ah
  generalize (E.r 0).i 1 = al
  generalize (E.r 0).i 2 = bh
  generalize (E.r 0).i 3 = bl
  generalize (E.r 65544).i 0 = x8_0
  generalize (E.r 65544).i 1 = x8_1
  generalize (E.r 65557).i 0 = x21_0
  generalize (E.r 65557).i 1 = x21_1
  try simp only [mxI, mnI]
  try simp only [ltb, leb, eqb, Int.lt_irrefl, decide_false, Int.le_refl, decide_true]
  repeat' (first | intro _ | refine And.intro ?_ ?_ | refine Iff.intro ?_ ?_)
  all_goals first | omega | (simp_all; done) | (simp_all; omega)
end Go.Proofs.YtjemohphaeiaiaaGreatDoor.Fn
namespace Go.Proofs.YtjemohphaeiaiaaGreatDoor.Fn
open Go Go.RowKit Go.Proofs.YtjemohphaeiaiaaGreatDoor.Sy
set_option linter.unusedVariables false
set_option linter.unusedSimpArgs false
set_option maxRecDepth 100000
def t33 : Tr :=
  .br (.f (.is (.le (.n 1) (.v 0 0)) true) <|
   .ok [.tru (.le (.v 0 0) (.n 1048576))])
  (.f (.is (.le (.n 1) (.v 0 0)) false) <|
   .ok [.tru (.lt (.n 0) (.n 0))])
theorem c33 : ConS Tryz.prog T C33 := con_tr (cs := []) (lcs := []) (known := []) (cons_nil _ _) (Known.nil _) (N := 400) (d := 40) (t := t33) (by kernel_rfl) <| by
  intro E hl hp
  clear hl
  clear hp
  simp only [t33, C33, Tr.good, Fact.den, LX.den, DX.ls, DV.ls, DX.den, Bx.den, Ex.den, eo_add, eo_sub, eo_mul, eo_quo, eo_rem, eo_fdv, eo_mn, eo_mx, eo_land, eo_lor, eo_lxor, eo_landn, eo_shl, eo_shr, dvs, flatS, SP.flat, ST.flat, List.map_cons, List.map_nil, List.append_nil, List.cons_append, List.nil_append, ltb_t, ltb_f, leb_t, leb_f, eqb_t, eqb_f, decide_eq_true_eq, decide_eq_false_iff_not, Bool.not_eq_true', Bool.not_eq_false', Bool.and_eq_true, Bool.and_eq_false_imp, beq_iff_eq, beq_eq_false_iff_ne, bne_iff_ne, U64, U32, I64, Big, W, wv, Told, s64, WT, PR, MR, MB, Int.zero_mul, Int.zero_add, Int.add_zero, Int.mul_zero, IntKind.wrap_u64, IntKind.wrap_i64, IntKind.wrap_u32, ne_eq, forall_const, true_implies, show T.rel 33 = R33 from rfl, R33]
  generalize (E.r 0).i 0 = w
  try simp only [mxI, mnI]
  try simp only [ltb, leb, eqb, Int.lt_irrefl, decide_false, Int.le_refl, decide_true]
  repeat' (first | intro _ | refine And.intro ?_ ?_ | refine Iff.intro ?_ ?_)
  all_goals first | omega | (simp_all; done) | (simp_all; omega)
end Go.Proofs.YtjemohphaeiaiaaGreatDoor.Fn
namespace Go.Proofs.YtjemohphaeiaiaaGreatDoor.Fn
open Go Go.RowKit Go.Proofs.YtjemohphaeiaiaaGreatDoor.Sy
set_option linter.unusedVariables false
set_option linter.unusedSimpArgs false
set_option maxRecDepth 100000

def row90 : Array Value → Sem Value := fun args => do
  let (x, y, b) ← Extern.MathBitsCarry.three "Sub64" args
  pure (Extern.MathBitsCarry.pair ((x + Extern.MathBitsCarry.m64 - y - b) % Extern.MathBitsCarry.m64) (if x < y + b then 1 else 0))
theorem small_cases90 (c : Int) (hc : c ≤ 1) : c = Int.ofNat 0 ∨ c = Int.ofNat 1 ∨ ∃ n, c = Int.negSucc n := by
  cases c with
  | ofNat n => match n, hc with
    | 0, _ => exact .inl rfl
    | 1, _ => exact .inr (.inl rfl)
    | n + 2, h => exact absurd h (by simp only [Int.ofNat_eq_natCast]; omega)
  | negSucc n => exact .inr (.inr ⟨n, rfl⟩)
theorem run90 (a b c : Int) (hc : c ≤ 1) (w : World) :
    (callFunc 90 #[.int .u64 a, .int .u64 b, .int .u64 c]).run Tryz.prog w = .ok (.value (.tuple #[.int .u64 (((a.toNat + 18446744073709551616 - b.toNat - c.toNat) % 18446744073709551616 : Nat) : Int), .int .u64 ((if a.toNat < b.toNat + c.toNat then 1 else 0 : Nat) : Int)])) w := by
  rw [run_callFunc_extern Tryz.func90 (by kernel_rfl) (by kernel_rfl) (by kernel_rfl) (e := row90) (by kernel_rfl)]
  rcases small_cases90 c hc with rfl | rfl | ⟨n, rfl⟩ <;> rfl
theorem c90 : ConS Tryz.prog T C90 := con_ext (by kernel_rfl) rfl fun r w hp => by
  have hp : U64 (r.i 0) ∧ U64 (r.i 1) ∧ 0 ≤ r.i 2 ∧ r.i 2 ≤ 1 := hp rfl
  have hc : r.i 2 ≤ 1 := hp.2.2.2
  refine ⟨⟨fun j => if j = 0 then (((((r.i 0).toNat + 18446744073709551616 - (r.i 1).toNat - (r.i 2).toNat) % 18446744073709551616 : Nat)) : Int) else ((if (r.i 0).toNat < (r.i 1).toNat + (r.i 2).toNat then 1 else 0 : Nat) : Int), fun _ => false, fun _ => [], fun _ => none, fun _ => 0, fun _ => undef⟩, run90 (r.i 0) (r.i 1) (r.i 2) hc w, ?_⟩
  show R90 [.num (r.i 0), .num (r.i 1), .num (r.i 2)] [.num _, .num _]
  simp only [R90]
  refine ⟨by simp; omega, fun h2 => ?_, fun h2 => ?_⟩
  · show ((if (r.i 0).toNat < (r.i 1).toNat + (r.i 2).toNat then 1 else 0 : Nat) : Int) = _
    rw [if_pos (by omega)]; rfl
  · show ((if (r.i 0).toNat < (r.i 1).toNat + (r.i 2).toNat then 1 else 0 : Nat) : Int) = _
    rw [if_neg (by omega)]; rfl
end Go.Proofs.YtjemohphaeiaiaaGreatDoor.Fn
namespace Go.Proofs.YtjemohphaeiaiaaGreatDoor.Fn
open Go Go.RowKit Go.Proofs.YtjemohphaeiaiaaGreatDoor.Sy
set_option linter.unusedVariables false
set_option linter.unusedSimpArgs false
set_option maxRecDepth 100000
def t73 : Tr :=
  .br (.f (.rel 90 [.num (.n 0), .num (.v 0 1), .num (.n 0)] 65540 [.int .u64, .int .u64]) <|
   .br (.f (.rel 90 [.num (.n 0), .num (.wrap .u64 (.v 0 0)), .num (.v 65540 1)] 65550 [.int .u64, .int .u64]) <|
    .ok [.num (.wrap .i64 (.v 65550 0)), .num (.v 65540 0)])
   (.f (.npre 90 [.num (.n 0), .num (.wrap .u64 (.v 0 0)), .num (.v 65540 1)]) <|
    .bad))
  (.f (.npre 90 [.num (.n 0), .num (.v 0 1), .num (.n 0)]) <|
   .bad)
theorem c73 : ConS Tryz.prog T C73 := con_tr (cs := [C90]) (lcs := []) (known := []) (cons_cons c90 (cons_nil _ _)) (Known.nil _) (N := 400) (d := 40) (t := t73) (by kernel_rfl) <| by
  intro E hl hp
  clear hl
  have hp := hp rfl
  simp only [C73, show T.pre 73 = Q73 from rfl, flatS, SP.flat, dvs, List.append_nil, List.cons_append, List.nil_append, Q73, U64, U32, I64, Big, W, wv, s64, WT, PR, MR, MB] at hp
  simp only [t73, C73, Tr.good, Fact.den, LX.den, DX.ls, DV.ls, DX.den, Bx.den, Ex.den, eo_add, eo_sub, eo_mul, eo_quo, eo_rem, eo_fdv, eo_mn, eo_mx, eo_land, eo_lor, eo_lxor, eo_landn, eo_shl, eo_shr, dvs, flatS, SP.flat, ST.flat, List.map_cons, List.map_nil, List.append_nil, List.cons_append, List.nil_append, ltb_t, ltb_f, leb_t, leb_f, eqb_t, eqb_f, decide_eq_true_eq, decide_eq_false_iff_not, Bool.not_eq_true', Bool.not_eq_false', Bool.and_eq_true, Bool.and_eq_false_imp, beq_iff_eq, beq_eq_false_iff_ne, bne_iff_ne, U64, U32, I64, Big, W, wv, Told, s64, WT, PR, MR, MB, Int.zero_mul, Int.zero_add, Int.add_zero, Int.mul_zero, IntKind.wrap_u64, IntKind.wrap_i64, IntKind.wrap_u32, ne_eq, forall_const, true_implies, show T.rel 73 = R73 from rfl, R73, show T.rel 90 = R90 from rfl, R90, show T.pre 73 = Q73 from rfl, Q73, show T.pre 90 = Q90 from rfl, Q90]
  revert hp
  generalize (E.r 0).i 0 = h
  generalize (E.r 0).i 1 = l
  generalize (E.r 65540).i 0 = x4_0
  generalize (E.r 65540).i 1 = x4_1
  generalize (E.r 65550).i 0 = x14_0
  generalize (E.r 65550).i 1 = x14_1
  try simp only [mxI, mnI]
  try simp only [ltb, leb, eqb, Int.lt_irrefl, decide_false, Int.le_refl, decide_true]
  repeat' (first | intro _ | refine And.intro ?_ ?_ | refine Iff.intro ?_ ?_)
  all_goals first | omega | (simp_all; done) | (simp_all; omega)
end Go.Proofs.YtjemohphaeiaiaaGreatDoor.Fn
namespace Go.Proofs.YtjemohphaeiaiaaGreatDoor.Fn
open Go Go.RowKit Go.Proofs.YtjemohphaeiaiaaGreatDoor.Sy
set_option linter.unusedVariables false
set_option linter.unusedSimpArgs false
set_option maxRecDepth 100000
def t71 : Tr :=
  .br (.f (.is (.lt (.v 0 0) (.n 0)) true) <|
   .br (.f (.rel 73 [.num (.v 0 0), .num (.v 0 1)] 65543 [.int .i64, .int .u64]) <|
    .ok [.num (.wrap .u64 (.v 65543 0)), .num (.v 65543 1)])
   (.f (.npre 73 [.num (.v 0 0), .num (.v 0 1)]) <|
    .bad))
  (.f (.is (.lt (.v 0 0) (.n 0)) false) <|
   .ok [.num (.wrap .u64 (.v 0 0)), .num (.v 0 1)])
theorem c71 : ConS Tryz.prog T C71 := con_tr (cs := [C73]) (lcs := []) (known := []) (cons_cons c73 (cons_nil _ _)) (Known.nil _) (N := 400) (d := 40) (t := t71) (by kernel_rfl) <| by
  intro E hl hp
  clear hl
  have hp := hp rfl
  simp only [C71, show T.pre 71 = Q71 from rfl, flatS, SP.flat, dvs, List.append_nil, List.cons_append, List.nil_append, Q71, U64, U32, I64, Big, W, wv, s64, WT, PR, MR, MB] at hp
  simp only [t71, C71, Tr.good, Fact.den, LX.den, DX.ls, DV.ls, DX.den, Bx.den, Ex.den, eo_add, eo_sub, eo_mul, eo_quo, eo_rem, eo_fdv, eo_mn, eo_mx, eo_land, eo_lor, eo_lxor, eo_landn, eo_shl, eo_shr, dvs, flatS, SP.flat, ST.flat, List.map_cons, List.map_nil, List.append_nil, List.cons_append, List.nil_append, ltb_t, ltb_f, leb_t, leb_f, eqb_t, eqb_f, decide_eq_true_eq, decide_eq_false_iff_not, Bool.not_eq_true', Bool.not_eq_false', Bool.and_eq_true, Bool.and_eq_false_imp, beq_iff_eq, beq_eq_false_iff_ne, bne_iff_ne, U64, U32, I64, Big, W, wv, Told, s64, WT, PR, MR, MB, Int.zero_mul, Int.zero_add, Int.add_zero, Int.mul_zero, IntKind.wrap_u64, IntKind.wrap_i64, IntKind.wrap_u32, ne_eq, forall_const, true_implies, show T.rel 71 = R71 from rfl, R71, show T.rel 73 = R73 from rfl, R73, show T.pre 71 = Q71 from rfl, Q71, show T.pre 73 = Q73 from rfl, Q73]
  revert hp
  generalize (E.r 0).i 0 = h
  generalize (E.r 0).i 1 = l
  generalize (E.r 65543).i 0 = x7_0
  generalize (E.r 65543).i 1 = x7_1
  try simp only [mxI, mnI]
  try simp only [ltb, leb, eqb, Int.lt_irrefl, decide_false, Int.le_refl, decide_true]
  repeat' (first | intro _ | refine And.intro ?_ ?_ | refine Iff.intro ?_ ?_)
  all_goals first | omega | (simp_all; done) | (simp_all; omega)
end Go.Proofs.YtjemohphaeiaiaaGreatDoor.Fn
namespace Go.Proofs.YtjemohphaeiaiaaGreatDoor.Fn
open Go Go.RowKit Go.Proofs.YtjemohphaeiaiaaGreatDoor.Sy
set_option linter.unusedVariables false
set_option linter.unusedSimpArgs false
set_option maxRecDepth 100000

set_option maxHeartbeats 4000000 in
set_option maxRecDepth 100000 in
theorem calls107 (x : Int) (w : World) (h0 : 0 ≤ x) (h1 : x ≤ 18446744073709551615) :
    Calls Tryz.prog 107 #[.int .u64 x] w fun e w' => e = .returned (.int .i64 (Lib.bitLen x.toNat)) ∧ w' = w := by
  go_enter Tryz.func107, Tryz.ntmps107
  go_wp2
  all_goals (go_ret; refine ⟨congrArg Ending.returned (congrArg (Value.int IntKind.i64) ?_), rfl⟩)
  all_goals first
    | (rw [Lib.len8_of (x / 4294967296 / 65536 / 256 % 256) (by omega) (by omega)]
       have e : (x / 4294967296 / 65536 / 256 % 256).toNat = x.toNat / 72057594037927936 := by omega
       have l := Lib.bitLen_le8' (x / 4294967296 / 65536 / 256 % 256) (by omega) (by omega)
       have s := Lib.bitLen_shift56 x.toNat (by omega) (by omega)
       rw [e] at l ⊢
       omega)
    | (rw [Lib.len8_of (x / 4294967296 / 65536 % 256) (by omega) (by omega)]
       have e : (x / 4294967296 / 65536 % 256).toNat = x.toNat / 281474976710656 := by omega
       have l := Lib.bitLen_le8' (x / 4294967296 / 65536 % 256) (by omega) (by omega)
       have s := Lib.bitLen_shift48 x.toNat (by omega) (by omega)
       rw [e] at l ⊢
       omega)
    | (rw [Lib.len8_of (x / 4294967296 / 256 % 256) (by omega) (by omega)]
       have e : (x / 4294967296 / 256 % 256).toNat = x.toNat / 1099511627776 := by omega
       have l := Lib.bitLen_le8' (x / 4294967296 / 256 % 256) (by omega) (by omega)
       have s := Lib.bitLen_shift40 x.toNat (by omega) (by omega)
       rw [e] at l ⊢
       omega)
    | (rw [Lib.len8_of (x / 4294967296 % 256) (by omega) (by omega)]
       have e : (x / 4294967296 % 256).toNat = x.toNat / 4294967296 := by omega
       have l := Lib.bitLen_le8' (x / 4294967296 % 256) (by omega) (by omega)
       have s := Lib.bitLen_shift32 x.toNat (by omega) (by omega)
       rw [e] at l ⊢
       omega)
    | (rw [Lib.len8_of (x / 65536 / 256 % 256) (by omega) (by omega)]
       have e : (x / 65536 / 256 % 256).toNat = x.toNat / 16777216 := by omega
       have l := Lib.bitLen_le8' (x / 65536 / 256 % 256) (by omega) (by omega)
       have s := Lib.bitLen_shift24 x.toNat (by omega) (by omega)
       rw [e] at l ⊢
       omega)
    | (rw [Lib.len8_of (x / 65536 % 256) (by omega) (by omega)]
       have e : (x / 65536 % 256).toNat = x.toNat / 65536 := by omega
       have l := Lib.bitLen_le8' (x / 65536 % 256) (by omega) (by omega)
       have s := Lib.bitLen_shift16 x.toNat (by omega) (by omega)
       rw [e] at l ⊢
       omega)
    | (rw [Lib.len8_of (x / 256 % 256) (by omega) (by omega)]
       have e : (x / 256 % 256).toNat = x.toNat / 256 := by omega
       have l := Lib.bitLen_le8' (x / 256 % 256) (by omega) (by omega)
       have s := Lib.bitLen_shift8 x.toNat (by omega) (by omega)
       rw [e] at l ⊢
       omega)
    | (rw [Lib.len8_of (x % 256) (by omega) (by omega)]
       have e : (x % 256).toNat = x.toNat := by omega
       have l := Lib.bitLen_le8' (x % 256) (by omega) (by omega)
       rw [e] at l ⊢
       omega)
theorem c107 : ConS Tryz.prog T C107 := by
  intro r w _ hp
  have hp : U64 (r.i 0) := hp rfl
  unfold Invoked
  rw [if_pos (by kernel_rfl)]
  refine (calls107 (r.i 0) w hp.1 (by have := hp.2; omega)).mono ?_
  rintro e w' ⟨rfl, rfl⟩
  exact ⟨⟨fun _ => (Lib.bitLen (r.i 0).toNat : Int), fun _ => false, fun _ => [], fun _ => none, fun _ => 0, fun _ => undef⟩, rfl, rfl, Below.refl _ _, fun j ks hj => by match j, hj with | 0, hj => cases hj | _ + 1, hj => cases hj⟩
end Go.Proofs.YtjemohphaeiaiaaGreatDoor.Fn
namespace Go.Proofs.YtjemohphaeiaiaaGreatDoor.Fn
open Go Go.RowKit Go.Proofs.YtjemohphaeiaiaaGreatDoor.Sy
set_option linter.unusedVariables false
set_option linter.unusedSimpArgs false
set_option maxRecDepth 100000
def t89 : Tr :=
  .br (.f (.rel 107 [.num (.v 0 0)] 65538 [.int .i64]) <|
   .ok [.num (.wrap .i64 (.bin .sub (.n 64) (.v 65538 0)))])
  (.f (.npre 107 [.num (.v 0 0)]) <|
   .bad)
theorem c89 : ConS Tryz.prog T C89 := con_tr (cs := [C107]) (lcs := []) (known := []) (cons_cons c107 (cons_nil _ _)) (Known.nil _) (N := 400) (d := 40) (t := t89) (by kernel_rfl) <| by
  intro E hl hp
  clear hl
  have hp := hp rfl
  simp only [C89, show T.pre 89 = Q89 from rfl, flatS, SP.flat, dvs, List.append_nil, List.cons_append, List.nil_append, Q89, U64, U32, I64, Big, W, wv, s64, WT, PR, MR, MB] at hp
  simp only [t89, C89, Tr.good, Fact.den, LX.den, DX.ls, DV.ls, DX.den, Bx.den, Ex.den, eo_add, eo_sub, eo_mul, eo_quo, eo_rem, eo_fdv, eo_mn, eo_mx, eo_land, eo_lor, eo_lxor, eo_landn, eo_shl, eo_shr, dvs, flatS, SP.flat, ST.flat, List.map_cons, List.map_nil, List.append_nil, List.cons_append, List.nil_append, ltb_t, ltb_f, leb_t, leb_f, eqb_t, eqb_f, decide_eq_true_eq, decide_eq_false_iff_not, Bool.not_eq_true', Bool.not_eq_false', Bool.and_eq_true, Bool.and_eq_false_imp, beq_iff_eq, beq_eq_false_iff_ne, bne_iff_ne, U64, U32, I64, Big, W, wv, Told, s64, WT, PR, MR, MB, Int.zero_mul, Int.zero_add, Int.add_zero, Int.mul_zero, IntKind.wrap_u64, IntKind.wrap_i64, IntKind.wrap_u32, ne_eq, forall_const, true_implies, show T.rel 89 = R89 from rfl, R89, show T.rel 107 = R107 from rfl, R107, show T.pre 89 = Q89 from rfl, Q89, show T.pre 107 = Q107 from rfl, Q107]
  revert hp
  generalize (E.r 0).i 0 = x
  generalize (E.r 65538).i 0 = x2_0
  try simp only [mxI, mnI]
  try simp only [ltb, leb, eqb, Int.lt_irrefl, decide_false, Int.le_refl, decide_true]
  intro hp
  refine ⟨fun h => ?_, fun h => h hp⟩
  have := Lib.bitLen_le x.toNat 64 (by omega) (by omega)
  omega
end Go.Proofs.YtjemohphaeiaiaaGreatDoor.Fn
namespace Go.Proofs.YtjemohphaeiaiaaGreatDoor.Fn
open Go Go.RowKit Go.Proofs.YtjemohphaeiaiaaGreatDoor.Sy
set_option linter.unusedVariables false
set_option linter.unusedSimpArgs false
set_option maxRecDepth 100000
def t72 : Tr :=
  .br (.f (.is (.eq (.v 0 2) (.n 0)) false) <|
   .br (.f (.is (.le (.v 0 2) (.v 0 0)) false) <|
    .br (.f (.is (.eq (.v 0 0) (.n 0)) true) <|
     .ok [.num (.wrap .u64 (.bin .quo (.v 0 1) (.v 0 2))), .num (.bin .rem (.v 0 1) (.v 0 2))])
    (.f (.is (.eq (.v 0 0) (.n 0)) false) <|
     .br (.f (.rel 89 [.num (.v 0 2)] 65546 [.int .i64]) <|
      .br (.f (.is (.lt (.wrap .u64 (.v 65546 0)) (.n 0)) false) <|
       .f (.is (.eq (.v 65556 0) (.bin .fdv (.wrap .u64 (.bin (.shl .u64) (.v 0 2) (.wrap .u64 (.v 65546 0)))) (.n 4294967296))) true) <|
        .f (.is (.eq (.v 65560 0) (.bin (.land .u64) (.wrap .u64 (.bin (.shl .u64) (.v 0 2) (.wrap .u64 (.v 65546 0)))) (.n 4294967295))) true) <|
         .br (.f (.is (.lt (.wrap .u64 (.bin .sub (.n 64) (.wrap .u64 (.v 65546 0)))) (.n 0)) false) <|
          .f (.is (.eq (.v 65570 0) (.bin (.shr .u64) (.v 0 1) (.wrap .u64 (.bin .sub (.n 64) (.wrap .u64 (.v 65546 0)))))) true) <|
           .f (.is (.eq (.v 65571 0) (.bin (.lor .u64) (.wrap .u64 (.bin (.shl .u64) (.v 0 0) (.wrap .u64 (.v 65546 0)))) (.v 65570 0))) true) <|
            .f (.is (.eq (.v 65579 0) (.bin .fdv (.wrap .u64 (.bin (.shl .u64) (.v 0 1) (.wrap .u64 (.v 65546 0)))) (.n 4294967296))) true) <|
             .f (.is (.eq (.v 65583 0) (.bin (.land .u64) (.wrap .u64 (.bin (.shl .u64) (.v 0 1) (.wrap .u64 (.v 65546 0)))) (.n 4294967295))) true) <|
              .br (.f (.is (.eq (.v 65556 0) (.n 0)) false) <|
               .f (.is (.eq (.v 65594 0) (.wrap .u64 (.bin .mul (.wrap .u64 (.bin .quo (.v 65571 0) (.v 65556 0))) (.v 65556 0)))) true) <|
                .br (.f (.rel 107217 [.num (.v 65556 0), .num (.v 65560 0), .num (.v 65571 0), .num (.v 65579 0), .num (.wrap .u64 (.bin .quo (.v 65571 0) (.v 65556 0))), .num (.wrap .u64 (.bin .sub (.v 65571 0) (.v 65594 0)))] 65595 [.int .u64, .int .u64]) <|
                 .br (.f (.is (.le (.n 4294967296) (.v 65595 0)) true) <|
                  .br (.f (.is (.le (.n 4294967296) (.wrap .u64 (.bin .add (.v 65595 1) (.v 65556 0)))) true) <|
                   .f (.is (.eq (.v 65626 0) (.wrap .u64 (.bin .add (.wrap .u64 (.bin .mul (.v 65571 0) (.n 4294967296))) (.v 65579 0)))) true) <|
                    .f (.is (.eq (.v 65627 0) (.wrap .u64 (.bin .mul (.wrap .u64 (.bin .sub (.v 65595 0) (.n 1))) (.wrap .u64 (.bin (.shl .u64) (.v 0 2) (.wrap .u64 (.v 65546 0))))))) true) <|
                     .f (.is (.eq (.v 65632 0) (.wrap .u64 (.bin .quo (.wrap .u64 (.bin .sub (.v 65626 0) (.v 65627 0))) (.v 65556 0)))) true) <|
                      .f (.is (.eq (.v 65639 0) (.wrap .u64 (.bin .sub (.wrap .u64 (.bin .sub (.v 65626 0) (.v 65627 0))) (.wrap .u64 (.bin .mul (.v 65632 0) (.v 65556 0)))))) true) <|
                       .br (.f (.rel 107224 [.num (.v 65556 0), .num (.v 65560 0), .num (.wrap .u64 (.bin .sub (.v 65626 0) (.v 65627 0))), .num (.v 65583 0), .num (.v 65632 0), .num (.v 65639 0)] 65640 [.int .u64, .int .u64]) <|
                        .br (.f (.is (.le (.n 4294967296) (.v 65640 0)) true) <|
                         .br (.f (.is (.le (.n 4294967296) (.wrap .u64 (.bin .add (.v 65640 1) (.v 65556 0)))) true) <|
                          .f (.is (.eq (.v 65678 0) (.wrap .u64 (.bin .mul (.wrap .u64 (.bin .sub (.v 65595 0) (.n 1))) (.n 4294967296)))) true) <|
                           .f (.is (.eq (.v 65679 0) (.wrap .u64 (.bin .add (.v 65678 0) (.wrap .u64 (.bin .sub (.v 65640 0) (.n 1)))))) true) <|
                            .f (.is (.eq (.v 65680 0) (.wrap .u64 (.bin .mul (.wrap .u64 (.bin .sub (.v 65626 0) (.v 65627 0))) (.n 4294967296)))) true) <|
                             .f (.is (.eq (.v 65681 0) (.wrap .u64 (.bin .mul (.wrap .u64 (.bin .sub (.v 65640 0) (.n 1))) (.wrap .u64 (.bin (.shl .u64) (.v 0 2) (.wrap .u64 (.v 65546 0))))))) true) <|
                              .f (.is (.eq (.v 65682 0) (.wrap .u64 (.bin .sub (.wrap .u64 (.bin .add (.v 65680 0) (.v 65583 0))) (.v 65681 0)))) true) <|
                               .ok [.num (.v 65679 0), .num (.bin (.shr .u64) (.v 65682 0) (.wrap .u64 (.v 65546 0)))])
                         (.f (.is (.le (.n 4294967296) (.wrap .u64 (.bin .add (.v 65640 1) (.v 65556 0)))) false) <|
                          .br (.f (.nrel 107224 [.num (.v 65556 0), .num (.v 65560 0), .num (.wrap .u64 (.bin .sub (.v 65626 0) (.v 65627 0))), .num (.v 65583 0), .num (.v 65632 0), .num (.v 65639 0)] [.num (.wrap .u64 (.bin .sub (.v 65640 0) (.n 1))), .num (.wrap .u64 (.bin .add (.v 65640 1) (.v 65556 0)))]) <|
                           .bad)
                          (.f (.ndec 107224 [.num (.v 65556 0), .num (.v 65560 0), .num (.wrap .u64 (.bin .sub (.v 65626 0) (.v 65627 0))), .num (.v 65583 0), .num (.v 65632 0), .num (.v 65639 0)] [.num (.v 65640 0), .num (.v 65640 1)] [.num (.wrap .u64 (.bin .sub (.v 65640 0) (.n 1))), .num (.wrap .u64 (.bin .add (.v 65640 1) (.v 65556 0)))]) <|
                           .bad)))
                        (.f (.is (.le (.n 4294967296) (.v 65640 0)) false) <|
                         .f (.is (.eq (.v 65653 0) (.wrap .u64 (.bin .add (.wrap .u64 (.bin .mul (.n 4294967296) (.v 65640 1))) (.v 65583 0)))) true) <|
                          .br (.f (.is (.lt (.v 65653 0) (.wrap .u64 (.bin .mul (.v 65640 0) (.v 65560 0)))) true) <|
                           .br (.f (.is (.le (.n 4294967296) (.wrap .u64 (.bin .add (.v 65640 1) (.v 65556 0)))) true) <|
                            .f (.is (.eq (.v 65679 0) (.wrap .u64 (.bin .mul (.wrap .u64 (.bin .sub (.v 65595 0) (.n 1))) (.n 4294967296)))) true) <|
                             .f (.is (.eq (.v 65680 0) (.wrap .u64 (.bin .add (.v 65679 0) (.wrap .u64 (.bin .sub (.v 65640 0) (.n 1)))))) true) <|
                              .f (.is (.eq (.v 65681 0) (.wrap .u64 (.bin .mul (.wrap .u64 (.bin .sub (.v 65626 0) (.v 65627 0))) (.n 4294967296)))) true) <|
                               .f (.is (.eq (.v 65682 0) (.wrap .u64 (.bin .mul (.wrap .u64 (.bin .sub (.v 65640 0) (.n 1))) (.wrap .u64 (.bin (.shl .u64) (.v 0 2) (.wrap .u64 (.v 65546 0))))))) true) <|
                                .f (.is (.eq (.v 65683 0) (.wrap .u64 (.bin .sub (.wrap .u64 (.bin .add (.v 65681 0) (.v 65583 0))) (.v 65682 0)))) true) <|
                                 .ok [.num (.v 65680 0), .num (.bin (.shr .u64) (.v 65683 0) (.wrap .u64 (.v 65546 0)))])
                           (.f (.is (.le (.n 4294967296) (.wrap .u64 (.bin .add (.v 65640 1) (.v 65556 0)))) false) <|
                            .br (.f (.nrel 107224 [.num (.v 65556 0), .num (.v 65560 0), .num (.wrap .u64 (.bin .sub (.v 65626 0) (.v 65627 0))), .num (.v 65583 0), .num (.v 65632 0), .num (.v 65639 0)] [.num (.wrap .u64 (.bin .sub (.v 65640 0) (.n 1))), .num (.wrap .u64 (.bin .add (.v 65640 1) (.v 65556 0)))]) <|
                             .bad)
                            (.f (.ndec 107224 [.num (.v 65556 0), .num (.v 65560 0), .num (.wrap .u64 (.bin .sub (.v 65626 0) (.v 65627 0))), .num (.v 65583 0), .num (.v 65632 0), .num (.v 65639 0)] [.num (.v 65640 0), .num (.v 65640 1)] [.num (.wrap .u64 (.bin .sub (.v 65640 0) (.n 1))), .num (.wrap .u64 (.bin .add (.v 65640 1) (.v 65556 0)))]) <|
                             .bad)))
                          (.f (.is (.lt (.v 65653 0) (.wrap .u64 (.bin .mul (.v 65640 0) (.v 65560 0)))) false) <|
                           .f (.is (.eq (.v 65670 0) (.wrap .u64 (.bin .mul (.wrap .u64 (.bin .sub (.v 65595 0) (.n 1))) (.n 4294967296)))) true) <|
                            .f (.is (.eq (.v 65671 0) (.wrap .u64 (.bin .mul (.wrap .u64 (.bin .sub (.v 65626 0) (.v 65627 0))) (.n 4294967296)))) true) <|
                             .f (.is (.eq (.v 65672 0) (.wrap .u64 (.bin .mul (.v 65640 0) (.wrap .u64 (.bin (.shl .u64) (.v 0 2) (.wrap .u64 (.v 65546 0))))))) true) <|
                              .f (.is (.eq (.v 65673 0) (.wrap .u64 (.bin .sub (.wrap .u64 (.bin .add (.v 65671 0) (.v 65583 0))) (.v 65672 0)))) true) <|
                               .ok [.num (.wrap .u64 (.bin .add (.v 65670 0) (.v 65640 0))), .num (.bin (.shr .u64) (.v 65673 0) (.wrap .u64 (.v 65546 0)))])))
                       (.f (.nrel 107224 [.num (.v 65556 0), .num (.v 65560 0), .num (.wrap .u64 (.bin .sub (.v 65626 0) (.v 65627 0))), .num (.v 65583 0), .num (.v 65632 0), .num (.v 65639 0)] [.num (.v 65632 0), .num (.v 65639 0)]) <|
                        .bad))
                  (.f (.is (.le (.n 4294967296) (.wrap .u64 (.bin .add (.v 65595 1) (.v 65556 0)))) false) <|
                   .br (.f (.nrel 107217 [.num (.v 65556 0), .num (.v 65560 0), .num (.v 65571 0), .num (.v 65579 0), .num (.wrap .u64 (.bin .quo (.v 65571 0) (.v 65556 0))), .num (.wrap .u64 (.bin .sub (.v 65571 0) (.v 65594 0)))] [.num (.wrap .u64 (.bin .sub (.v 65595 0) (.n 1))), .num (.wrap .u64 (.bin .add (.v 65595 1) (.v 65556 0)))]) <|
                    .bad)
                   (.f (.ndec 107217 [.num (.v 65556 0), .num (.v 65560 0), .num (.v 65571 0), .num (.v 65579 0), .num (.wrap .u64 (.bin .quo (.v 65571 0) (.v 65556 0))), .num (.wrap .u64 (.bin .sub (.v 65571 0) (.v 65594 0)))] [.num (.v 65595 0), .num (.v 65595 1)] [.num (.wrap .u64 (.bin .sub (.v 65595 0) (.n 1))), .num (.wrap .u64 (.bin .add (.v 65595 1) (.v 65556 0)))]) <|
                    .bad)))
                 (.f (.is (.le (.n 4294967296) (.v 65595 0)) false) <|
                  .f (.is (.eq (.v 65608 0) (.wrap .u64 (.bin .add (.wrap .u64 (.bin .mul (.n 4294967296) (.v 65595 1))) (.v 65579 0)))) true) <|
                   .br (.f (.is (.lt (.v 65608 0) (.wrap .u64 (.bin .mul (.v 65595 0) (.v 65560 0)))) true) <|
                    .br (.f (.is (.le (.n 4294967296) (.wrap .u64 (.bin .add (.v 65595 1) (.v 65556 0)))) true) <|
                     .f (.is (.eq (.v 65627 0) (.wrap .u64 (.bin .add (.wrap .u64 (.bin .mul (.v 65571 0) (.n 4294967296))) (.v 65579 0)))) true) <|
                      .f (.is (.eq (.v 65628 0) (.wrap .u64 (.bin .mul (.wrap .u64 (.bin .sub (.v 65595 0) (.n 1))) (.wrap .u64 (.bin (.shl .u64) (.v 0 2) (.wrap .u64 (.v 65546 0))))))) true) <|
                       .f (.is (.eq (.v 65633 0) (.wrap .u64 (.bin .quo (.wrap .u64 (.bin .sub (.v 65627 0) (.v 65628 0))) (.v 65556 0)))) true) <|
                        .f (.is (.eq (.v 65640 0) (.wrap .u64 (.bin .sub (.wrap .u64 (.bin .sub (.v 65627 0) (.v 65628 0))) (.wrap .u64 (.bin .mul (.v 65633 0) (.v 65556 0)))))) true) <|
                         .br (.f (.rel 107224 [.num (.v 65556 0), .num (.v 65560 0), .num (.wrap .u64 (.bin .sub (.v 65627 0) (.v 65628 0))), .num (.v 65583 0), .num (.v 65633 0), .num (.v 65640 0)] 65641 [.int .u64, .int .u64]) <|
                          .br (.f (.is (.le (.n 4294967296) (.v 65641 0)) true) <|
                           .br (.f (.is (.le (.n 4294967296) (.wrap .u64 (.bin .add (.v 65641 1) (.v 65556 0)))) true) <|
                            .f (.is (.eq (.v 65679 0) (.wrap .u64 (.bin .mul (.wrap .u64 (.bin .sub (.v 65595 0) (.n 1))) (.n 4294967296)))) true) <|
                             .f (.is (.eq (.v 65680 0) (.wrap .u64 (.bin .add (.v 65679 0) (.wrap .u64 (.bin .sub (.v 65641 0) (.n 1)))))) true) <|
                              .f (.is (.eq (.v 65681 0) (.wrap .u64 (.bin .mul (.wrap .u64 (.bin .sub (.v 65627 0) (.v 65628 0))) (.n 4294967296)))) true) <|
                               .f (.is (.eq (.v 65682 0) (.wrap .u64 (.bin .mul (.wrap .u64 (.bin .sub (.v 65641 0) (.n 1))) (.wrap .u64 (.bin (.shl .u64) (.v 0 2) (.wrap .u64 (.v 65546 0))))))) true) <|
                                .f (.is (.eq (.v 65683 0) (.wrap .u64 (.bin .sub (.wrap .u64 (.bin .add (.v 65681 0) (.v 65583 0))) (.v 65682 0)))) true) <|
                                 .ok [.num (.v 65680 0), .num (.bin (.shr .u64) (.v 65683 0) (.wrap .u64 (.v 65546 0)))])
                           (.f (.is (.le (.n 4294967296) (.wrap .u64 (.bin .add (.v 65641 1) (.v 65556 0)))) false) <|
                            .br (.f (.nrel 107224 [.num (.v 65556 0), .num (.v 65560 0), .num (.wrap .u64 (.bin .sub (.v 65627 0) (.v 65628 0))), .num (.v 65583 0), .num (.v 65633 0), .num (.v 65640 0)] [.num (.wrap .u64 (.bin .sub (.v 65641 0) (.n 1))), .num (.wrap .u64 (.bin .add (.v 65641 1) (.v 65556 0)))]) <|
                             .bad)
                            (.f (.ndec 107224 [.num (.v 65556 0), .num (.v 65560 0), .num (.wrap .u64 (.bin .sub (.v 65627 0) (.v 65628 0))), .num (.v 65583 0), .num (.v 65633 0), .num (.v 65640 0)] [.num (.v 65641 0), .num (.v 65641 1)] [.num (.wrap .u64 (.bin .sub (.v 65641 0) (.n 1))), .num (.wrap .u64 (.bin .add (.v 65641 1) (.v 65556 0)))]) <|
                             .bad)))
                          (.f (.is (.le (.n 4294967296) (.v 65641 0)) false) <|
                           .f (.is (.eq (.v 65654 0) (.wrap .u64 (.bin .add (.wrap .u64 (.bin .mul (.n 4294967296) (.v 65641 1))) (.v 65583 0)))) true) <|
                            .br (.f (.is (.lt (.v 65654 0) (.wrap .u64 (.bin .mul (.v 65641 0) (.v 65560 0)))) true) <|
                             .br (.f (.is (.le (.n 4294967296) (.wrap .u64 (.bin .add (.v 65641 1) (.v 65556 0)))) true) <|
                              .f (.is (.eq (.v 65680 0) (.wrap .u64 (.bin .mul (.wrap .u64 (.bin .sub (.v 65595 0) (.n 1))) (.n 4294967296)))) true) <|
                               .f (.is (.eq (.v 65681 0) (.wrap .u64 (.bin .add (.v 65680 0) (.wrap .u64 (.bin .sub (.v 65641 0) (.n 1)))))) true) <|
                                .f (.is (.eq (.v 65682 0) (.wrap .u64 (.bin .mul (.wrap .u64 (.bin .sub (.v 65627 0) (.v 65628 0))) (.n 4294967296)))) true) <|
                                 .f (.is (.eq (.v 65683 0) (.wrap .u64 (.bin .mul (.wrap .u64 (.bin .sub (.v 65641 0) (.n 1))) (.wrap .u64 (.bin (.shl .u64) (.v 0 2) (.wrap .u64 (.v 65546 0))))))) true) <|
                                  .f (.is (.eq (.v 65684 0) (.wrap .u64 (.bin .sub (.wrap .u64 (.bin .add (.v 65682 0) (.v 65583 0))) (.v 65683 0)))) true) <|
                                   .ok [.num (.v 65681 0), .num (.bin (.shr .u64) (.v 65684 0) (.wrap .u64 (.v 65546 0)))])
                             (.f (.is (.le (.n 4294967296) (.wrap .u64 (.bin .add (.v 65641 1) (.v 65556 0)))) false) <|
                              .br (.f (.nrel 107224 [.num (.v 65556 0), .num (.v 65560 0), .num (.wrap .u64 (.bin .sub (.v 65627 0) (.v 65628 0))), .num (.v 65583 0), .num (.v 65633 0), .num (.v 65640 0)] [.num (.wrap .u64 (.bin .sub (.v 65641 0) (.n 1))), .num (.wrap .u64 (.bin .add (.v 65641 1) (.v 65556 0)))]) <|
                               .bad)
                              (.f (.ndec 107224 [.num (.v 65556 0), .num (.v 65560 0), .num (.wrap .u64 (.bin .sub (.v 65627 0) (.v 65628 0))), .num (.v 65583 0), .num (.v 65633 0), .num (.v 65640 0)] [.num (.v 65641 0), .num (.v 65641 1)] [.num (.wrap .u64 (.bin .sub (.v 65641 0) (.n 1))), .num (.wrap .u64 (.bin .add (.v 65641 1) (.v 65556 0)))]) <|
                               .bad)))
                            (.f (.is (.lt (.v 65654 0) (.wrap .u64 (.bin .mul (.v 65641 0) (.v 65560 0)))) false) <|
                             .f (.is (.eq (.v 65671 0) (.wrap .u64 (.bin .mul (.wrap .u64 (.bin .sub (.v 65595 0) (.n 1))) (.n 4294967296)))) true) <|
                              .f (.is (.eq (.v 65672 0) (.wrap .u64 (.bin .mul (.wrap .u64 (.bin .sub (.v 65627 0) (.v 65628 0))) (.n 4294967296)))) true) <|
                               .f (.is (.eq (.v 65673 0) (.wrap .u64 (.bin .mul (.v 65641 0) (.wrap .u64 (.bin (.shl .u64) (.v 0 2) (.wrap .u64 (.v 65546 0))))))) true) <|
                                .f (.is (.eq (.v 65674 0) (.wrap .u64 (.bin .sub (.wrap .u64 (.bin .add (.v 65672 0) (.v 65583 0))) (.v 65673 0)))) true) <|
                                 .ok [.num (.wrap .u64 (.bin .add (.v 65671 0) (.v 65641 0))), .num (.bin (.shr .u64) (.v 65674 0) (.wrap .u64 (.v 65546 0)))])))
                         (.f (.nrel 107224 [.num (.v 65556 0), .num (.v 65560 0), .num (.wrap .u64 (.bin .sub (.v 65627 0) (.v 65628 0))), .num (.v 65583 0), .num (.v 65633 0), .num (.v 65640 0)] [.num (.v 65633 0), .num (.v 65640 0)]) <|
                          .bad))
                    (.f (.is (.le (.n 4294967296) (.wrap .u64 (.bin .add (.v 65595 1) (.v 65556 0)))) false) <|
                     .br (.f (.nrel 107217 [.num (.v 65556 0), .num (.v 65560 0), .num (.v 65571 0), .num (.v 65579 0), .num (.wrap .u64 (.bin .quo (.v 65571 0) (.v 65556 0))), .num (.wrap .u64 (.bin .sub (.v 65571 0) (.v 65594 0)))] [.num (.wrap .u64 (.bin .sub (.v 65595 0) (.n 1))), .num (.wrap .u64 (.bin .add (.v 65595 1) (.v 65556 0)))]) <|
                      .bad)
                     (.f (.ndec 107217 [.num (.v 65556 0), .num (.v 65560 0), .num (.v 65571 0), .num (.v 65579 0), .num (.wrap .u64 (.bin .quo (.v 65571 0) (.v 65556 0))), .num (.wrap .u64 (.bin .sub (.v 65571 0) (.v 65594 0)))] [.num (.v 65595 0), .num (.v 65595 1)] [.num (.wrap .u64 (.bin .sub (.v 65595 0) (.n 1))), .num (.wrap .u64 (.bin .add (.v 65595 1) (.v 65556 0)))]) <|
                      .bad)))
                   (.f (.is (.lt (.v 65608 0) (.wrap .u64 (.bin .mul (.v 65595 0) (.v 65560 0)))) false) <|
                    .f (.is (.eq (.v 65618 0) (.wrap .u64 (.bin .add (.wrap .u64 (.bin .mul (.v 65571 0) (.n 4294967296))) (.v 65579 0)))) true) <|
                     .f (.is (.eq (.v 65619 0) (.wrap .u64 (.bin .mul (.v 65595 0) (.wrap .u64 (.bin (.shl .u64) (.v 0 2) (.wrap .u64 (.v 65546 0))))))) true) <|
                      .f (.is (.eq (.v 65624 0) (.wrap .u64 (.bin .quo (.wrap .u64 (.bin .sub (.v 65618 0) (.v 65619 0))) (.v 65556 0)))) true) <|
                       .f (.is (.eq (.v 65631 0) (.wrap .u64 (.bin .sub (.wrap .u64 (.bin .sub (.v 65618 0) (.v 65619 0))) (.wrap .u64 (.bin .mul (.v 65624 0) (.v 65556 0)))))) true) <|
                        .br (.f (.rel 107224 [.num (.v 65556 0), .num (.v 65560 0), .num (.wrap .u64 (.bin .sub (.v 65618 0) (.v 65619 0))), .num (.v 65583 0), .num (.v 65624 0), .num (.v 65631 0)] 65632 [.int .u64, .int .u64]) <|
                         .br (.f (.is (.le (.n 4294967296) (.v 65632 0)) true) <|
                          .br (.f (.is (.le (.n 4294967296) (.wrap .u64 (.bin .add (.v 65632 1) (.v 65556 0)))) true) <|
                           .f (.is (.eq (.v 65670 0) (.wrap .u64 (.bin .add (.wrap .u64 (.bin .mul (.v 65595 0) (.n 4294967296))) (.wrap .u64 (.bin .sub (.v 65632 0) (.n 1)))))) true) <|
                            .f (.is (.eq (.v 65671 0) (.wrap .u64 (.bin .mul (.wrap .u64 (.bin .sub (.v 65618 0) (.v 65619 0))) (.n 4294967296)))) true) <|
                             .f (.is (.eq (.v 65672 0) (.wrap .u64 (.bin .mul (.wrap .u64 (.bin .sub (.v 65632 0) (.n 1))) (.wrap .u64 (.bin (.shl .u64) (.v 0 2) (.wrap .u64 (.v 65546 0))))))) true) <|
                              .f (.is (.eq (.v 65673 0) (.wrap .u64 (.bin .sub (.wrap .u64 (.bin .add (.v 65671 0) (.v 65583 0))) (.v 65672 0)))) true) <|
                               .ok [.num (.v 65670 0), .num (.bin (.shr .u64) (.v 65673 0) (.wrap .u64 (.v 65546 0)))])
                          (.f (.is (.le (.n 4294967296) (.wrap .u64 (.bin .add (.v 65632 1) (.v 65556 0)))) false) <|
                           .br (.f (.nrel 107224 [.num (.v 65556 0), .num (.v 65560 0), .num (.wrap .u64 (.bin .sub (.v 65618 0) (.v 65619 0))), .num (.v 65583 0), .num (.v 65624 0), .num (.v 65631 0)] [.num (.wrap .u64 (.bin .sub (.v 65632 0) (.n 1))), .num (.wrap .u64 (.bin .add (.v 65632 1) (.v 65556 0)))]) <|
                            .bad)
                           (.f (.ndec 107224 [.num (.v 65556 0), .num (.v 65560 0), .num (.wrap .u64 (.bin .sub (.v 65618 0) (.v 65619 0))), .num (.v 65583 0), .num (.v 65624 0), .num (.v 65631 0)] [.num (.v 65632 0), .num (.v 65632 1)] [.num (.wrap .u64 (.bin .sub (.v 65632 0) (.n 1))), .num (.wrap .u64 (.bin .add (.v 65632 1) (.v 65556 0)))]) <|
                            .bad)))
                         (.f (.is (.le (.n 4294967296) (.v 65632 0)) false) <|
                          .f (.is (.eq (.v 65645 0) (.wrap .u64 (.bin .add (.wrap .u64 (.bin .mul (.n 4294967296) (.v 65632 1))) (.v 65583 0)))) true) <|
                           .br (.f (.is (.lt (.v 65645 0) (.wrap .u64 (.bin .mul (.v 65632 0) (.v 65560 0)))) true) <|
                            .br (.f (.is (.le (.n 4294967296) (.wrap .u64 (.bin .add (.v 65632 1) (.v 65556 0)))) true) <|
                             .f (.is (.eq (.v 65671 0) (.wrap .u64 (.bin .add (.wrap .u64 (.bin .mul (.v 65595 0) (.n 4294967296))) (.wrap .u64 (.bin .sub (.v 65632 0) (.n 1)))))) true) <|
                              .f (.is (.eq (.v 65672 0) (.wrap .u64 (.bin .mul (.wrap .u64 (.bin .sub (.v 65618 0) (.v 65619 0))) (.n 4294967296)))) true) <|
                               .f (.is (.eq (.v 65673 0) (.wrap .u64 (.bin .mul (.wrap .u64 (.bin .sub (.v 65632 0) (.n 1))) (.wrap .u64 (.bin (.shl .u64) (.v 0 2) (.wrap .u64 (.v 65546 0))))))) true) <|
                                .f (.is (.eq (.v 65674 0) (.wrap .u64 (.bin .sub (.wrap .u64 (.bin .add (.v 65672 0) (.v 65583 0))) (.v 65673 0)))) true) <|
                                 .ok [.num (.v 65671 0), .num (.bin (.shr .u64) (.v 65674 0) (.wrap .u64 (.v 65546 0)))])
                            (.f (.is (.le (.n 4294967296) (.wrap .u64 (.bin .add (.v 65632 1) (.v 65556 0)))) false) <|
                             .br (.f (.nrel 107224 [.num (.v 65556 0), .num (.v 65560 0), .num (.wrap .u64 (.bin .sub (.v 65618 0) (.v 65619 0))), .num (.v 65583 0), .num (.v 65624 0), .num (.v 65631 0)] [.num (.wrap .u64 (.bin .sub (.v 65632 0) (.n 1))), .num (.wrap .u64 (.bin .add (.v 65632 1) (.v 65556 0)))]) <|
                              .bad)
                             (.f (.ndec 107224 [.num (.v 65556 0), .num (.v 65560 0), .num (.wrap .u64 (.bin .sub (.v 65618 0) (.v 65619 0))), .num (.v 65583 0), .num (.v 65624 0), .num (.v 65631 0)] [.num (.v 65632 0), .num (.v 65632 1)] [.num (.wrap .u64 (.bin .sub (.v 65632 0) (.n 1))), .num (.wrap .u64 (.bin .add (.v 65632 1) (.v 65556 0)))]) <|
                              .bad)))
                           (.f (.is (.lt (.v 65645 0) (.wrap .u64 (.bin .mul (.v 65632 0) (.v 65560 0)))) false) <|
                            .f (.is (.eq (.v 65662 0) (.wrap .u64 (.bin .add (.wrap .u64 (.bin .mul (.v 65595 0) (.n 4294967296))) (.v 65632 0)))) true) <|
                             .f (.is (.eq (.v 65663 0) (.wrap .u64 (.bin .mul (.wrap .u64 (.bin .sub (.v 65618 0) (.v 65619 0))) (.n 4294967296)))) true) <|
                              .f (.is (.eq (.v 65664 0) (.wrap .u64 (.bin .mul (.v 65632 0) (.wrap .u64 (.bin (.shl .u64) (.v 0 2) (.wrap .u64 (.v 65546 0))))))) true) <|
                               .f (.is (.eq (.v 65665 0) (.wrap .u64 (.bin .sub (.wrap .u64 (.bin .add (.v 65663 0) (.v 65583 0))) (.v 65664 0)))) true) <|
                                .ok [.num (.v 65662 0), .num (.bin (.shr .u64) (.v 65665 0) (.wrap .u64 (.v 65546 0)))])))
                        (.f (.nrel 107224 [.num (.v 65556 0), .num (.v 65560 0), .num (.wrap .u64 (.bin .sub (.v 65618 0) (.v 65619 0))), .num (.v 65583 0), .num (.v 65624 0), .num (.v 65631 0)] [.num (.v 65624 0), .num (.v 65631 0)]) <|
                         .bad))))
                (.f (.nrel 107217 [.num (.v 65556 0), .num (.v 65560 0), .num (.v 65571 0), .num (.v 65579 0), .num (.wrap .u64 (.bin .quo (.v 65571 0) (.v 65556 0))), .num (.wrap .u64 (.bin .sub (.v 65571 0) (.v 65594 0)))] [.num (.wrap .u64 (.bin .quo (.v 65571 0) (.v 65556 0))), .num (.wrap .u64 (.bin .sub (.v 65571 0) (.v 65594 0)))]) <|
                 .bad))
              (.f (.is (.eq (.v 65556 0) (.n 0)) true) <|
               .bad))
         (.f (.is (.lt (.wrap .u64 (.bin .sub (.n 64) (.wrap .u64 (.v 65546 0)))) (.n 0)) true) <|
          .bad))
      (.f (.is (.lt (.wrap .u64 (.v 65546 0)) (.n 0)) true) <|
       .bad))
     (.f (.npre 89 [.num (.v 0 2)]) <|
      .bad)))
   (.f (.is (.le (.v 0 2) (.v 0 0)) true) <|
    .bad))
  (.f (.is (.eq (.v 0 2) (.n 0)) true) <|
   .bad)
theorem c72 : ConS Tryz.prog T C72 := con_tr (cs := [C89]) (lcs := [L107217, L107224]) (known := []) (cons_cons c89 (cons_nil _ _)) (Known.nil _) (N := 400) (d := 40) (t := t72) (by kernel_rfl) <| by
  intro E hl hp
  clear hl
  have hp := hp rfl
  simp only [C72, show T.pre 72 = Q72 from rfl, flatS, SP.flat, dvs, List.append_nil, List.cons_append, List.nil_append, Q72, U64, U32, I64, Big, W, wv, s64, WT, PR, MR, MB] at hp
  simp only [t72, C72, Tr.good, Fact.den, LX.den, DX.ls, DV.ls, DX.den, Bx.den, Ex.den, eo_add, eo_sub, eo_mul, eo_quo, eo_rem, eo_fdv, eo_mn, eo_mx, eo_land, eo_lor, eo_lxor, eo_landn, eo_shl, eo_shr, dvs, flatS, SP.flat, ST.flat, List.map_cons, List.map_nil, List.append_nil, List.cons_append, List.nil_append, ltb_t, ltb_f, leb_t, leb_f, eqb_t, eqb_f, decide_eq_true_eq, decide_eq_false_iff_not, Bool.not_eq_true', Bool.not_eq_false', Bool.and_eq_true, Bool.and_eq_false_imp, beq_iff_eq, beq_eq_false_iff_ne, bne_iff_ne, U64, U32, I64, Big, W, wv, Told, s64, WT, PR, MR, MB, Int.zero_mul, Int.zero_add, Int.add_zero, Int.mul_zero, IntKind.wrap_u64, IntKind.wrap_i64, IntKind.wrap_u32, ne_eq, forall_const, true_implies, show T.rel 72 = R72 from rfl, R72, show T.rel 89 = R89 from rfl, R89, show T.rel 107217 = R107217 from rfl, R107217, show T.rel 107224 = R107224 from rfl, R107224, show T.mu 107217 = M107217 from rfl, M107217, show T.mu 107224 = M107224 from rfl, M107224, show T.pre 72 = Q72 from rfl, Q72, show T.pre 89 = Q89 from rfl, Q89]
  revert hp
  generalize (E.r 0).i 0 = hi
  generalize (E.r 0).i 1 = lo
  generalize (E.r 0).i 2 = y
  generalize (E.r 65546).i 0 = x10_0
  generalize (E.r 65556).i 0 = x20_0
  generalize (E.r 65560).i 0 = x24_0
  generalize (E.r 65570).i 0 = x34_0
  generalize (E.r 65571).i 0 = x35_0
  generalize (E.r 65579).i 0 = x43_0
  generalize (E.r 65583).i 0 = x47_0
  generalize (E.r 65594).i 0 = x58_0
  generalize (E.r 65595).i 0 = x59_0
  generalize (E.r 65595).i 1 = x59_1
  generalize (E.r 65608).i 0 = x72_0
  generalize (E.r 65618).i 0 = x82_0
  generalize (E.r 65619).i 0 = x83_0
  generalize (E.r 65624).i 0 = x88_0
  generalize (E.r 65626).i 0 = x90_0
  generalize (E.r 65627).i 0 = x91_0
  generalize (E.r 65628).i 0 = x92_0
  generalize (E.r 65631).i 0 = x95_0
  generalize (E.r 65632).i 0 = x96_0
  generalize (E.r 65632).i 1 = x96_1
  generalize (E.r 65633).i 0 = x97_0
  generalize (E.r 65639).i 0 = x103_0
  generalize (E.r 65640).i 0 = x104_0
  generalize (E.r 65640).i 1 = x104_1
  generalize (E.r 65641).i 0 = x105_0
  generalize (E.r 65641).i 1 = x105_1
  generalize (E.r 65645).i 0 = x109_0
  generalize (E.r 65653).i 0 = x117_0
  generalize (E.r 65654).i 0 = x118_0
  generalize (E.r 65662).i 0 = x126_0
  generalize (E.r 65663).i 0 = x127_0
  generalize (E.r 65664).i 0 = x128_0
  generalize (E.r 65665).i 0 = x129_0
  generalize (E.r 65670).i 0 = x134_0
  generalize (E.r 65671).i 0 = x135_0
  generalize (E.r 65672).i 0 = x136_0
  generalize (E.r 65673).i 0 = x137_0
  generalize (E.r 65674).i 0 = x138_0
  generalize (E.r 65678).i 0 = x142_0
  generalize (E.r 65679).i 0 = x143_0
  generalize (E.r 65680).i 0 = x144_0
  generalize (E.r 65681).i 0 = x145_0
  generalize (E.r 65682).i 0 = x146_0
  generalize (E.r 65683).i 0 = x147_0
  generalize (E.r 65684).i 0 = x148_0
  try simp only [mxI, mnI]
  try simp only [ltb, leb, eqb, Int.lt_irrefl, decide_false, Int.le_refl, decide_true]
  intro hp
  obtain ⟨⟨hi0, hi1⟩, ⟨lo0, lo1⟩, ⟨y0, y1⟩, hlt⟩ := hp
  refine ⟨fun hy0 => ⟨fun _ => ⟨fun hz => ?_, fun hz => ⟨fun e10 => ⟨fun s0 e20 e24 => ⟨fun s1 e34 e35 e43 e47 => ⟨fun n20 e58 => ⟨fun D1 => ?_, ?_⟩, ?_⟩, ?_⟩, ?_⟩, ?_⟩⟩, ?_⟩, ?_⟩
  · subst hz
    rw [Int.tdiv_eq_ediv_of_nonneg lo0, Int.tmod_eq_emod_of_nonneg lo0]
    have a := Int.ediv_nonneg lo0 (show 0 ≤ y by omega)
    have b := Int.ediv_le_self y lo0
    simp only [Int.zero_mul, Int.zero_add, and_true]
    omega
  · have F := df_of hi0 hlt lo0 lo1 y1 e10 e20 e24 e34 e35 e43 e47
    refine ⟨fun g1 => ⟨fun g2 => ?_, fun g2 => ⟨fun n => n ((dl_step D1 (Or.inl g1)).2 g2).1, fun n => n ((dl_step D1 (Or.inl g1)).2 g2).2⟩⟩, fun g1 e72 => ⟨fun g6 => ⟨fun g2 => ?_, fun g2 => ⟨fun n => n ((dl_step D1 (Or.inr (by have := dl_test D1 g1 e72; omega))).2 g2).1, fun n => n ((dl_step D1 (Or.inr (by have := dl_test D1 g1 e72; omega))).2 g2).2⟩⟩, fun g6 => ?_⟩⟩
    · intro e90 e91 e96 e103
      have hu := dl_left F.db ((dl_step D1 (Or.inl g1)).1 g2) F.hY e90 e91
      have D2' := dl_next F.db F.w0 F.w1
      rw [← hu] at D2'
      refine ⟨fun D2 => ⟨fun g3 => ⟨fun g4 => ?_, fun g4 => ⟨fun n => n ((dl_step D2 (Or.inl g3)).2 g4).1, fun n => n ((dl_step D2 (Or.inl g3)).2 g4).2⟩⟩, fun g3 e9 => ⟨fun g5 => ⟨fun g4 => ?_, fun g4 => ⟨fun n => n ((dl_step D2 (Or.inr (by have := dl_test D2 g3 e9; omega))).2 g4).1, fun n => n ((dl_step D2 (Or.inr (by have := dl_test D2 g3 e9; omega))).2 g4).2⟩⟩, fun g5 => ?_⟩⟩, fun n => n (by rw [e103]; exact dl_init D2' rfl e96)⟩
      · first
          | (intro a1 a2 a3 a4 a5; rw [a2, a1]; exact dl_last F ((dl_step D1 (Or.inl g1)).1 g2) hu ((dl_step D2 (Or.inl g3)).1 g4) a3 a4 a5)
          | (intro a1 a3 a4 a5; rw [a1]; exact dl_last F ((dl_step D1 (Or.inl g1)).1 g2) hu ((dl_step D2 (Or.inl g3)).1 g4) a3 a4 a5)
          | (intro a3 a4 a5; exact dl_last F ((dl_step D1 (Or.inl g1)).1 g2) hu ((dl_step D2 (Or.inl g3)).1 g4) a3 a4 a5)
      · first
          | (intro a1 a2 a3 a4 a5; rw [a2, a1]; exact dl_last F ((dl_step D1 (Or.inl g1)).1 g2) hu ((dl_step D2 (Or.inr (by have := dl_test D2 g3 e9; omega))).1 g4) a3 a4 a5)
          | (intro a1 a3 a4 a5; rw [a1]; exact dl_last F ((dl_step D1 (Or.inl g1)).1 g2) hu ((dl_step D2 (Or.inr (by have := dl_test D2 g3 e9; omega))).1 g4) a3 a4 a5)
          | (intro a3 a4 a5; exact dl_last F ((dl_step D1 (Or.inl g1)).1 g2) hu ((dl_step D2 (Or.inr (by have := dl_test D2 g3 e9; omega))).1 g4) a3 a4 a5)
      · first
          | (intro a1 a2 a3 a4 a5; rw [a2, a1]; exact dl_last F ((dl_step D1 (Or.inl g1)).1 g2) hu (dl_stop D2 g3 e9 g5) a3 a4 a5)
          | (intro a1 a3 a4 a5; rw [a1]; exact dl_last F ((dl_step D1 (Or.inl g1)).1 g2) hu (dl_stop D2 g3 e9 g5) a3 a4 a5)
          | (intro a3 a4 a5; exact dl_last F ((dl_step D1 (Or.inl g1)).1 g2) hu (dl_stop D2 g3 e9 g5) a3 a4 a5)
    · intro e90 e91 e96 e103
      have hu := dl_left F.db ((dl_step D1 (Or.inr (by have := dl_test D1 g1 e72; omega))).1 g2) F.hY e90 e91
      have D2' := dl_next F.db F.w0 F.w1
      rw [← hu] at D2'
      refine ⟨fun D2 => ⟨fun g3 => ⟨fun g4 => ?_, fun g4 => ⟨fun n => n ((dl_step D2 (Or.inl g3)).2 g4).1, fun n => n ((dl_step D2 (Or.inl g3)).2 g4).2⟩⟩, fun g3 e9 => ⟨fun g5 => ⟨fun g4 => ?_, fun g4 => ⟨fun n => n ((dl_step D2 (Or.inr (by have := dl_test D2 g3 e9; omega))).2 g4).1, fun n => n ((dl_step D2 (Or.inr (by have := dl_test D2 g3 e9; omega))).2 g4).2⟩⟩, fun g5 => ?_⟩⟩, fun n => n (by rw [e103]; exact dl_init D2' rfl e96)⟩
      · first
          | (intro a1 a2 a3 a4 a5; rw [a2, a1]; exact dl_last F ((dl_step D1 (Or.inr (by have := dl_test D1 g1 e72; omega))).1 g2) hu ((dl_step D2 (Or.inl g3)).1 g4) a3 a4 a5)
          | (intro a1 a3 a4 a5; rw [a1]; exact dl_last F ((dl_step D1 (Or.inr (by have := dl_test D1 g1 e72; omega))).1 g2) hu ((dl_step D2 (Or.inl g3)).1 g4) a3 a4 a5)
          | (intro a3 a4 a5; exact dl_last F ((dl_step D1 (Or.inr (by have := dl_test D1 g1 e72; omega))).1 g2) hu ((dl_step D2 (Or.inl g3)).1 g4) a3 a4 a5)
      · first
          | (intro a1 a2 a3 a4 a5; rw [a2, a1]; exact dl_last F ((dl_step D1 (Or.inr (by have := dl_test D1 g1 e72; omega))).1 g2) hu ((dl_step D2 (Or.inr (by have := dl_test D2 g3 e9; omega))).1 g4) a3 a4 a5)
          | (intro a1 a3 a4 a5; rw [a1]; exact dl_last F ((dl_step D1 (Or.inr (by have := dl_test D1 g1 e72; omega))).1 g2) hu ((dl_step D2 (Or.inr (by have := dl_test D2 g3 e9; omega))).1 g4) a3 a4 a5)
          | (intro a3 a4 a5; exact dl_last F ((dl_step D1 (Or.inr (by have := dl_test D1 g1 e72; omega))).1 g2) hu ((dl_step D2 (Or.inr (by have := dl_test D2 g3 e9; omega))).1 g4) a3 a4 a5)
      · first
          | (intro a1 a2 a3 a4 a5; rw [a2, a1]; exact dl_last F ((dl_step D1 (Or.inr (by have := dl_test D1 g1 e72; omega))).1 g2) hu (dl_stop D2 g3 e9 g5) a3 a4 a5)
          | (intro a1 a3 a4 a5; rw [a1]; exact dl_last F ((dl_step D1 (Or.inr (by have := dl_test D1 g1 e72; omega))).1 g2) hu (dl_stop D2 g3 e9 g5) a3 a4 a5)
          | (intro a3 a4 a5; exact dl_last F ((dl_step D1 (Or.inr (by have := dl_test D1 g1 e72; omega))).1 g2) hu (dl_stop D2 g3 e9 g5) a3 a4 a5)
    · intro e90 e91 e96 e103
      have hu := dl_left F.db (dl_stop D1 g1 e72 g6) F.hY e90 e91
      have D2' := dl_next F.db F.w0 F.w1
      rw [← hu] at D2'
      refine ⟨fun D2 => ⟨fun g3 => ⟨fun g4 => ?_, fun g4 => ⟨fun n => n ((dl_step D2 (Or.inl g3)).2 g4).1, fun n => n ((dl_step D2 (Or.inl g3)).2 g4).2⟩⟩, fun g3 e9 => ⟨fun g5 => ⟨fun g4 => ?_, fun g4 => ⟨fun n => n ((dl_step D2 (Or.inr (by have := dl_test D2 g3 e9; omega))).2 g4).1, fun n => n ((dl_step D2 (Or.inr (by have := dl_test D2 g3 e9; omega))).2 g4).2⟩⟩, fun g5 => ?_⟩⟩, fun n => n (by rw [e103]; exact dl_init D2' rfl e96)⟩
      · first
          | (intro a1 a2 a3 a4 a5; rw [a2, a1]; exact dl_last F (dl_stop D1 g1 e72 g6) hu ((dl_step D2 (Or.inl g3)).1 g4) a3 a4 a5)
          | (intro a1 a3 a4 a5; rw [a1]; exact dl_last F (dl_stop D1 g1 e72 g6) hu ((dl_step D2 (Or.inl g3)).1 g4) a3 a4 a5)
          | (intro a3 a4 a5; exact dl_last F (dl_stop D1 g1 e72 g6) hu ((dl_step D2 (Or.inl g3)).1 g4) a3 a4 a5)
      · first
          | (intro a1 a2 a3 a4 a5; rw [a2, a1]; exact dl_last F (dl_stop D1 g1 e72 g6) hu ((dl_step D2 (Or.inr (by have := dl_test D2 g3 e9; omega))).1 g4) a3 a4 a5)
          | (intro a1 a3 a4 a5; rw [a1]; exact dl_last F (dl_stop D1 g1 e72 g6) hu ((dl_step D2 (Or.inr (by have := dl_test D2 g3 e9; omega))).1 g4) a3 a4 a5)
          | (intro a3 a4 a5; exact dl_last F (dl_stop D1 g1 e72 g6) hu ((dl_step D2 (Or.inr (by have := dl_test D2 g3 e9; omega))).1 g4) a3 a4 a5)
      · first
          | (intro a1 a2 a3 a4 a5; rw [a2, a1]; exact dl_last F (dl_stop D1 g1 e72 g6) hu (dl_stop D2 g3 e9 g5) a3 a4 a5)
          | (intro a1 a3 a4 a5; rw [a1]; exact dl_last F (dl_stop D1 g1 e72 g6) hu (dl_stop D2 g3 e9 g5) a3 a4 a5)
          | (intro a3 a4 a5; exact dl_last F (dl_stop D1 g1 e72 g6) hu (dl_stop D2 g3 e9 g5) a3 a4 a5)
  · exact fun n => n (dl_init (df_of hi0 hlt lo0 lo1 y1 e10 e20 e24 e34 e35 e43 e47).db e58 rfl)
  all_goals try omega
  all_goals
    have F := df_of hi0 hlt lo0 lo1 y1 e10 e20 e24 e34 e35 e43 e47
    have := F.db.a0
    omega
end Go.Proofs.YtjemohphaeiaiaaGreatDoor.Fn
