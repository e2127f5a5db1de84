/- What is told of the functions, shown: turnstone/req.Served, turnstone/req.New, (turnstone/pos.Pos).Shift, (turnstone/item.Item).Shift. -/
import Derived.Test.YtjemohphaeiaiaaGreatDoorFm1
namespace Go.Proofs.YtjemohphaeiaiaaGreatDoor.Fn
open Go Go.RowKit Go.Proofs.YtjemohphaeiaiaaGreatDoor.Sy
set_option linter.unusedVariables false
set_option linter.unusedSimpArgs false
set_option maxRecDepth 100000
def t13 : Tr :=
  .br (.f (.rel 101303 [.lst 0 10, .num (.v 0 0), .num (.v 0 1), .num (.v 0 2), .num (.v 0 3), .num (.v 0 4), .num (.v 0 5), .num (.v 0 6), .num (.v 0 7), .num (.v 0 8), .tru (.v 0 9), .num (.n 0), .num (.n 0)] 65544 [.int .u64, .int .u32, .int .u32, .int .i64, .int .u64, .int .u32, .int .u32, .int .u64, .int .u64, .bool, .int .i64, .int .i64]) <|
   .br (.f (.is (.lt (.v 65544 11) (.len 0 10)) true) <|
    .br (.f (.is (.lt (.v 65544 11) (.n 0)) false) <|
     .br (.f (.rel 10 [.num (.v 65544 0), .num (.v 65544 1), .num (.v 65544 2), .num (.v 65544 3), .num (.v 65544 4), .num (.v 65544 5), .num (.v 65544 6), .num (.v 65544 7), .num (.v 65544 8), .tru (.v 65544 9), .num (.bin .mn (.at 0 10 (.v 65544 11) 0) (.v 65544 7))] 65554 [.int .u64, .int .u32, .int .u32, .int .i64, .int .u64, .int .u32, .int .u32, .int .u64, .int .u64, .bool, .bool, .bool]) <|
      .br (.f (.is (.v 65554 11) false) <|
       .ok [.num (.n 0), .num (.n 0), .num (.n 0), .num (.n 0), .num (.n 0), .num (.n 0), .num (.n 0), .num (.n 0), .num (.n 0), .tru (.lt (.n 0) (.n 0)), .num (.n 0), .tru (.lt (.n 0) (.n 0))])
      (.f (.is (.v 65554 11) true) <|
       .br (.f (.is (.v 65554 10) true) <|
        .br (.f (.nrel 101303 [.lst 0 10, .num (.v 0 0), .num (.v 0 1), .num (.v 0 2), .num (.v 0 3), .num (.v 0 4), .num (.v 0 5), .num (.v 0 6), .num (.v 0 7), .num (.v 0 8), .tru (.v 0 9), .num (.n 0), .num (.n 0)] [.num (.v 65554 0), .num (.v 65554 1), .num (.v 65554 2), .num (.v 65554 3), .num (.v 65554 4), .num (.v 65554 5), .num (.v 65554 6), .num (.v 65554 7), .num (.v 65554 8), .tru (.v 65554 9), .num (.wrap .i64 (.bin .add (.v 65544 10) (.n 1))), .num (.wrap .i64 (.bin .add (.v 65544 11) (.n 1)))]) <|
         .bad)
        (.f (.ndec 101303 [.lst 0 10, .num (.v 0 0), .num (.v 0 1), .num (.v 0 2), .num (.v 0 3), .num (.v 0 4), .num (.v 0 5), .num (.v 0 6), .num (.v 0 7), .num (.v 0 8), .tru (.v 0 9), .num (.n 0), .num (.n 0)] [.num (.v 65544 0), .num (.v 65544 1), .num (.v 65544 2), .num (.v 65544 3), .num (.v 65544 4), .num (.v 65544 5), .num (.v 65544 6), .num (.v 65544 7), .num (.v 65544 8), .tru (.v 65544 9), .num (.v 65544 10), .num (.v 65544 11)] [.num (.v 65554 0), .num (.v 65554 1), .num (.v 65554 2), .num (.v 65554 3), .num (.v 65554 4), .num (.v 65554 5), .num (.v 65554 6), .num (.v 65554 7), .num (.v 65554 8), .tru (.v 65554 9), .num (.wrap .i64 (.bin .add (.v 65544 10) (.n 1))), .num (.wrap .i64 (.bin .add (.v 65544 11) (.n 1)))]) <|
         .bad))
       (.f (.is (.v 65554 10) false) <|
        .br (.f (.nrel 101303 [.lst 0 10, .num (.v 0 0), .num (.v 0 1), .num (.v 0 2), .num (.v 0 3), .num (.v 0 4), .num (.v 0 5), .num (.v 0 6), .num (.v 0 7), .num (.v 0 8), .tru (.v 0 9), .num (.n 0), .num (.n 0)] [.num (.v 65554 0), .num (.v 65554 1), .num (.v 65554 2), .num (.v 65554 3), .num (.v 65554 4), .num (.v 65554 5), .num (.v 65554 6), .num (.v 65554 7), .num (.v 65554 8), .tru (.v 65554 9), .num (.v 65544 10), .num (.wrap .i64 (.bin .add (.v 65544 11) (.n 1)))]) <|
         .bad)
        (.f (.ndec 101303 [.lst 0 10, .num (.v 0 0), .num (.v 0 1), .num (.v 0 2), .num (.v 0 3), .num (.v 0 4), .num (.v 0 5), .num (.v 0 6), .num (.v 0 7), .num (.v 0 8), .tru (.v 0 9), .num (.n 0), .num (.n 0)] [.num (.v 65544 0), .num (.v 65544 1), .num (.v 65544 2), .num (.v 65544 3), .num (.v 65544 4), .num (.v 65544 5), .num (.v 65544 6), .num (.v 65544 7), .num (.v 65544 8), .tru (.v 65544 9), .num (.v 65544 10), .num (.v 65544 11)] [.num (.v 65554 0), .num (.v 65554 1), .num (.v 65554 2), .num (.v 65554 3), .num (.v 65554 4), .num (.v 65554 5), .num (.v 65554 6), .num (.v 65554 7), .num (.v 65554 8), .tru (.v 65554 9), .num (.v 65544 10), .num (.wrap .i64 (.bin .add (.v 65544 11) (.n 1)))]) <|
         .bad))))
     (.f (.npre 10 [.num (.v 65544 0), .num (.v 65544 1), .num (.v 65544 2), .num (.v 65544 3), .num (.v 65544 4), .num (.v 65544 5), .num (.v 65544 6), .num (.v 65544 7), .num (.v 65544 8), .tru (.v 65544 9), .num (.bin .mn (.at 0 10 (.v 65544 11) 0) (.v 65544 7))]) <|
      .bad))
    (.f (.is (.lt (.v 65544 11) (.n 0)) true) <|
     .bad))
   (.f (.is (.lt (.v 65544 11) (.len 0 10)) false) <|
    .ok [.num (.v 65544 0), .num (.v 65544 1), .num (.v 65544 2), .num (.v 65544 3), .num (.v 65544 4), .num (.v 65544 5), .num (.v 65544 6), .num (.v 65544 7), .num (.v 65544 8), .tru (.v 65544 9), .num (.v 65544 10), .tru (.le (.n 0) (.n 0))]))
  (.f (.nrel 101303 [.lst 0 10, .num (.v 0 0), .num (.v 0 1), .num (.v 0 2), .num (.v 0 3), .num (.v 0 4), .num (.v 0 5), .num (.v 0 6), .num (.v 0 7), .num (.v 0 8), .tru (.v 0 9), .num (.n 0), .num (.n 0)] [.num (.v 0 0), .num (.v 0 1), .num (.v 0 2), .num (.v 0 3), .num (.v 0 4), .num (.v 0 5), .num (.v 0 6), .num (.v 0 7), .num (.v 0 8), .tru (.v 0 9), .num (.n 0), .num (.n 0)]) <|
   .bad)
theorem c13 : ConS Tryz.prog T C13 := con_tr (cs := [C10]) (lcs := [L101303]) (known := []) (cons_cons c10 (cons_nil _ _)) (Known.nil _) (N := 400) (d := 40) (t := t13) (by kernel_rfl) <| by
  intro E hl hp
  have hl10 := hl 10 _ rfl
  clear hl
  have hp := hp rfl
  simp only [C13, show T.pre 13 = Q13 from rfl, flatS, SP.flat, dvs, List.append_nil, List.cons_append, List.nil_append, Q13, U64, U32, I64, Big, W, wv, s64, MR, MB] at hp
  simp only [t13, C13, Tr.good, Fact.den, LX.den, DX.ls, DV.ls, DX.den, Bx.den, Ex.den, eo_add, eo_sub, eo_mul, eo_quo, eo_rem, eo_fdv, eo_mn, eo_mx, eo_land, eo_lor, eo_lxor, eo_landn, eo_shl, eo_shr, dvs, flatS, SP.flat, ST.flat, List.map_cons, List.map_nil, List.append_nil, List.cons_append, List.nil_append, ltb_t, ltb_f, leb_t, leb_f, eqb_t, eqb_f, decide_eq_true_eq, decide_eq_false_iff_not, Bool.not_eq_true', Bool.not_eq_false', Bool.and_eq_true, Bool.and_eq_false_imp, beq_iff_eq, beq_eq_false_iff_ne, bne_iff_ne, U64, U32, I64, Big, W, wv, Told, s64, MR, MB, Int.zero_mul, Int.zero_add, Int.add_zero, Int.mul_zero, IntKind.wrap_u64, IntKind.wrap_i64, IntKind.wrap_u32, ne_eq, forall_const, true_implies, show T.rel 10 = R10 from rfl, R10, show T.rel 13 = R13 from rfl, R13, show T.rel 101303 = R101303 from rfl, R101303, show T.mu 101303 = M101303 from rfl, M101303, show T.pre 10 = Q10 from rfl, Q10, show T.pre 13 = Q13 from rfl, Q13]
  revert hp hl10
  generalize (E.r 0).i 0 = t
  generalize (E.r 0).i 1 = r
  generalize (E.r 0).i 2 = w
  generalize (E.r 0).i 3 = id
  generalize (E.r 0).i 4 = dt
  generalize (E.r 0).i 5 = dr
  generalize (E.r 0).i 6 = dw
  generalize (E.r 0).i 7 = l
  generalize (E.r 0).i 8 = s
  generalize (E.r 0).c 9 = a
  generalize (E.r 0).l 10 = xs
  generalize (E.r 65544).i 0 = x8_0
  generalize (E.r 65544).i 1 = x8_1
  generalize (E.r 65544).i 2 = x8_2
  generalize (E.r 65544).i 3 = x8_3
  generalize (E.r 65544).i 4 = x8_4
  generalize (E.r 65544).i 5 = x8_5
  generalize (E.r 65544).i 6 = x8_6
  generalize (E.r 65544).i 7 = x8_7
  generalize (E.r 65544).i 8 = x8_8
  generalize (E.r 65544).c 9 = x8_9
  generalize (E.r 65544).i 10 = x8_10
  generalize (E.r 65544).i 11 = x8_11
  generalize (E.r 65554).i 0 = x18_0
  generalize (E.r 65554).i 1 = x18_1
  generalize (E.r 65554).i 2 = x18_2
  generalize (E.r 65554).i 3 = x18_3
  generalize (E.r 65554).i 4 = x18_4
  generalize (E.r 65554).i 5 = x18_5
  generalize (E.r 65554).i 6 = x18_6
  generalize (E.r 65554).i 7 = x18_7
  generalize (E.r 65554).i 8 = x18_8
  generalize (E.r 65554).c 9 = x18_9
  generalize (E.r 65554).c 10 = x18_10
  generalize (E.r 65554).c 11 = x18_11
  try simp only [mxI, mnI]
  try simp only [ltb, leb, eqb, Int.lt_irrefl, decide_false, Int.le_refl, decide_true]
  simp only [SRV]
  intro hl hp
  obtain ⟨p1, p2, p3, p4, p5, p6, p7, p8, hu, hn⟩ := hp
  refine ⟨fun ⟨i0, i1, i2⟩ => ?_, fun n => n ⟨trivial, by omega, SVI.init⟩⟩
  obtain ⟨k, rfl⟩ := Int.eq_ofNat_of_zero_le i0
  have ew : ((k : Int) + 1 + 9223372036854775808) % 18446744073709551616 - 9223372036854775808 = ((k + 1 : Nat) : Int) := by omega
  simp only [Int.toNat_natCast] at i2
  simp only [ew, Int.toNat_natCast]
  obtain ⟨k1, k2, k3, k4, k5, k6, k7, k8, k9⟩ := i2.kinds ⟨p1, p2, p3, p4, p5, p6, p7, p8⟩
  have rq := i2.rq p1 p2.1
  have hk := hu k
  have en : (x8_10 + 1 + 9223372036854775808) % 18446744073709551616 - 9223372036854775808 = x8_10 + 1 := by omega
  simp only [en]
  refine ⟨fun c => ⟨fun _ => ⟨fun ⟨b1, b2, b3⟩ => ⟨fun f => ?_, fun f => ?_⟩, fun n => n ⟨k1, k2, k3, k4, k5, k6, ?_, k7⟩⟩, fun h => by omega⟩, fun c => ?_⟩
  · refine ⟨⟨fun h => (by cases h), fun h => ?_⟩, fun h => (by cases h), fun _ => ⟨rfl, rfl, rfl, rfl, rfl, rfl, rfl, rfl, rfl, rfl, rfl⟩⟩
    rcases h with h | ⟨h1, h2⟩
    · omega
    · have ns := (i2.ns p1 p2.1 h1).1.1
      have hx := h2 k (by omega)
      have := b1.2 ⟨rq.2 h1, by split <;> omega, by split <;> omega⟩
      rw [f] at this
      cases this
  · obtain ⟨q1, q2, q3⟩ := b1.1 f
    have hR := rq.1 q1
    have ns := (i2.ns p1 p2.1 hR).1.1
    have hx : 1 ≤ Sy.rowAt xs k 0 := by
      clear b2 b3
      split at q2 <;> omega
    obtain ⟨e1, e2, e3, e4, e5, e6, e7, e8, e9, e10, e11⟩ := b2 f
    have m := fun n2 h => i2.more hR hx (y := if x8_7 < Sy.rowAt xs k 0 then x8_7 else Sy.rowAt xs k 0) (n2 := n2) rfl e1 e2 e5 e6 e7 e8 h
    rw [← e3, ← e4, ← e9, ← e10] at m
    exact ⟨fun g => ⟨fun n => n ⟨by omega, by omega, m _ (by rw [if_pos (e11.1 g)])⟩, by omega⟩, fun g => ⟨fun n => n ⟨by omega, by omega, m _ (by rw [if_neg (fun h => by have := e11.2 h; rw [g] at this; cases this)])⟩, by omega⟩⟩
  · split <;> omega
  · have ek : k = xs.length := by omega
    subst ek
    refine ⟨⟨fun _ => ?_, fun _ => rfl⟩, fun _ => i2, fun h => (by cases h)⟩
    by_cases hR : RQ t r w id dt dr dw l s
    · exact .inr ⟨hR, (i2.ns p1 p2.1 hR).2⟩
    · exact .inl (i2.2.2.2.2.2 hR).1
end Go.Proofs.YtjemohphaeiaiaaGreatDoor.Fn
namespace Go.Proofs.YtjemohphaeiaiaaGreatDoor.Fn
open Go Go.RowKit Go.Proofs.YtjemohphaeiaiaaGreatDoor.Sy
set_option linter.unusedVariables false
set_option linter.unusedSimpArgs false
set_option maxRecDepth 100000
def t16 : Tr :=
  .br (.f (.rel 29 [.num (.v 0 0), .num (.v 0 1), .num (.v 0 2), .num (.v 0 3), .num (.n 0), .num (.n 0), .num (.n 0), .num (.v 0 4), .num (.v 0 4), .tru (.lt (.n 0) (.n 0))] 65545 [.int .u64, .int .u32, .int .u32, .int .i64, .int .u64, .int .u32, .int .u32, .int .u64, .int .u64, .bool, .bool]) <|
   .ok [.num (.v 65545 0), .num (.v 65545 1), .num (.v 65545 2), .num (.v 65545 3), .num (.v 65545 4), .num (.v 65545 5), .num (.v 65545 6), .num (.v 65545 7), .num (.v 65545 8), .tru (.v 65545 9), .tru (.v 65545 10)])
  (.f (.npre 29 [.num (.v 0 0), .num (.v 0 1), .num (.v 0 2), .num (.v 0 3), .num (.n 0), .num (.n 0), .num (.n 0), .num (.v 0 4), .num (.v 0 4), .tru (.lt (.n 0) (.n 0))]) <|
   .bad)
theorem c16 : ConS Tryz.prog T C16 := con_tr (cs := [C29]) (lcs := []) (known := []) (cons_cons c29 (cons_nil _ _)) (Known.nil _) (N := 400) (d := 40) (t := t16) (by kernel_rfl) <| by
  intro E hl hp
  clear hl
  have hp := hp rfl
  simp only [C16, show T.pre 16 = Q16 from rfl, flatS, SP.flat, dvs, List.append_nil, List.cons_append, List.nil_append, Q16, U64, U32, I64, Big, W, wv, s64, MR, MB] at hp
  simp only [t16, C16, Tr.good, Fact.den, LX.den, DX.ls, DV.ls, DX.den, Bx.den, Ex.den, eo_add, eo_sub, eo_mul, eo_quo, eo_rem, eo_fdv, eo_mn, eo_mx, eo_land, eo_lor, eo_lxor, eo_landn, eo_shl, eo_shr, dvs, flatS, SP.flat, ST.flat, List.map_cons, List.map_nil, List.append_nil, List.cons_append, List.nil_append, ltb_t, ltb_f, leb_t, leb_f, eqb_t, eqb_f, decide_eq_true_eq, decide_eq_false_iff_not, Bool.not_eq_true', Bool.not_eq_false', Bool.and_eq_true, Bool.and_eq_false_imp, beq_iff_eq, beq_eq_false_iff_ne, bne_iff_ne, U64, U32, I64, Big, W, wv, Told, s64, MR, MB, Int.zero_mul, Int.zero_add, Int.add_zero, Int.mul_zero, IntKind.wrap_u64, IntKind.wrap_i64, IntKind.wrap_u32, ne_eq, forall_const, true_implies, show T.rel 16 = R16 from rfl, R16, show T.rel 29 = R29 from rfl, R29, show T.pre 16 = Q16 from rfl, Q16, show T.pre 29 = Q29 from rfl, Q29]
  revert hp
  generalize (E.r 0).i 0 = t
  generalize (E.r 0).i 1 = r
  generalize (E.r 0).i 2 = w
  generalize (E.r 0).i 3 = id
  generalize (E.r 0).i 4 = s
  generalize (E.r 65545).i 0 = x9_0
  generalize (E.r 65545).i 1 = x9_1
  generalize (E.r 65545).i 2 = x9_2
  generalize (E.r 65545).i 3 = x9_3
  generalize (E.r 65545).i 4 = x9_4
  generalize (E.r 65545).i 5 = x9_5
  generalize (E.r 65545).i 6 = x9_6
  generalize (E.r 65545).i 7 = x9_7
  generalize (E.r 65545).i 8 = x9_8
  generalize (E.r 65545).c 9 = x9_9
  generalize (E.r 65545).c 10 = x9_10
  try simp only [mxI, mnI]
  try simp only [ltb, leb, eqb, Int.lt_irrefl, decide_false, Int.le_refl, decide_true]
  intro hp
  repeat' (first | assumption | (intro (h : _ ∧ _); obtain ⟨h1, h2⟩ := h; (first | (subst h1; revert h2) | revert h1 h2)) | (intro h; (first | subst h | skip)) | refine And.intro ?_ ?_)
  all_goals try (show False; refine absurd ?_ ‹¬ _›)
  all_goals repeat' (first | assumption | refine And.intro ?_ ?_)
  all_goals first | omega | grind
end Go.Proofs.YtjemohphaeiaiaaGreatDoor.Fn
namespace Go.Proofs.YtjemohphaeiaiaaGreatDoor.Fn
open Go Go.RowKit Go.Proofs.YtjemohphaeiaiaaGreatDoor.Sy
set_option linter.unusedVariables false
set_option linter.unusedSimpArgs false
set_option maxRecDepth 100000
def t19 : Tr :=
  .ok [.num (.wrap .u64 (.bin .add (.v 0 0) (.v 0 3))), .num (.v 0 1), .num (.v 0 2)]
theorem c19 : ConS Tryz.prog T C19 := con_tr (cs := []) (lcs := []) (known := []) (cons_nil _ _) (Known.nil _) (N := 400) (d := 40) (t := t19) (by kernel_rfl) <| by
  intro E hl hp
  clear hl
  clear hp
  simp only [t19, C19, Tr.good, Fact.den, LX.den, DX.ls, DV.ls, DX.den, Bx.den, Ex.den, eo_add, eo_sub, eo_mul, eo_quo, eo_rem, eo_fdv, eo_mn, eo_mx, eo_land, eo_lor, eo_lxor, eo_landn, eo_shl, eo_shr, dvs, flatS, SP.flat, ST.flat, List.map_cons, List.map_nil, List.append_nil, List.cons_append, List.nil_append, ltb_t, ltb_f, leb_t, leb_f, eqb_t, eqb_f, decide_eq_true_eq, decide_eq_false_iff_not, Bool.not_eq_true', Bool.not_eq_false', Bool.and_eq_true, Bool.and_eq_false_imp, beq_iff_eq, beq_eq_false_iff_ne, bne_iff_ne, U64, U32, I64, Big, W, wv, Told, s64, WT, PR, MR, MB, Int.zero_mul, Int.zero_add, Int.add_zero, Int.mul_zero, IntKind.wrap_u64, IntKind.wrap_i64, IntKind.wrap_u32, ne_eq, forall_const, true_implies, show T.rel 19 = R19 from rfl, R19]
  generalize (E.r 0).i 0 = t
  generalize (E.r 0).i 1 = r
  generalize (E.r 0).i 2 = w
  generalize (E.r 0).i 3 = by_
  try simp only [mxI, mnI]
  try simp only [ltb, leb, eqb, Int.lt_irrefl, decide_false, Int.le_refl, decide_true]
  repeat' (first | intro _ | refine And.intro ?_ ?_ | refine Iff.intro ?_ ?_)
  all_goals first | omega | (simp_all; done) | (simp_all; omega)
end Go.Proofs.YtjemohphaeiaiaaGreatDoor.Fn
namespace Go.Proofs.YtjemohphaeiaiaaGreatDoor.Fn
open Go Go.RowKit Go.Proofs.YtjemohphaeiaiaaGreatDoor.Sy
set_option linter.unusedVariables false
set_option linter.unusedSimpArgs false
set_option maxRecDepth 100000
def t20 : Tr :=
  .f (.rel 19 [.num (.v 0 0), .num (.v 0 1), .num (.v 0 2), .num (.v 0 7)] 65541 [.int .u64, .int .u32, .int .u32]) <|
   .f (.rel 19 [.num (.v 0 4), .num (.v 0 5), .num (.v 0 6), .num (.v 0 7)] 65545 [.int .u64, .int .u32, .int .u32]) <|
    .ok [.num (.v 65541 0), .num (.v 65541 1), .num (.v 65541 2), .num (.v 0 3), .num (.v 65545 0), .num (.v 65545 1), .num (.v 65545 2)]
theorem c20 : ConS Tryz.prog T C20 := con_tr (cs := [C19]) (lcs := []) (known := []) (cons_cons c19 (cons_nil _ _)) (Known.nil _) (N := 400) (d := 40) (t := t20) (by kernel_rfl) <| by
  intro E hl hp
  clear hl
  clear hp
  simp only [t20, C20, Tr.good, Fact.den, LX.den, DX.ls, DV.ls, DX.den, Bx.den, Ex.den, eo_add, eo_sub, eo_mul, eo_quo, eo_rem, eo_fdv, eo_mn, eo_mx, eo_land, eo_lor, eo_lxor, eo_landn, eo_shl, eo_shr, dvs, flatS, SP.flat, ST.flat, List.map_cons, List.map_nil, List.append_nil, List.cons_append, List.nil_append, ltb_t, ltb_f, leb_t, leb_f, eqb_t, eqb_f, decide_eq_true_eq, decide_eq_false_iff_not, Bool.not_eq_true', Bool.not_eq_false', Bool.and_eq_true, Bool.and_eq_false_imp, beq_iff_eq, beq_eq_false_iff_ne, bne_iff_ne, U64, U32, I64, Big, W, wv, Told, s64, WT, PR, MR, MB, Int.zero_mul, Int.zero_add, Int.add_zero, Int.mul_zero, IntKind.wrap_u64, IntKind.wrap_i64, IntKind.wrap_u32, ne_eq, forall_const, true_implies, show T.rel 19 = R19 from rfl, R19, show T.rel 20 = R20 from rfl, R20]
  generalize (E.r 0).i 0 = t
  generalize (E.r 0).i 1 = r
  generalize (E.r 0).i 2 = w
  generalize (E.r 0).i 3 = id
  generalize (E.r 0).i 4 = dt
  generalize (E.r 0).i 5 = dr
  generalize (E.r 0).i 6 = dw
  generalize (E.r 0).i 7 = y
  generalize (E.r 65541).i 0 = x5_0
  generalize (E.r 65541).i 1 = x5_1
  generalize (E.r 65541).i 2 = x5_2
  generalize (E.r 65545).i 0 = x9_0
  generalize (E.r 65545).i 1 = x9_1
  generalize (E.r 65545).i 2 = x9_2
  try simp only [mxI, mnI]
  try simp only [ltb, leb, eqb, Int.lt_irrefl, decide_false, Int.le_refl, decide_true]
  repeat' (first | intro _ | refine And.intro ?_ ?_ | refine Iff.intro ?_ ?_)
  all_goals first | omega | (simp_all; done) | (simp_all; omega)
end Go.Proofs.YtjemohphaeiaiaaGreatDoor.Fn
