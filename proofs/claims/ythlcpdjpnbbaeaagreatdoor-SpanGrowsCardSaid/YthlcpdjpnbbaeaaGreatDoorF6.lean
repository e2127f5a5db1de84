/- What is told of turnstone/turnstonelaw13.SpanGrows, shown. -/
import Derived.Test.YthlcpdjpnbbaeaaGreatDoorTab
import Derived.Test.YthlcpdjpnbbaeaaGreatDoorFm0
import Derived.Test.YthlcpdjpnbbaeaaGreatDoorSyAwake5
namespace Go.Proofs.YthlcpdjpnbbaeaaGreatDoor.Fn
open Go Go.RowKit Go.Proofs.YthlcpdjpnbbaeaaGreatDoor.Sy
set_option linter.unusedVariables false
set_option linter.unusedSimpArgs false
set_option maxRecDepth 100000
open Go.Proofs.YthlcpdjpnbbaeaaGreatDoor.Awake
def t6 : Tr :=
  .br (.f (.is (.lt (.n 40) (.len 0 1)) true) <|
   .ok [.tru (.le (.n 0) (.n 0))])
  (.f (.is (.lt (.n 40) (.len 0 1)) false) <|
   .br (.f (.is (.le (.len 0 1) (.n 1000000000)) true) <|
    .f (.lseq 65547 (.app (.rows []) (.lst 0 1))) <|
     .br (.f (.is (.le (.len 65547 0) (.n 1000000000)) true) <|
      .f (.lseq 65550 (.app (.lst 65547 0) (.rows [[.v 0 2, .v 0 3, .v 0 4, .v 0 5, .v 0 6, .v 0 7, .v 0 8]]))) <|
       .br (.f (.is (.lt (.n 0) (.len 0 1)) true) <|
        .br (.f (.rel 30 [.num (.v 0 0), .lst 65550 0] 65558 [.int .u64]) <|
         .br (.f (.rel 30 [.num (.v 0 0), .lst 0 1] 65561 [.int .u64]) <|
          .br (.f (.is (.lt (.v 65561 0) (.v 65558 0)) true) <|
           .ok [.tru (.lt (.n 0) (.n 0))])
          (.f (.is (.lt (.v 65561 0) (.v 65558 0)) false) <|
           .br (.f (.rel 31 [.num (.v 0 0), .lst 65550 0] 65566 [.bool]) <|
            .br (.f (.is (.v 65566 0) true) <|
             .br (.f (.rel 31 [.num (.v 0 0), .lst 0 1] 65570 [.bool]) <|
              .br (.f (.is (.v 65570 0) false) <|
               .ok [.tru (.lt (.n 0) (.n 0))])
              (.f (.is (.v 65570 0) true) <|
               .br (.f (.rel 32 [.num (.v 0 2), .num (.v 0 3), .num (.v 0 4), .num (.v 0 5), .num (.v 0 6), .num (.v 0 7), .num (.v 0 8)] 65576 [.bool]) <|
                .br (.f (.is (.v 65576 0) false) <|
                 .ok [.tru (.le (.n 0) (.n 0))])
                (.f (.is (.v 65576 0) true) <|
                 .br (.f (.rel 30 [.num (.v 0 2), .rows [[.v 0 2, .v 0 3, .v 0 4, .v 0 5, .v 0 6, .v 0 7, .v 0 8]]] 65584 [.int .u64]) <|
                  .f (.rel 14 [.num (.v 0 6), .num (.v 0 2)] 65591 [.int .i64]) <|
                   .ok [.tru (.eq (.v 65584 0) (.wrap .u64 (.bin .sub (.n 4611686018427387904) (.wrap .u64 (.v 65591 0)))))])
                 (.f (.npre 30 [.num (.v 0 2), .rows [[.v 0 2, .v 0 3, .v 0 4, .v 0 5, .v 0 6, .v 0 7, .v 0 8]]]) <|
                  .bad)))
               (.f (.npre 32 [.num (.v 0 2), .num (.v 0 3), .num (.v 0 4), .num (.v 0 5), .num (.v 0 6), .num (.v 0 7), .num (.v 0 8)]) <|
                .bad)))
             (.f (.npre 31 [.num (.v 0 0), .lst 0 1]) <|
              .bad))
            (.f (.is (.v 65566 0) false) <|
             .br (.f (.rel 32 [.num (.v 0 2), .num (.v 0 3), .num (.v 0 4), .num (.v 0 5), .num (.v 0 6), .num (.v 0 7), .num (.v 0 8)] 65576 [.bool]) <|
              .br (.f (.is (.v 65576 0) false) <|
               .ok [.tru (.le (.n 0) (.n 0))])
              (.f (.is (.v 65576 0) true) <|
               .br (.f (.rel 30 [.num (.v 0 2), .rows [[.v 0 2, .v 0 3, .v 0 4, .v 0 5, .v 0 6, .v 0 7, .v 0 8]]] 65584 [.int .u64]) <|
                .f (.rel 14 [.num (.v 0 6), .num (.v 0 2)] 65591 [.int .i64]) <|
                 .ok [.tru (.eq (.v 65584 0) (.wrap .u64 (.bin .sub (.n 4611686018427387904) (.wrap .u64 (.v 65591 0)))))])
               (.f (.npre 30 [.num (.v 0 2), .rows [[.v 0 2, .v 0 3, .v 0 4, .v 0 5, .v 0 6, .v 0 7, .v 0 8]]]) <|
                .bad)))
             (.f (.npre 32 [.num (.v 0 2), .num (.v 0 3), .num (.v 0 4), .num (.v 0 5), .num (.v 0 6), .num (.v 0 7), .num (.v 0 8)]) <|
              .bad)))
           (.f (.npre 31 [.num (.v 0 0), .lst 65550 0]) <|
            .bad)))
         (.f (.npre 30 [.num (.v 0 0), .lst 0 1]) <|
          .bad))
        (.f (.npre 30 [.num (.v 0 0), .lst 65550 0]) <|
         .bad))
       (.f (.is (.lt (.n 0) (.len 0 1)) false) <|
        .br (.f (.rel 32 [.num (.v 0 2), .num (.v 0 3), .num (.v 0 4), .num (.v 0 5), .num (.v 0 6), .num (.v 0 7), .num (.v 0 8)] 65576 [.bool]) <|
         .br (.f (.is (.v 65576 0) false) <|
          .ok [.tru (.le (.n 0) (.n 0))])
         (.f (.is (.v 65576 0) true) <|
          .br (.f (.rel 30 [.num (.v 0 2), .rows [[.v 0 2, .v 0 3, .v 0 4, .v 0 5, .v 0 6, .v 0 7, .v 0 8]]] 65584 [.int .u64]) <|
           .f (.rel 14 [.num (.v 0 6), .num (.v 0 2)] 65591 [.int .i64]) <|
            .ok [.tru (.eq (.v 65584 0) (.wrap .u64 (.bin .sub (.n 4611686018427387904) (.wrap .u64 (.v 65591 0)))))])
          (.f (.npre 30 [.num (.v 0 2), .rows [[.v 0 2, .v 0 3, .v 0 4, .v 0 5, .v 0 6, .v 0 7, .v 0 8]]]) <|
           .bad)))
        (.f (.npre 32 [.num (.v 0 2), .num (.v 0 3), .num (.v 0 4), .num (.v 0 5), .num (.v 0 6), .num (.v 0 7), .num (.v 0 8)]) <|
         .bad)))
     (.f (.is (.le (.len 65547 0) (.n 1000000000)) false) <|
      .bad))
   (.f (.is (.le (.len 0 1) (.n 1000000000)) false) <|
    .bad))
theorem c6 : ConS Tryz.prog T C6 := con_tr (cs := [C14, C30, C31, C32]) (lcs := []) (known := [29, 75, 22, 65, 104, 115, 19, 55, 9, 44, 85, 110, 120, 131, 140, 130, 139, 150, 161, 179, 182, 178, 181, 190, 191]) (cons_cons c14 (cons_cons c30 (cons_cons c31 (cons_cons c32 (cons_nil _ _))))) known29 (N := 400) (d := 40) (t := t6) (by kernel_rfl) <| by
  intro E hl hp
  have hl1 := hl 1 _ rfl
  clear hl
  have hp := hp rfl
  simp only [C6, show T.pre 6 = Q6 from rfl, flatS, SP.flat, dvs, List.append_nil, List.cons_append, List.nil_append, Q6, U64, U32, I64, Big, W, wv, s64, WT, PR, MR, MB] at hp
  simp only [t6, C6, Tr.good, Fact.den, LX.den, DX.ls, DV.ls, DX.den, Bx.den, Ex.den, eo_add, eo_sub, eo_mul, eo_quo, eo_rem, eo_fdv, eo_mn, eo_mx, eo_land, eo_lor, eo_lxor, eo_landn, eo_shl, eo_shr, dvs, flatS, SP.flat, ST.flat, List.map_cons, List.map_nil, List.append_nil, List.cons_append, List.nil_append, ltb_t, ltb_f, leb_t, leb_f, eqb_t, eqb_f, decide_eq_true_eq, decide_eq_false_iff_not, Bool.not_eq_true', Bool.not_eq_false', Bool.and_eq_true, Bool.and_eq_false_imp, beq_iff_eq, beq_eq_false_iff_ne, bne_iff_ne, U64, U32, I64, Big, W, wv, Told, s64, WT, PR, MR, MB, Int.zero_mul, Int.zero_add, Int.add_zero, Int.mul_zero, IntKind.wrap_u64, IntKind.wrap_i64, IntKind.wrap_u32, ne_eq, forall_const, true_implies, show T.rel 6 = R6 from rfl, R6, show T.rel 14 = R14 from rfl, R14, show T.rel 30 = R30 from rfl, R30, show T.rel 31 = R31 from rfl, R31, show T.rel 32 = R32 from rfl, R32, show T.pre 6 = Q6 from rfl, Q6, show T.pre 30 = Q30 from rfl, Q30, show T.pre 31 = Q31 from rfl, Q31, show T.pre 32 = Q32 from rfl, Q32]
  revert hp hl1
  generalize (E.r 0).i 0 = base
  generalize (E.r 0).l 1 = xs
  generalize (E.r 0).i 2 = t
  generalize (E.r 0).i 3 = r
  generalize (E.r 0).i 4 = w
  generalize (E.r 0).i 5 = id
  generalize (E.r 0).i 6 = dt
  generalize (E.r 0).i 7 = dr
  generalize (E.r 0).i 8 = dw
  generalize (E.r 65547).l 0 = x11_0
  generalize (E.r 65550).l 0 = x14_0
  generalize (E.r 65558).i 0 = x22_0
  generalize (E.r 65561).i 0 = x25_0
  generalize (E.r 65566).c 0 = x30_0
  generalize (E.r 65570).c 0 = x34_0
  generalize (E.r 65576).c 0 = x40_0
  generalize (E.r 65584).i 0 = x48_0
  generalize (E.r 65591).i 0 = x55_0
  try simp only [mxI, mnI]
  try simp only [ltb, leb, eqb, Int.lt_irrefl, decide_false, Int.le_refl, decide_true]
  intro hl hp
  have g := SPR_more base xs [t, r, w, id, dt, dr, dw]
  have s := SPR_single t t dt [t, r, w, id, dt, dr, dw] rfl rfl
  have s0 : s64 (t - t) = 0 := by simp only [s64]; omega
  have s1 : 0 ≤ s64 (dt - t) → SPR t [[t, r, w, id, dt, dr, dw]] = s64 (dt - t) := by
    intro h
    rw [s, s0]
    split <;> omega
  have b1 := SPR_le base xs
  have b2 := SPR_le base (xs ++ [[t, r, w, id, dt, dr, dw]])
  have L : (xs ++ [[t, r, w, id, dt, dr, dw]]).length = xs.length + 1 := by simp
  have L1 : [[t, r, w, id, dt, dr, dw]].length = 1 := rfl
  simp only [s64] at s1
  clear s s0
  repeat' (first | assumption | (intro (h : _ ∧ _); obtain ⟨h1, h2⟩ := h; (first | (subst h1; revert h2) | revert h1 h2)) | (intro h; (first | subst h | skip)) | refine And.intro ?_ ?_)
  all_goals try (show False; refine absurd ?_ ‹¬ _›)
  all_goals repeat' (first | assumption | refine And.intro ?_ ?_)
  all_goals first | omega | grind
end Go.Proofs.YthlcpdjpnbbaeaaGreatDoor.Fn
