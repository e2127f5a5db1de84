/- What is told of the functions, shown: (*turnstone/rbtree.Tree[turnstone/item.Item, turnstone/item.Item]).toRight, (*turnstone/rbtree.node[turnstone/item.Item, turnstone/item.Item]).flip, (*turnstone/rbtree.Tree[turnstone/item.Item, turnstone/item.Item]).mend, (*turnstone/rbtree.Tree[turnstone/item.Item, turnstone/item.Item]).insert, (*turnstone/rbtree.Tree[turnstone/item.Item, turnstone/item.Item]).Insert, turnstone/dtree.New, (*turnstone/rbtree.node[turnstone/item.Item, turnstone/item.Item]).walk, (*turnstone/rbtree.Tree[turnstone/item.Item, turnstone/item.Item]).All, (turnstone/pos.Pos).Shift, (turnstone/item.Item).Shift, (turnstone/dtree.Tree).Shift, (*turnstone/rbtree.Tree[turnstone/item.Item, turnstone/item.Item]).Len. -/
import Derived.Test.YtkepkjahbcddlaaFm0
namespace Go.Proofs.Ytkepkjahbcddlaa.Fn
open Go Go.RowKit Go.Proofs.Ytkepkjahbcddlaa.Sy
set_option linter.unusedVariables false
set_option linter.unusedSimpArgs false
set_option maxRecDepth 100000
def t66 : Tr :=
  .br (.f (.is (.nil 0 1 []) false) <|
   .br (.f (.is (.nil 0 1 [false]) false) <|
    .br (.f (.is (.nil 65569 0 []) false) <|
     .f (.rel 63 [.num (.n 0), .obj (.nd 16842767 [.fld 0 1 [] 0, .fld 0 1 [] 1, .fld 0 1 [] 2, .fld 0 1 [] 3, .fld 0 1 [] 4, .fld 0 1 [] 5, .fld 0 1 [] 6, .fld 0 1 [] 7, .fld 0 1 [] 8, .fld 0 1 [] 9, .fld 0 1 [] 10, .fld 0 1 [] 11, .fld 0 1 [] 12, .fld 0 1 [] 13] [.le (.n 0) (.n 0)] (.at 0 1 [false, true]) (.at 0 1 [true]))] 65569 [.obj 0]) <|
      .br (.f (.is (.nil 65572 0 []) false) <|
       .f (.rel 63 [.num (.n 0), .obj (.nd 33619986 [.fld 0 1 [false] 0, .fld 0 1 [false] 1, .fld 0 1 [false] 2, .fld 0 1 [false] 3, .fld 0 1 [false] 4, .fld 0 1 [false] 5, .fld 0 1 [false] 6, .fld 0 1 [false] 7, .fld 0 1 [false] 8, .fld 0 1 [false] 9, .fld 0 1 [false] 10, .fld 0 1 [false] 11, .fld 0 1 [false] 12, .fld 0 1 [false] 13] [.fld 0 1 [] 0] (.at 0 1 [false, false]) (.at 65569 0 []))] 65572 [.obj 0]) <|
        .ok [.obj (.at 65572 0 [])])
      (.f (.npre 63 [.num (.n 0), .obj (.nd 33619986 [.fld 0 1 [false] 0, .fld 0 1 [false] 1, .fld 0 1 [false] 2, .fld 0 1 [false] 3, .fld 0 1 [false] 4, .fld 0 1 [false] 5, .fld 0 1 [false] 6, .fld 0 1 [false] 7, .fld 0 1 [false] 8, .fld 0 1 [false] 9, .fld 0 1 [false] 10, .fld 0 1 [false] 11, .fld 0 1 [false] 12, .fld 0 1 [false] 13] [.fld 0 1 [] 0] (.at 0 1 [false, false]) (.at 65569 0 []))]) <|
       .bad))
    (.f (.npre 63 [.num (.n 0), .obj (.nd 16842767 [.fld 0 1 [] 0, .fld 0 1 [] 1, .fld 0 1 [] 2, .fld 0 1 [] 3, .fld 0 1 [] 4, .fld 0 1 [] 5, .fld 0 1 [] 6, .fld 0 1 [] 7, .fld 0 1 [] 8, .fld 0 1 [] 9, .fld 0 1 [] 10, .fld 0 1 [] 11, .fld 0 1 [] 12, .fld 0 1 [] 13] [.le (.n 0) (.n 0)] (.at 0 1 [false, true]) (.at 0 1 [true]))]) <|
     .bad))
   (.f (.is (.nil 0 1 [false]) true) <|
    .bad))
  (.f (.is (.nil 0 1 []) true) <|
   .bad)
theorem c66 : ConS Try.prog T C66 := con_tr (cs := [C63]) (lcs := []) (known := []) (cons_cons c63 (cons_nil _ _)) (Known.nil _) (N := 400) (d := 40) (t := t66) (by kernel_rfl) <| by
  intro E hl hp
  clear hl
  have hp := hp rfl
  simp only [C66, show T.pre 66 = Q66 from rfl, flatS, SP.flat, dvs, List.append_nil, List.cons_append, List.nil_append, Q66, U64, U32, I64, Big, W, wv, s64, WT, PR, MR, MB] at hp
  simp only [t66, C66, Tr.good, Fact.den, DE.den, Dat.sub, LX.den, DX.ls, DV.ls, DX.den, Bx.den, Ex.den, eo_add, eo_sub, eo_mul, eo_quo, eo_rem, eo_fdv, eo_mn, eo_mx, eo_land, eo_lor, eo_lxor, eo_landn, eo_shl, eo_shr, dvs, flatS, SP.flat, ST.flat, List.map_cons, List.map_nil, List.append_nil, List.cons_append, List.nil_append, ltb_t, ltb_f, leb_t, leb_f, eqb_t, eqb_f, decide_eq_true_eq, decide_eq_false_iff_not, Bool.not_eq_true', Bool.not_eq_false', Bool.and_eq_true, Bool.and_eq_false_imp, beq_iff_eq, beq_eq_false_iff_ne, bne_iff_ne, U64, U32, I64, Big, W, wv, Told, s64, WT, PR, MR, MB, Int.zero_mul, Int.zero_add, Int.add_zero, Int.mul_zero, IntKind.wrap_u64, IntKind.wrap_i64, IntKind.wrap_u32, ne_eq, forall_const, true_implies, show T.rel 63 = R63 from rfl, R63, show T.rel 66 = R66 from rfl, R66, show T.pre 63 = Q63 from rfl, Q63, show T.pre 66 = Q66 from rfl, Q66]
  revert hp
  generalize (E.r 0).t 1 = n
  generalize (E.r 65569).t 0 = x33_0
  generalize (E.r 65572).t 0 = x36_0
  try simp only [mxI, mnI]
  try simp only [ltb, leb, eqb, Int.lt_irrefl, decide_false, Int.le_refl, decide_true]
  rintro ⟨h0, h1, hK⟩
  rw [sh_nd h0, sh_nd h1] at hK
  obtain ⟨k1, k2, ⟨k4, k5, k6, k7⟩, k3⟩ := hK
  have kk : ItT.K (.N (it7 n) (al7 n) true (sh ((n.kid false).kid true)) (sh (n.kid true))) := ⟨k1, k2, k7, k3⟩
  rw [sh_nd h0, sh_nd h1]
  simp only [sh_mk]
  simp only [h0, h1, leaf_mk, it7_of, al7_of, ItT.toRight, Bool.false_eq_true, false_implies, true_implies, and_true, true_and]
  refine ⟨fun _ e1 => ⟨fun _ e2 => ?_, fun n => n ?_⟩, fun n => n kk⟩
  · rw [e2, e1]
  · rw [e1]; exact ⟨k4, k5, k6, ItT.K_sum kk⟩
end Go.Proofs.Ytkepkjahbcddlaa.Fn
namespace Go.Proofs.Ytkepkjahbcddlaa.Fn
open Go Go.RowKit Go.Proofs.Ytkepkjahbcddlaa.Sy
set_option linter.unusedVariables false
set_option linter.unusedSimpArgs false
set_option maxRecDepth 100000
def t67 : Tr :=
  .br (.f (.is (.nil 0 0 []) false) <|
   .br (.f (.is (.nil 0 0 [false]) false) <|
    .br (.f (.is (.nil 0 0 [true]) false) <|
     .ok [.obj (.nd 16842760 [.fld 0 0 [] 0, .fld 0 0 [] 1, .fld 0 0 [] 2, .fld 0 0 [] 3, .fld 0 0 [] 4, .fld 0 0 [] 5, .fld 0 0 [] 6, .fld 0 0 [] 7, .fld 0 0 [] 8, .fld 0 0 [] 9, .fld 0 0 [] 10, .fld 0 0 [] 11, .fld 0 0 [] 12, .fld 0 0 [] 13] [.not (.fld 0 0 [] 0)] (.nd 33619991 [.fld 0 0 [false] 0, .fld 0 0 [false] 1, .fld 0 0 [false] 2, .fld 0 0 [false] 3, .fld 0 0 [false] 4, .fld 0 0 [false] 5, .fld 0 0 [false] 6, .fld 0 0 [false] 7, .fld 0 0 [false] 8, .fld 0 0 [false] 9, .fld 0 0 [false] 10, .fld 0 0 [false] 11, .fld 0 0 [false] 12, .fld 0 0 [false] 13] [.not (.fld 0 0 [false] 0)] (.at 0 0 [false, false]) (.at 0 0 [false, true])) (.nd 33620006 [.fld 0 0 [true] 0, .fld 0 0 [true] 1, .fld 0 0 [true] 2, .fld 0 0 [true] 3, .fld 0 0 [true] 4, .fld 0 0 [true] 5, .fld 0 0 [true] 6, .fld 0 0 [true] 7, .fld 0 0 [true] 8, .fld 0 0 [true] 9, .fld 0 0 [true] 10, .fld 0 0 [true] 11, .fld 0 0 [true] 12, .fld 0 0 [true] 13] [.not (.fld 0 0 [true] 0)] (.at 0 0 [true, false]) (.at 0 0 [true, true])))])
    (.f (.is (.nil 0 0 [true]) true) <|
     .bad))
   (.f (.is (.nil 0 0 [false]) true) <|
    .bad))
  (.f (.is (.nil 0 0 []) true) <|
   .bad)
theorem c67 : ConS Try.prog T C67 := con_tr (cs := []) (lcs := []) (known := []) (cons_nil _ _) (Known.nil _) (N := 400) (d := 40) (t := t67) (by kernel_rfl) <| by
  intro E hl hp
  clear hl
  have hp := hp rfl
  simp only [C67, show T.pre 67 = Q67 from rfl, flatS, SP.flat, dvs, List.append_nil, List.cons_append, List.nil_append, Q67, U64, U32, I64, Big, W, wv, s64, WT, PR, MR, MB] at hp
  simp only [t67, C67, Tr.good, Fact.den, DE.den, Dat.sub, LX.den, DX.ls, DV.ls, DX.den, Bx.den, Ex.den, eo_add, eo_sub, eo_mul, eo_quo, eo_rem, eo_fdv, eo_mn, eo_mx, eo_land, eo_lor, eo_lxor, eo_landn, eo_shl, eo_shr, dvs, flatS, SP.flat, ST.flat, List.map_cons, List.map_nil, List.append_nil, List.cons_append, List.nil_append, ltb_t, ltb_f, leb_t, leb_f, eqb_t, eqb_f, decide_eq_true_eq, decide_eq_false_iff_not, Bool.not_eq_true', Bool.not_eq_false', Bool.and_eq_true, Bool.and_eq_false_imp, beq_iff_eq, beq_eq_false_iff_ne, bne_iff_ne, U64, U32, I64, Big, W, wv, Told, s64, WT, PR, MR, MB, Int.zero_mul, Int.zero_add, Int.add_zero, Int.mul_zero, IntKind.wrap_u64, IntKind.wrap_i64, IntKind.wrap_u32, ne_eq, forall_const, true_implies, show T.rel 67 = R67 from rfl, R67, show T.pre 67 = Q67 from rfl, Q67]
  revert hp
  generalize (E.r 0).t 0 = n
  try simp only [mxI, mnI]
  try simp only [ltb, leb, eqb, Int.lt_irrefl, decide_false, Int.le_refl, decide_true]
  rintro ⟨h0, h1, h2⟩
  rw [sh_nd h0, sh_nd h1, sh_nd h2]
  simp only [sh_mk]
  simp only [h0, h1, h2, leaf_mk, it7_of, al7_of, ItT.flip, Bool.false_eq_true, false_implies, true_implies, and_true, true_and]
end Go.Proofs.Ytkepkjahbcddlaa.Fn
namespace Go.Proofs.Ytkepkjahbcddlaa.Fn
open Go Go.RowKit Go.Proofs.Ytkepkjahbcddlaa.Sy
set_option linter.unusedVariables false
set_option linter.unusedSimpArgs false
set_option maxRecDepth 100000
def t51 : Tr :=
  .br (.f (.rel 63 [.num (.n 0), .obj (.at 0 1 [])] 65539 [.obj 0]) <|
   .br (.f (.is (.nil 65539 0 []) false) <|
    .f (.rel 64 [.obj (.at 65539 0 [true])] 65544 [.bool]) <|
     .br (.f (.is (.v 65544 0) true) <|
      .f (.rel 64 [.obj (.at 65539 0 [false])] 65550 [.bool]) <|
       .br (.f (.is (.v 65550 0) false) <|
        .br (.f (.rel 65 [.num (.n 0), .obj (.at 65539 0 [])] 65555 [.obj 0]) <|
         .br (.f (.is (.nil 65555 0 []) false) <|
          .f (.rel 64 [.obj (.at 65555 0 [false])] 65561 [.bool]) <|
           .br (.f (.is (.v 65561 0) true) <|
            .br (.f (.is (.nil 65555 0 [false]) false) <|
             .f (.rel 64 [.obj (.at 65555 0 [false, false])] 65570 [.bool]) <|
              .br (.f (.is (.v 65570 0) true) <|
               .br (.f (.rel 66 [.num (.n 0), .obj (.at 65555 0 [])] 65574 [.obj 0]) <|
                .br (.f (.is (.nil 65574 0 []) false) <|
                 .f (.rel 64 [.obj (.at 65574 0 [false])] 65580 [.bool]) <|
                  .br (.f (.is (.v 65580 0) true) <|
                   .f (.rel 64 [.obj (.at 65574 0 [true])] 65586 [.bool]) <|
                    .br (.f (.is (.v 65586 0) true) <|
                     .br (.f (.is (.nil 65589 0 []) false) <|
                      .f (.rel 67 [.obj (.at 65574 0 [])] 65589 [.obj 0]) <|
                       .ok [.obj (.at 65589 0 [])])
                     (.f (.npre 67 [.obj (.at 65574 0 [])]) <|
                      .bad))
                    (.f (.is (.v 65586 0) false) <|
                     .ok [.obj (.at 65574 0 [])]))
                  (.f (.is (.v 65580 0) false) <|
                   .ok [.obj (.at 65574 0 [])]))
                (.f (.is (.nil 65574 0 []) true) <|
                 .bad))
               (.f (.npre 66 [.num (.n 0), .obj (.at 65555 0 [])]) <|
                .bad))
              (.f (.is (.v 65570 0) false) <|
               .f (.rel 64 [.obj (.at 65555 0 [false])] 65576 [.bool]) <|
                .br (.f (.is (.v 65576 0) true) <|
                 .f (.rel 64 [.obj (.at 65555 0 [true])] 65582 [.bool]) <|
                  .br (.f (.is (.v 65582 0) true) <|
                   .br (.f (.is (.nil 65585 0 []) false) <|
                    .f (.rel 67 [.obj (.at 65555 0 [])] 65585 [.obj 0]) <|
                     .ok [.obj (.at 65585 0 [])])
                   (.f (.npre 67 [.obj (.at 65555 0 [])]) <|
                    .bad))
                  (.f (.is (.v 65582 0) false) <|
                   .ok [.obj (.at 65555 0 [])]))
                (.f (.is (.v 65576 0) false) <|
                 .ok [.obj (.at 65555 0 [])])))
            (.f (.is (.nil 65555 0 [false]) true) <|
             .bad))
           (.f (.is (.v 65561 0) false) <|
            .f (.rel 64 [.obj (.at 65555 0 [false])] 65576 [.bool]) <|
             .br (.f (.is (.v 65576 0) true) <|
              .f (.rel 64 [.obj (.at 65555 0 [true])] 65582 [.bool]) <|
               .br (.f (.is (.v 65582 0) true) <|
                .br (.f (.is (.nil 65585 0 []) false) <|
                 .f (.rel 67 [.obj (.at 65555 0 [])] 65585 [.obj 0]) <|
                  .ok [.obj (.at 65585 0 [])])
                (.f (.npre 67 [.obj (.at 65555 0 [])]) <|
                 .bad))
               (.f (.is (.v 65582 0) false) <|
                .ok [.obj (.at 65555 0 [])]))
             (.f (.is (.v 65576 0) false) <|
              .ok [.obj (.at 65555 0 [])])))
         (.f (.is (.nil 65555 0 []) true) <|
          .bad))
        (.f (.npre 65 [.num (.n 0), .obj (.at 65539 0 [])]) <|
         .bad))
       (.f (.is (.v 65550 0) true) <|
        .f (.rel 64 [.obj (.at 65539 0 [false])] 65557 [.bool]) <|
         .br (.f (.is (.v 65557 0) true) <|
          .br (.f (.is (.nil 65539 0 [false]) false) <|
           .f (.rel 64 [.obj (.at 65539 0 [false, false])] 65566 [.bool]) <|
            .br (.f (.is (.v 65566 0) true) <|
             .br (.f (.rel 66 [.num (.n 0), .obj (.at 65539 0 [])] 65570 [.obj 0]) <|
              .br (.f (.is (.nil 65570 0 []) false) <|
               .f (.rel 64 [.obj (.at 65570 0 [false])] 65576 [.bool]) <|
                .br (.f (.is (.v 65576 0) true) <|
                 .f (.rel 64 [.obj (.at 65570 0 [true])] 65582 [.bool]) <|
                  .br (.f (.is (.v 65582 0) true) <|
                   .br (.f (.is (.nil 65585 0 []) false) <|
                    .f (.rel 67 [.obj (.at 65570 0 [])] 65585 [.obj 0]) <|
                     .ok [.obj (.at 65585 0 [])])
                   (.f (.npre 67 [.obj (.at 65570 0 [])]) <|
                    .bad))
                  (.f (.is (.v 65582 0) false) <|
                   .ok [.obj (.at 65570 0 [])]))
                (.f (.is (.v 65576 0) false) <|
                 .ok [.obj (.at 65570 0 [])]))
              (.f (.is (.nil 65570 0 []) true) <|
               .bad))
             (.f (.npre 66 [.num (.n 0), .obj (.at 65539 0 [])]) <|
              .bad))
            (.f (.is (.v 65566 0) false) <|
             .f (.rel 64 [.obj (.at 65539 0 [false])] 65572 [.bool]) <|
              .br (.f (.is (.v 65572 0) true) <|
               .f (.rel 64 [.obj (.at 65539 0 [true])] 65578 [.bool]) <|
                .br (.f (.is (.v 65578 0) true) <|
                 .br (.f (.is (.nil 65581 0 []) false) <|
                  .f (.rel 67 [.obj (.at 65539 0 [])] 65581 [.obj 0]) <|
                   .ok [.obj (.at 65581 0 [])])
                 (.f (.npre 67 [.obj (.at 65539 0 [])]) <|
                  .bad))
                (.f (.is (.v 65578 0) false) <|
                 .ok [.obj (.at 65539 0 [])]))
              (.f (.is (.v 65572 0) false) <|
               .ok [.obj (.at 65539 0 [])])))
          (.f (.is (.nil 65539 0 [false]) true) <|
           .bad))
         (.f (.is (.v 65557 0) false) <|
          .f (.rel 64 [.obj (.at 65539 0 [false])] 65572 [.bool]) <|
           .br (.f (.is (.v 65572 0) true) <|
            .f (.rel 64 [.obj (.at 65539 0 [true])] 65578 [.bool]) <|
             .br (.f (.is (.v 65578 0) true) <|
              .br (.f (.is (.nil 65581 0 []) false) <|
               .f (.rel 67 [.obj (.at 65539 0 [])] 65581 [.obj 0]) <|
                .ok [.obj (.at 65581 0 [])])
              (.f (.npre 67 [.obj (.at 65539 0 [])]) <|
               .bad))
             (.f (.is (.v 65578 0) false) <|
              .ok [.obj (.at 65539 0 [])]))
           (.f (.is (.v 65572 0) false) <|
            .ok [.obj (.at 65539 0 [])]))))
     (.f (.is (.v 65544 0) false) <|
      .f (.rel 64 [.obj (.at 65539 0 [false])] 65557 [.bool]) <|
       .br (.f (.is (.v 65557 0) true) <|
        .br (.f (.is (.nil 65539 0 [false]) false) <|
         .f (.rel 64 [.obj (.at 65539 0 [false, false])] 65566 [.bool]) <|
          .br (.f (.is (.v 65566 0) true) <|
           .br (.f (.rel 66 [.num (.n 0), .obj (.at 65539 0 [])] 65570 [.obj 0]) <|
            .br (.f (.is (.nil 65570 0 []) false) <|
             .f (.rel 64 [.obj (.at 65570 0 [false])] 65576 [.bool]) <|
              .br (.f (.is (.v 65576 0) true) <|
               .f (.rel 64 [.obj (.at 65570 0 [true])] 65582 [.bool]) <|
                .br (.f (.is (.v 65582 0) true) <|
                 .br (.f (.is (.nil 65585 0 []) false) <|
                  .f (.rel 67 [.obj (.at 65570 0 [])] 65585 [.obj 0]) <|
                   .ok [.obj (.at 65585 0 [])])
                 (.f (.npre 67 [.obj (.at 65570 0 [])]) <|
                  .bad))
                (.f (.is (.v 65582 0) false) <|
                 .ok [.obj (.at 65570 0 [])]))
              (.f (.is (.v 65576 0) false) <|
               .ok [.obj (.at 65570 0 [])]))
            (.f (.is (.nil 65570 0 []) true) <|
             .bad))
           (.f (.npre 66 [.num (.n 0), .obj (.at 65539 0 [])]) <|
            .bad))
          (.f (.is (.v 65566 0) false) <|
           .f (.rel 64 [.obj (.at 65539 0 [false])] 65572 [.bool]) <|
            .br (.f (.is (.v 65572 0) true) <|
             .f (.rel 64 [.obj (.at 65539 0 [true])] 65578 [.bool]) <|
              .br (.f (.is (.v 65578 0) true) <|
               .br (.f (.is (.nil 65581 0 []) false) <|
                .f (.rel 67 [.obj (.at 65539 0 [])] 65581 [.obj 0]) <|
                 .ok [.obj (.at 65581 0 [])])
               (.f (.npre 67 [.obj (.at 65539 0 [])]) <|
                .bad))
              (.f (.is (.v 65578 0) false) <|
               .ok [.obj (.at 65539 0 [])]))
            (.f (.is (.v 65572 0) false) <|
             .ok [.obj (.at 65539 0 [])])))
        (.f (.is (.nil 65539 0 [false]) true) <|
         .bad))
       (.f (.is (.v 65557 0) false) <|
        .f (.rel 64 [.obj (.at 65539 0 [false])] 65572 [.bool]) <|
         .br (.f (.is (.v 65572 0) true) <|
          .f (.rel 64 [.obj (.at 65539 0 [true])] 65578 [.bool]) <|
           .br (.f (.is (.v 65578 0) true) <|
            .br (.f (.is (.nil 65581 0 []) false) <|
             .f (.rel 67 [.obj (.at 65539 0 [])] 65581 [.obj 0]) <|
              .ok [.obj (.at 65581 0 [])])
            (.f (.npre 67 [.obj (.at 65539 0 [])]) <|
             .bad))
           (.f (.is (.v 65578 0) false) <|
            .ok [.obj (.at 65539 0 [])]))
         (.f (.is (.v 65572 0) false) <|
          .ok [.obj (.at 65539 0 [])]))))
   (.f (.is (.nil 65539 0 []) true) <|
    .bad))
  (.f (.npre 63 [.num (.n 0), .obj (.at 0 1 [])]) <|
   .bad)
theorem c51 : ConS Try.prog T C51 := con_tr (cs := [C63, C64, C65, C66, C67]) (lcs := []) (known := []) (cons_cons c63 (cons_cons c64 (cons_cons c65 (cons_cons c66 (cons_cons c67 (cons_nil _ _)))))) (Known.nil _) (N := 400) (d := 40) (t := t51) (by kernel_rfl) <| by
  intro E hl hp
  clear hl
  have hp := hp rfl
  simp only [C51, show T.pre 51 = Q51 from rfl, flatS, SP.flat, dvs, List.append_nil, List.cons_append, List.nil_append, Q51, U64, U32, I64, Big, W, wv, s64, WT, PR, MR, MB] at hp
  simp only [t51, C51, Tr.good, Fact.den, DE.den, Dat.sub, LX.den, DX.ls, DV.ls, DX.den, Bx.den, Ex.den, eo_add, eo_sub, eo_mul, eo_quo, eo_rem, eo_fdv, eo_mn, eo_mx, eo_land, eo_lor, eo_lxor, eo_landn, eo_shl, eo_shr, dvs, flatS, SP.flat, ST.flat, List.map_cons, List.map_nil, List.append_nil, List.cons_append, List.nil_append, ltb_t, ltb_f, leb_t, leb_f, eqb_t, eqb_f, decide_eq_true_eq, decide_eq_false_iff_not, Bool.not_eq_true', Bool.not_eq_false', Bool.and_eq_true, Bool.and_eq_false_imp, beq_iff_eq, beq_eq_false_iff_ne, bne_iff_ne, U64, U32, I64, Big, W, wv, Told, s64, WT, PR, MR, MB, Int.zero_mul, Int.zero_add, Int.add_zero, Int.mul_zero, IntKind.wrap_u64, IntKind.wrap_i64, IntKind.wrap_u32, ne_eq, forall_const, true_implies, show T.rel 51 = R51 from rfl, R51, show T.rel 63 = R63 from rfl, R63, show T.rel 64 = R64 from rfl, R64, show T.rel 65 = R65 from rfl, R65, show T.rel 66 = R66 from rfl, R66, show T.rel 67 = R67 from rfl, R67, show T.pre 51 = Q51 from rfl, Q51, show T.pre 63 = Q63 from rfl, Q63, show T.pre 65 = Q65 from rfl, Q65, show T.pre 66 = Q66 from rfl, Q66, show T.pre 67 = Q67 from rfl, Q67]
  revert hp
  generalize (E.r 0).t 1 = n
  generalize (E.r 65539).t 0 = x3_0
  generalize (E.r 65544).c 0 = x8_0
  generalize (E.r 65550).c 0 = x14_0
  generalize (E.r 65555).t 0 = x19_0
  generalize (E.r 65557).c 0 = x21_0
  generalize (E.r 65561).c 0 = x25_0
  generalize (E.r 65566).c 0 = x30_0
  generalize (E.r 65570).t 0 = x34_0
  generalize (E.r 65570).c 0 = x34_0c
  generalize (E.r 65572).c 0 = x36_0
  generalize (E.r 65574).t 0 = x38_0
  generalize (E.r 65576).c 0 = x40_0
  generalize (E.r 65578).c 0 = x42_0
  generalize (E.r 65580).c 0 = x44_0
  generalize (E.r 65581).t 0 = x45_0
  generalize (E.r 65582).c 0 = x46_0
  generalize (E.r 65585).t 0 = x49_0
  generalize (E.r 65586).c 0 = x50_0
  generalize (E.r 65589).t 0 = x53_0
  try simp only [mxI, mnI]
  try simp only [ltb, leb, eqb, Int.lt_irrefl, decide_false, Int.le_refl, decide_true]
  rintro ⟨h0, hK⟩
  simp only [lf, kL, kR] at *
  generalize sh n = t at *
  generalize sh x3_0 = s3 at *
  generalize sh x19_0 = s19 at *
  generalize sh x34_0 = s34 at *
  generalize sh x38_0 = s38 at *
  generalize sh x45_0 = s45 at *
  generalize sh x49_0 = s49 at *
  generalize sh x53_0 = s53 at *
  repeat' (first | assumption | (intro (h : _ ∧ _); obtain ⟨h1, h2⟩ := h; (first | (subst h1; revert h2) | revert h1 h2)) | (intro h; (first | subst h | skip)) | refine And.intro ?_ ?_)
  all_goals try (show False; refine absurd ?_ ‹¬ _›)
  all_goals repeat' (first | assumption | refine And.intro ?_ ?_)
  all_goals first
    | (simp [ItT.mend, ItT.mend1, ItT.mend2, ItT.mend3, *]; done)
    | (simp_all [ItT.isE_sum, ItT.isE_toLeft, ItT.isE_toRight, ItT.isE_flip, ItT.isE_red]; done)
    | exact ItT.K_sum hK
    | exact ItT.K_toLeft (ItT.K_sum hK)
    | skip
  trace_state
end Go.Proofs.Ytkepkjahbcddlaa.Fn
namespace Go.Proofs.Ytkepkjahbcddlaa.Fn
open Go Go.RowKit Go.Proofs.Ytkepkjahbcddlaa.Sy
set_option linter.unusedVariables false
set_option linter.unusedSimpArgs false
set_option maxRecDepth 100000
def t39 : Tr :=
  .br (.f (.is (.nil 0 1 []) true) <|
   .f (.rel 26 [.num (.v 0 2), .num (.v 0 3), .num (.v 0 4), .num (.v 0 5), .num (.v 0 6), .num (.v 0 7), .num (.v 0 8)] 65547 [.int .u64, .int .u32, .int .u32, .int .i64, .int .u64, .int .u32, .int .u32]) <|
    .ok [.obj (.nd 65549 [.v 0 2, .v 0 3, .v 0 4, .v 0 5, .v 0 6, .v 0 7, .v 0 8, .v 65547 0, .v 65547 1, .v 65547 2, .v 65547 3, .v 65547 4, .v 65547 5, .v 65547 6] [.le (.n 0) (.n 0)] (.nil) (.nil))])
  (.f (.is (.nil 0 1 []) false) <|
   .br (.f (.rel 10 [.num (.v 0 2), .num (.v 0 3), .num (.v 0 4), .num (.v 0 5), .num (.v 0 6), .num (.v 0 7), .num (.v 0 8), .num (.fld 0 1 [] 0), .num (.fld 0 1 [] 1), .num (.fld 0 1 [] 2), .num (.fld 0 1 [] 3), .num (.fld 0 1 [] 4), .num (.fld 0 1 [] 5), .num (.fld 0 1 [] 6)] 65550 [.bool]) <|
    .br (.f (.is (.v 65550 0) true) <|
     .br (.f (.rel 39 [.num (.n 0), .obj (.at 0 1 [false]), .num (.v 0 2), .num (.v 0 3), .num (.v 0 4), .num (.v 0 5), .num (.v 0 6), .num (.v 0 7), .num (.v 0 8)] 65559 [.obj 0]) <|
      .br (.f (.rel 51 [.num (.n 0), .obj (.nd 18939927 [.fld 0 1 [] 0, .fld 0 1 [] 1, .fld 0 1 [] 2, .fld 0 1 [] 3, .fld 0 1 [] 4, .fld 0 1 [] 5, .fld 0 1 [] 6, .fld 0 1 [] 7, .fld 0 1 [] 8, .fld 0 1 [] 9, .fld 0 1 [] 10, .fld 0 1 [] 11, .fld 0 1 [] 12, .fld 0 1 [] 13] [.fld 0 1 [] 0] (.at 65559 0 []) (.at 0 1 [true]))] 65565 [.obj 0]) <|
       .ok [.obj (.at 65565 0 [])])
      (.f (.npre 51 [.num (.n 0), .obj (.nd 18939927 [.fld 0 1 [] 0, .fld 0 1 [] 1, .fld 0 1 [] 2, .fld 0 1 [] 3, .fld 0 1 [] 4, .fld 0 1 [] 5, .fld 0 1 [] 6, .fld 0 1 [] 7, .fld 0 1 [] 8, .fld 0 1 [] 9, .fld 0 1 [] 10, .fld 0 1 [] 11, .fld 0 1 [] 12, .fld 0 1 [] 13] [.fld 0 1 [] 0] (.at 65559 0 []) (.at 0 1 [true]))]) <|
       .bad))
     (.f (.npre 39 [.num (.n 0), .obj (.at 0 1 [false]), .num (.v 0 2), .num (.v 0 3), .num (.v 0 4), .num (.v 0 5), .num (.v 0 6), .num (.v 0 7), .num (.v 0 8)]) <|
      .bad))
    (.f (.is (.v 65550 0) false) <|
     .br (.f (.rel 39 [.num (.n 0), .obj (.at 0 1 [true]), .num (.v 0 2), .num (.v 0 3), .num (.v 0 4), .num (.v 0 5), .num (.v 0 6), .num (.v 0 7), .num (.v 0 8)] 65559 [.obj 0]) <|
      .br (.f (.rel 51 [.num (.n 0), .obj (.nd 18939927 [.fld 0 1 [] 0, .fld 0 1 [] 1, .fld 0 1 [] 2, .fld 0 1 [] 3, .fld 0 1 [] 4, .fld 0 1 [] 5, .fld 0 1 [] 6, .fld 0 1 [] 7, .fld 0 1 [] 8, .fld 0 1 [] 9, .fld 0 1 [] 10, .fld 0 1 [] 11, .fld 0 1 [] 12, .fld 0 1 [] 13] [.fld 0 1 [] 0] (.at 0 1 [false]) (.at 65559 0 []))] 65565 [.obj 0]) <|
       .ok [.obj (.at 65565 0 [])])
      (.f (.npre 51 [.num (.n 0), .obj (.nd 18939927 [.fld 0 1 [] 0, .fld 0 1 [] 1, .fld 0 1 [] 2, .fld 0 1 [] 3, .fld 0 1 [] 4, .fld 0 1 [] 5, .fld 0 1 [] 6, .fld 0 1 [] 7, .fld 0 1 [] 8, .fld 0 1 [] 9, .fld 0 1 [] 10, .fld 0 1 [] 11, .fld 0 1 [] 12, .fld 0 1 [] 13] [.fld 0 1 [] 0] (.at 0 1 [false]) (.at 65559 0 []))]) <|
       .bad))
     (.f (.npre 39 [.num (.n 0), .obj (.at 0 1 [true]), .num (.v 0 2), .num (.v 0 3), .num (.v 0 4), .num (.v 0 5), .num (.v 0 6), .num (.v 0 7), .num (.v 0 8)]) <|
      .bad)))
   (.f (.npre 10 [.num (.v 0 2), .num (.v 0 3), .num (.v 0 4), .num (.v 0 5), .num (.v 0 6), .num (.v 0 7), .num (.v 0 8), .num (.fld 0 1 [] 0), .num (.fld 0 1 [] 1), .num (.fld 0 1 [] 2), .num (.fld 0 1 [] 3), .num (.fld 0 1 [] 4), .num (.fld 0 1 [] 5), .num (.fld 0 1 [] 6)]) <|
    .bad))
theorem c39 : ConS Try.prog T C39 := con_rec S39 rfl fun n_ ih => con_trR (cs := [C39, C10, C26, C51]) (lcs := []) (known := []) (cons_cons ih (cons_cons (below_ne c10 (by decide)) (cons_cons (below_ne c26 (by decide)) (cons_cons (below_ne c51 (by decide)) (cons_nil _ _))))) (Known.nil _) (N := 400) (d := 40) (t := t39) (by kernel_rfl) <| by
  intro E hl hp
  clear hl
  have hp := hp rfl
  simp only [C39, show T.pre 39 = Q39 from rfl, flatS, SP.flat, dvs, List.append_nil, List.cons_append, List.nil_append, Q39, U64, U32, I64, Big, W, wv, s64, WT, PR, MR, MB, S39] at hp
  simp only [t39, C39, Tr.good, Fact.den, DE.den, Dat.sub, LX.den, DX.ls, DV.ls, DX.den, Bx.den, Ex.den, eo_add, eo_sub, eo_mul, eo_quo, eo_rem, eo_fdv, eo_mn, eo_mx, eo_land, eo_lor, eo_lxor, eo_landn, eo_shl, eo_shr, dvs, flatS, SP.flat, ST.flat, List.map_cons, List.map_nil, List.append_nil, List.cons_append, List.nil_append, ltb_t, ltb_f, leb_t, leb_f, eqb_t, eqb_f, decide_eq_true_eq, decide_eq_false_iff_not, Bool.not_eq_true', Bool.not_eq_false', Bool.and_eq_true, Bool.and_eq_false_imp, beq_iff_eq, beq_eq_false_iff_ne, bne_iff_ne, U64, U32, I64, Big, W, wv, Told, s64, WT, PR, MR, MB, Int.zero_mul, Int.zero_add, Int.add_zero, Int.mul_zero, IntKind.wrap_u64, IntKind.wrap_i64, IntKind.wrap_u32, ne_eq, forall_const, true_implies, show T.rel 10 = R10 from rfl, R10, show T.rel 26 = R26 from rfl, R26, show T.rel 39 = R39 from rfl, R39, show T.rel 51 = R51 from rfl, R51, below_rel, below_mu, below_pre, S39, ↓reduceIte, Nat.reduceEqDiff, show T.pre 10 = Q10 from rfl, Q10, show T.pre 39 = Q39 from rfl, Q39, show T.pre 51 = Q51 from rfl, Q51]
  revert hp
  generalize (E.r 0).t 1 = n
  generalize (E.r 0).i 2 = x0
  generalize (E.r 0).i 3 = x1
  generalize (E.r 0).i 4 = x2
  generalize (E.r 0).i 5 = x3
  generalize (E.r 0).i 6 = x4
  generalize (E.r 0).i 7 = x5
  generalize (E.r 0).i 8 = x6
  generalize (E.r 65547).i 0 = x11_0
  generalize (E.r 65547).i 1 = x11_1
  generalize (E.r 65547).i 2 = x11_2
  generalize (E.r 65547).i 3 = x11_3
  generalize (E.r 65547).i 4 = x11_4
  generalize (E.r 65547).i 5 = x11_5
  generalize (E.r 65547).i 6 = x11_6
  generalize (E.r 65550).c 0 = x14_0
  generalize (E.r 65559).t 0 = x23_0
  generalize (E.r 65565).t 0 = x29_0
  try simp only [mxI, mnI]
  try simp only [ltb, leb, eqb, Int.lt_irrefl, decide_false, Int.le_refl, decide_true]
  rintro ⟨hs, hK, hx⟩
  have hs : (sh n).size < n_ + 1 := hs
  refine ⟨fun h0 e => ?_, fun h0 => ?_⟩
  · obtain ⟨rfl, rfl, rfl, rfl, rfl, rfl, rfl⟩ := e
    rw [sh_leaf h0]; rfl
  simp only [sh_mk, leaf_mk]
  simp only [it7_of, al7_of]
  rw [sh_nd h0] at hs hK ⊢
  obtain ⟨k1, k2, k3, k4⟩ := hK
  have hs : (sh (n.kid false)).size + (sh (n.kid true)).size + 1 < n_ + 1 := hs
  refine ⟨fun e => ⟨fun c => ⟨fun e1 => ⟨fun e2 => ?_, fun n => n ⟨trivial, ?_⟩⟩, fun n => n ⟨by omega, k3, hx⟩⟩, fun c => ⟨fun e1 => ⟨fun e2 => ?_, fun n => n ⟨trivial, ?_⟩⟩, fun n => n ⟨by omega, k4, hx⟩⟩⟩, fun n => n ?_⟩
  · rw [e2, e1, ItT.ins, if_pos (AHR_it.2 (e.1 c))]
  · rw [e1]; exact ⟨k1, k2, ItT.K_ins hx k3, k4⟩
  · rw [e2, e1, ItT.ins, if_neg (fun h => by rw [e.2 (AHR_it.1 h)] at c; cases c)]
  · rw [e1]; exact ⟨k1, k2, k3, ItT.K_ins hx k4⟩
  · obtain ⟨_, a1, a2, _⟩ := K7_mk.1 hx
    obtain ⟨_, b1, b2, _⟩ := K7_it.1 k1
    exact ⟨a1, a2, b1, b2⟩
end Go.Proofs.Ytkepkjahbcddlaa.Fn
namespace Go.Proofs.Ytkepkjahbcddlaa.Fn
open Go Go.RowKit Go.Proofs.Ytkepkjahbcddlaa.Sy
set_option linter.unusedVariables false
set_option linter.unusedSimpArgs false
set_option maxRecDepth 100000
def t28 : Tr :=
  .br (.f (.is (.nil 0 0 []) true) <|
   .ok [.tru (.lt (.n 0) (.n 0)), .obj (.at 0 0 [])])
  (.f (.is (.nil 0 0 []) false) <|
   .br (.f (.rel 38 [.obj (.at 0 0 []), .num (.v 0 1), .num (.v 0 2), .num (.v 0 3), .num (.v 0 4), .num (.v 0 5), .num (.v 0 6), .num (.v 0 7)] 65543 [.bool]) <|
    .br (.f (.is (.v 65543 0) true) <|
     .ok [.tru (.lt (.n 0) (.n 0)), .obj (.at 0 0 [])])
    (.f (.is (.v 65543 0) false) <|
     .br (.f (.rel 39 [.num (.n 0), .obj (.at 0 0 [false]), .num (.v 0 1), .num (.v 0 2), .num (.v 0 3), .num (.v 0 4), .num (.v 0 5), .num (.v 0 6), .num (.v 0 7)] 65552 [.obj 0]) <|
      .br (.f (.is (.nil 65552 0 []) false) <|
       .ok [.tru (.le (.n 0) (.n 0)), .obj (.nd 18939920 [.wrap .i64 (.bin .add (.fld 0 0 [] 0) (.n 1))] [] (.nd 16842778 [.fld 65552 0 [] 0, .fld 65552 0 [] 1, .fld 65552 0 [] 2, .fld 65552 0 [] 3, .fld 65552 0 [] 4, .fld 65552 0 [] 5, .fld 65552 0 [] 6, .fld 65552 0 [] 7, .fld 65552 0 [] 8, .fld 65552 0 [] 9, .fld 65552 0 [] 10, .fld 65552 0 [] 11, .fld 65552 0 [] 12, .fld 65552 0 [] 13] [.lt (.n 0) (.n 0)] (.at 65552 0 [false]) (.at 65552 0 [true])) (.nil))])
      (.f (.is (.nil 65552 0 []) true) <|
       .bad))
     (.f (.npre 39 [.num (.n 0), .obj (.at 0 0 [false]), .num (.v 0 1), .num (.v 0 2), .num (.v 0 3), .num (.v 0 4), .num (.v 0 5), .num (.v 0 6), .num (.v 0 7)]) <|
      .bad)))
   (.f (.npre 38 [.obj (.at 0 0 []), .num (.v 0 1), .num (.v 0 2), .num (.v 0 3), .num (.v 0 4), .num (.v 0 5), .num (.v 0 6), .num (.v 0 7)]) <|
    .bad))
theorem c28 : ConS Try.prog T C28 := con_tr (cs := [C38, C39]) (lcs := []) (known := []) (cons_cons c38 (cons_cons c39 (cons_nil _ _))) (Known.nil _) (N := 400) (d := 40) (t := t28) (by kernel_rfl) <| by
  intro E hl hp
  clear hl
  have hp := hp rfl
  simp only [C28, show T.pre 28 = Q28 from rfl, flatS, SP.flat, dvs, List.append_nil, List.cons_append, List.nil_append, Q28, U64, U32, I64, Big, W, wv, s64, WT, PR, MR, MB] at hp
  simp only [t28, C28, Tr.good, Fact.den, DE.den, Dat.sub, LX.den, DX.ls, DV.ls, DX.den, Bx.den, Ex.den, eo_add, eo_sub, eo_mul, eo_quo, eo_rem, eo_fdv, eo_mn, eo_mx, eo_land, eo_lor, eo_lxor, eo_landn, eo_shl, eo_shr, dvs, flatS, SP.flat, ST.flat, List.map_cons, List.map_nil, List.append_nil, List.cons_append, List.nil_append, ltb_t, ltb_f, leb_t, leb_f, eqb_t, eqb_f, decide_eq_true_eq, decide_eq_false_iff_not, Bool.not_eq_true', Bool.not_eq_false', Bool.and_eq_true, Bool.and_eq_false_imp, beq_iff_eq, beq_eq_false_iff_ne, bne_iff_ne, U64, U32, I64, Big, W, wv, Told, s64, WT, PR, MR, MB, Int.zero_mul, Int.zero_add, Int.add_zero, Int.mul_zero, IntKind.wrap_u64, IntKind.wrap_i64, IntKind.wrap_u32, ne_eq, forall_const, true_implies, show T.rel 28 = R28 from rfl, R28, show T.rel 38 = R38 from rfl, R38, show T.rel 39 = R39 from rfl, R39, show T.pre 28 = Q28 from rfl, Q28, show T.pre 38 = Q38 from rfl, Q38, show T.pre 39 = Q39 from rfl, Q39]
  revert hp
  generalize (E.r 0).t 0 = t
  generalize (E.r 0).i 1 = x0
  generalize (E.r 0).i 2 = x1
  generalize (E.r 0).i 3 = x2
  generalize (E.r 0).i 4 = x3
  generalize (E.r 0).i 5 = x4
  generalize (E.r 0).i 6 = x5
  generalize (E.r 0).i 7 = x6
  generalize (E.r 65543).c 0 = x7_0
  generalize (E.r 65552).t 0 = x16_0
  try simp only [mxI, mnI]
  try simp only [ltb, leb, eqb, Int.lt_irrefl, decide_false, Int.le_refl, decide_true]
  rintro ⟨⟨h0, hK, hn⟩, hb, hx⟩
  refine ⟨fun h => (by rw [h0] at h; cases h), fun _ => ⟨fun q => ⟨fun c => ?_, fun c => ⟨fun e => ⟨fun l => ?_, fun l => ?_⟩, fun n => n ⟨hK, hx⟩⟩⟩, fun n => n ⟨hK, hx⟩⟩⟩
  · rw [c] at q
    rw [← q]
    exact ⟨rfl, ⟨h0, hK, hn⟩, by rw [ItT.put, if_pos q.symm]⟩
  · rw [c] at q
    have hp : ItT.put [x0, x1, x2, x3, x4, x5, x6] (sh (t.kid false)) = (ItT.ins [x0, x1, x2, x3, x4, x5, x6] (sh (t.kid false))).black := by rw [ItT.put, if_neg (by rw [← q]; simp)]
    rw [hp, ← q]
    have es : (ItT.ins [x0, x1, x2, x3, x4, x5, x6] (sh (t.kid false))).black = ItT.N (it7 x16_0) (al7 x16_0) false (sh (x16_0.kid false)) (sh (x16_0.kid true)) := by rw [← e, sh_nd l]; rfl
    have ev : (Dat.num 0 t + 1 + 9223372036854775808) % 18446744073709551616 - 9223372036854775808 = Dat.num 0 t + 1 := by omega
    refine ⟨rfl, ⟨rfl, ?_, ?_⟩, ?_⟩
    · show ItT.K (.N (it7 x16_0) (al7 x16_0) false (sh (x16_0.kid false)) (sh (x16_0.kid true)))
      rw [← es]; exact ItT.K_black (ItT.K_ins hx hK)
    · show (Dat.num 0 t + 1 + 9223372036854775808) % 18446744073709551616 - 9223372036854775808 = ((ItT.N (it7 x16_0) (al7 x16_0) false (sh (x16_0.kid false)) (sh (x16_0.kid true))).size : Int)
      rw [← es, ItT.size_black, ItT.size_ins, ev, hn]; rfl
    · rw [es]; rfl
  · rw [lf, e, ItT.isE_ins] at l; cases l
end Go.Proofs.Ytkepkjahbcddlaa.Fn
namespace Go.Proofs.Ytkepkjahbcddlaa.Fn
open Go Go.RowKit Go.Proofs.Ytkepkjahbcddlaa.Sy
set_option linter.unusedVariables false
set_option linter.unusedSimpArgs false
set_option maxRecDepth 100000
def t7 : Tr :=
  .f (.rel 25 [.num (.n 0), .num (.n 0), .num (.n 0)] 65537 [.obj 1]) <|
   .br (.f (.rel 100703 [.lst 0 0, .obj (.at 65537 0 []), .num (.n 0)] 65544 [.obj 1, .int .i64]) <|
    .br (.f (.is (.lt (.v 65544 1) (.len 0 0)) false) <|
     .ok [.obj (.at 65544 0 [])])
    (.f (.is (.lt (.v 65544 1) (.len 0 0)) true) <|
     .br (.f (.is (.lt (.v 65544 1) (.n 0)) true) <|
      .bad)
     (.f (.is (.lt (.v 65544 1) (.n 0)) false) <|
      .br (.f (.npre 28 [.obj (.at 65544 0 []), .num (.at 0 0 (.v 65544 1) 0), .num (.at 0 0 (.v 65544 1) 1), .num (.at 0 0 (.v 65544 1) 2), .num (.at 0 0 (.v 65544 1) 3), .num (.at 0 0 (.v 65544 1) 4), .num (.at 0 0 (.v 65544 1) 5), .num (.at 0 0 (.v 65544 1) 6)]) <|
       .bad)
      (.f (.rel 28 [.obj (.at 65544 0 []), .num (.at 0 0 (.v 65544 1) 0), .num (.at 0 0 (.v 65544 1) 1), .num (.at 0 0 (.v 65544 1) 2), .num (.at 0 0 (.v 65544 1) 3), .num (.at 0 0 (.v 65544 1) 4), .num (.at 0 0 (.v 65544 1) 5), .num (.at 0 0 (.v 65544 1) 6)] 65553 [.bool, .obj 1]) <|
       .br (.f (.nrel 100703 [.lst 0 0, .obj (.at 65537 0 []), .num (.n 0)] [.obj (.at 65553 1 []), .num (.wrap .i64 (.bin .add (.v 65544 1) (.n 1)))]) <|
        .bad)
       (.f (.ndec 100703 [.lst 0 0, .obj (.at 65537 0 []), .num (.n 0)] [.obj (.at 65544 0 []), .num (.v 65544 1)] [.obj (.at 65553 1 []), .num (.wrap .i64 (.bin .add (.v 65544 1) (.n 1)))]) <|
        .bad)))))
   (.f (.nrel 100703 [.lst 0 0, .obj (.at 65537 0 []), .num (.n 0)] [.obj (.at 65537 0 []), .num (.n 0)]) <|
    .bad)
theorem c7 : ConS Try.prog T C7 := con_tr (cs := [C25, C28]) (lcs := [L100703]) (known := []) (cons_cons c25 (cons_cons c28 (cons_nil _ _))) (Known.nil _) (N := 400) (d := 40) (t := t7) (by kernel_rfl) <| by
  intro E hl hp
  have hl0 := hl 0 _ rfl
  clear hl
  have hp := hp rfl
  simp only [C7, show T.pre 7 = Q7 from rfl, flatS, SP.flat, dvs, List.append_nil, List.cons_append, List.nil_append, Q7, U64, U32, I64, Big, W, wv, s64, WT, PR, MR, MB] at hp
  simp only [t7, C7, Tr.good, Fact.den, DE.den, Dat.sub, LX.den, DX.ls, DV.ls, DX.den, Bx.den, Ex.den, eo_add, eo_sub, eo_mul, eo_quo, eo_rem, eo_fdv, eo_mn, eo_mx, eo_land, eo_lor, eo_lxor, eo_landn, eo_shl, eo_shr, dvs, flatS, SP.flat, ST.flat, List.map_cons, List.map_nil, List.append_nil, List.cons_append, List.nil_append, ltb_t, ltb_f, leb_t, leb_f, eqb_t, eqb_f, decide_eq_true_eq, decide_eq_false_iff_not, Bool.not_eq_true', Bool.not_eq_false', Bool.and_eq_true, Bool.and_eq_false_imp, beq_iff_eq, beq_eq_false_iff_ne, bne_iff_ne, U64, U32, I64, Big, W, wv, Told, s64, WT, PR, MR, MB, Int.zero_mul, Int.zero_add, Int.add_zero, Int.mul_zero, IntKind.wrap_u64, IntKind.wrap_i64, IntKind.wrap_u32, ne_eq, forall_const, true_implies, show T.rel 7 = R7 from rfl, R7, show T.rel 25 = R25 from rfl, R25, show T.rel 28 = R28 from rfl, R28, show T.rel 100703 = R100703 from rfl, R100703, show T.mu 100703 = M100703 from rfl, M100703, show T.pre 7 = Q7 from rfl, Q7, show T.pre 28 = Q28 from rfl, Q28]
  revert hp hl0
  generalize (E.r 0).l 0 = xs
  generalize (E.r 65537).t 0 = x1_0
  generalize (E.r 65544).t 0 = x8_0
  generalize (E.r 65544).i 1 = x8_1
  generalize (E.r 65553).c 0 = x17_0
  generalize (E.r 65553).t 1 = x17_1
  try simp only [mxI, mnI]
  try simp only [ltb, leb, eqb, Int.lt_irrefl, decide_false, Int.le_refl, decide_true]
  rintro ⟨hw, hm⟩ ⟨hr, hl⟩ ⟨b1, b2, b3⟩
  have t0 : TI x1_0 := ⟨b1, by rw [b3]; trivial, by rw [b2, b3]; rfl⟩
  refine ⟨fun ⟨j0, j1, tj, e⟩ => ⟨fun c => ⟨tj, ?_⟩, fun c => ⟨fun h => by omega, fun _ => ⟨fun n => n ⟨tj, ?_, ?_⟩, fun ⟨_, tk, e2⟩ => ⟨fun n => n ⟨by omega, by omega, tk, ?_⟩, fun n => n (by omega)⟩⟩⟩⟩, fun n => n ⟨trivial, by omega, t0, by rw [b3]; rfl⟩⟩
  · rw [e, List.take_of_length_le (by omega)]
  · obtain ⟨_, _, q⟩ := tj
    have := size_putL (List.take x8_1.toNat xs) ItT.E
    rw [← e, List.length_take] at this
    have z : ItT.size .E = 0 := rfl
    omega
  · obtain ⟨k, rfl⟩ := Int.eq_ofNat_of_zero_le j0
    exact K7_row hr k
  · have ew : (x8_1 + 1 + 9223372036854775808) % 18446744073709551616 - 9223372036854775808 = ((x8_1.toNat + 1 : Nat) : Int) := by omega
    have hj : x8_1.toNat < xs.length := by omega
    have ez : ((x8_1.toNat : Nat) : Int) = x8_1 := by omega
    rw [ew, Int.toNat_natCast, List.take_succ_eq_append_getElem hj, putL_snoc, e2, e]
    have h7 := rw7_eq (L := xs) (k := x8_1.toNat) hj (by rw [List.getD_eq_getElem?_getD, List.getElem?_eq_getElem hj, Option.getD_some]; exact hw _ (List.getElem_mem hj))
    simp only [rw7, ez] at h7
    rw [h7, List.getD_eq_getElem?_getD, List.getElem?_eq_getElem hj, Option.getD_some]
end Go.Proofs.Ytkepkjahbcddlaa.Fn
namespace Go.Proofs.Ytkepkjahbcddlaa.Fn
open Go Go.RowKit Go.Proofs.Ytkepkjahbcddlaa.Sy
set_option linter.unusedVariables false
set_option linter.unusedSimpArgs false
set_option maxRecDepth 100000
def t31 : Tr :=
  .br (.f (.is (.nil 0 0 []) true) <|
   .ok [.lst 0 1])
  (.f (.is (.nil 0 0 []) false) <|
   .br (.f (.rel 31 [.obj (.at 0 0 [false]), .lst 0 1] 65548 [.own [.int .u64, .int .u32, .int .u32, .int .i64, .int .u64, .int .u32, .int .u32] 29]) <|
    .br (.f (.is (.le (.len 65548 0) (.n 1000000000)) true) <|
     .f (.lseq 65554 (.app (.lst 65548 0) (.rows [[.fld 0 0 [] 0, .fld 0 0 [] 1, .fld 0 0 [] 2, .fld 0 0 [] 3, .fld 0 0 [] 4, .fld 0 0 [] 5, .fld 0 0 [] 6]]))) <|
      .br (.f (.rel 31 [.obj (.at 0 0 [true]), .lst 65554 0] 65555 [.own [.int .u64, .int .u32, .int .u32, .int .i64, .int .u64, .int .u32, .int .u32] 29]) <|
       .ok [.lst 65555 0])
      (.f (.npre 31 [.obj (.at 0 0 [true]), .lst 65554 0]) <|
       .bad))
    (.f (.is (.le (.len 65548 0) (.n 1000000000)) false) <|
     .bad))
   (.f (.npre 31 [.obj (.at 0 0 [false]), .lst 0 1]) <|
    .bad))
theorem c31 : ConS Try.prog T C31 := con_rec S31 rfl fun n_ ih => con_trR (cs := [C31]) (lcs := []) (known := []) (cons_cons ih (cons_nil _ _)) (Known.nil _) (N := 400) (d := 40) (t := t31) (by kernel_rfl) <| by
  intro E hl hp
  clear hl
  have hp := hp rfl
  simp only [C31, show T.pre 31 = Q31 from rfl, flatS, SP.flat, dvs, List.append_nil, List.cons_append, List.nil_append, Q31, U64, U32, I64, Big, W, wv, s64, WT, PR, MR, MB, S31] at hp
  simp only [t31, C31, Tr.good, Fact.den, DE.den, Dat.sub, LX.den, DX.ls, DV.ls, DX.den, Bx.den, Ex.den, eo_add, eo_sub, eo_mul, eo_quo, eo_rem, eo_fdv, eo_mn, eo_mx, eo_land, eo_lor, eo_lxor, eo_landn, eo_shl, eo_shr, dvs, flatS, SP.flat, ST.flat, List.map_cons, List.map_nil, List.append_nil, List.cons_append, List.nil_append, ltb_t, ltb_f, leb_t, leb_f, eqb_t, eqb_f, decide_eq_true_eq, decide_eq_false_iff_not, Bool.not_eq_true', Bool.not_eq_false', Bool.and_eq_true, Bool.and_eq_false_imp, beq_iff_eq, beq_eq_false_iff_ne, bne_iff_ne, U64, U32, I64, Big, W, wv, Told, s64, WT, PR, MR, MB, Int.zero_mul, Int.zero_add, Int.add_zero, Int.mul_zero, IntKind.wrap_u64, IntKind.wrap_i64, IntKind.wrap_u32, ne_eq, forall_const, true_implies, show T.rel 31 = R31 from rfl, R31, below_rel, below_mu, below_pre, S31, ↓reduceIte, Nat.reduceEqDiff, show T.pre 31 = Q31 from rfl, Q31]
  revert hp
  generalize (E.r 0).t 0 = n
  generalize (E.r 0).l 1 = l
  generalize (E.r 65548).l 0 = x12_0
  generalize (E.r 65554).l 0 = x18_0
  generalize (E.r 65555).l 0 = x19_0
  try simp only [mxI, mnI]
  try simp only [ltb, leb, eqb, Int.lt_irrefl, decide_false, Int.le_refl, decide_true]
  rintro ⟨hs, hl⟩
  refine ⟨fun h => by rw [sh_leaf h]; simp [ItT.ord], fun h => ?_⟩
  rw [sh_nd h] at hs hl ⊢
  simp only [ItT.size, ItT.ord] at hs hl ⊢
  have ol := ItT.ord_size (sh (n.kid false))
  refine ⟨fun e => ?_, fun n => n ⟨by omega, by omega⟩⟩
  have hx : x12_0.length = l.length + (sh (n.kid false)).size := by rw [e, List.length_append, ol]
  refine ⟨fun _ e2 => ⟨fun e3 => ?_, fun n => n ⟨by omega, ?_⟩⟩, fun h => by omega⟩
  · rw [e3, e2, e]; simp [it7]
  · rw [e2, List.length_append, hx]; simp only [List.length_singleton]; omega
end Go.Proofs.Ytkepkjahbcddlaa.Fn
namespace Go.Proofs.Ytkepkjahbcddlaa.Fn
open Go Go.RowKit Go.Proofs.Ytkepkjahbcddlaa.Sy
set_option linter.unusedVariables false
set_option linter.unusedSimpArgs false
set_option maxRecDepth 100000
def t11 : Tr :=
  .br (.f (.is (.nil 0 0 []) true) <|
   .ok [.rows []])
  (.f (.is (.nil 0 0 []) false) <|
   .br (.f (.rel 31 [.obj (.at 0 0 [false]), .rows []] 65543 [.own [.int .u64, .int .u32, .int .u32, .int .i64, .int .u64, .int .u32, .int .u32] 29]) <|
    .ok [.lst 65543 0])
   (.f (.npre 31 [.obj (.at 0 0 [false]), .rows []]) <|
    .bad))
theorem c11 : ConS Try.prog T C11 := con_tr (cs := [C31]) (lcs := []) (known := []) (cons_cons c31 (cons_nil _ _)) (Known.nil _) (N := 400) (d := 40) (t := t11) (by kernel_rfl) <| by
  intro E hl hp
  clear hl
  have hp := hp rfl
  simp only [C11, show T.pre 11 = Q11 from rfl, flatS, SP.flat, dvs, List.append_nil, List.cons_append, List.nil_append, Q11, U64, U32, I64, Big, W, wv, s64, WT, PR, MR, MB] at hp
  simp only [t11, C11, Tr.good, Fact.den, DE.den, Dat.sub, LX.den, DX.ls, DV.ls, DX.den, Bx.den, Ex.den, eo_add, eo_sub, eo_mul, eo_quo, eo_rem, eo_fdv, eo_mn, eo_mx, eo_land, eo_lor, eo_lxor, eo_landn, eo_shl, eo_shr, dvs, flatS, SP.flat, ST.flat, List.map_cons, List.map_nil, List.append_nil, List.cons_append, List.nil_append, ltb_t, ltb_f, leb_t, leb_f, eqb_t, eqb_f, decide_eq_true_eq, decide_eq_false_iff_not, Bool.not_eq_true', Bool.not_eq_false', Bool.and_eq_true, Bool.and_eq_false_imp, beq_iff_eq, beq_eq_false_iff_ne, bne_iff_ne, U64, U32, I64, Big, W, wv, Told, s64, WT, PR, MR, MB, Int.zero_mul, Int.zero_add, Int.add_zero, Int.mul_zero, IntKind.wrap_u64, IntKind.wrap_i64, IntKind.wrap_u32, ne_eq, forall_const, true_implies, show T.rel 11 = R11 from rfl, R11, show T.rel 31 = R31 from rfl, R31, show T.pre 11 = Q11 from rfl, Q11, show T.pre 31 = Q31 from rfl, Q31]
  revert hp
  generalize (E.r 0).t 0 = t
  generalize (E.r 65543).l 0 = x7_0
  try simp only [mxI, mnI]
  try simp only [ltb, leb, eqb, Int.lt_irrefl, decide_false, Int.le_refl, decide_true]
  intro hs
  refine ⟨fun h => ?_, fun _ => ⟨fun e => e, fun n => n (by simpa using hs)⟩⟩
  cases t with
  | leaf => rfl
  | nd b ns bs l r => cases h
end Go.Proofs.Ytkepkjahbcddlaa.Fn
namespace Go.Proofs.Ytkepkjahbcddlaa.Fn
open Go Go.RowKit Go.Proofs.Ytkepkjahbcddlaa.Sy
set_option linter.unusedVariables false
set_option linter.unusedSimpArgs false
set_option maxRecDepth 100000
def t33 : Tr :=
  .ok [.num (.wrap .u64 (.bin .add (.v 0 0) (.v 0 3))), .num (.v 0 1), .num (.v 0 2)]
theorem c33 : ConS Try.prog T C33 := con_tr (cs := []) (lcs := []) (known := []) (cons_nil _ _) (Known.nil _) (N := 400) (d := 40) (t := t33) (by kernel_rfl) <| by
  intro E hl hp
  clear hl
  clear hp
  simp only [t33, C33, Tr.good, Fact.den, DE.den, Dat.sub, LX.den, DX.ls, DV.ls, DX.den, Bx.den, Ex.den, eo_add, eo_sub, eo_mul, eo_quo, eo_rem, eo_fdv, eo_mn, eo_mx, eo_land, eo_lor, eo_lxor, eo_landn, eo_shl, eo_shr, dvs, flatS, SP.flat, ST.flat, List.map_cons, List.map_nil, List.append_nil, List.cons_append, List.nil_append, ltb_t, ltb_f, leb_t, leb_f, eqb_t, eqb_f, decide_eq_true_eq, decide_eq_false_iff_not, Bool.not_eq_true', Bool.not_eq_false', Bool.and_eq_true, Bool.and_eq_false_imp, beq_iff_eq, beq_eq_false_iff_ne, bne_iff_ne, U64, U32, I64, Big, W, wv, Told, s64, WT, PR, MR, MB, Int.zero_mul, Int.zero_add, Int.add_zero, Int.mul_zero, IntKind.wrap_u64, IntKind.wrap_i64, IntKind.wrap_u32, ne_eq, forall_const, true_implies, show T.rel 33 = R33 from rfl, R33]
  generalize (E.r 0).i 0 = t
  generalize (E.r 0).i 1 = r
  generalize (E.r 0).i 2 = w
  generalize (E.r 0).i 3 = by_
  try simp only [mxI, mnI]
  try simp only [ltb, leb, eqb, Int.lt_irrefl, decide_false, Int.le_refl, decide_true]
  repeat' (first | intro _ | refine And.intro ?_ ?_ | refine Iff.intro ?_ ?_)
  all_goals first | omega | (simp_all; done) | (simp_all; omega)
end Go.Proofs.Ytkepkjahbcddlaa.Fn
namespace Go.Proofs.Ytkepkjahbcddlaa.Fn
open Go Go.RowKit Go.Proofs.Ytkepkjahbcddlaa.Sy
set_option linter.unusedVariables false
set_option linter.unusedSimpArgs false
set_option maxRecDepth 100000
def t17 : Tr :=
  .f (.rel 33 [.num (.v 0 0), .num (.v 0 1), .num (.v 0 2), .num (.v 0 7)] 65541 [.int .u64, .int .u32, .int .u32]) <|
   .f (.rel 33 [.num (.v 0 4), .num (.v 0 5), .num (.v 0 6), .num (.v 0 7)] 65545 [.int .u64, .int .u32, .int .u32]) <|
    .ok [.num (.v 65541 0), .num (.v 65541 1), .num (.v 65541 2), .num (.v 0 3), .num (.v 65545 0), .num (.v 65545 1), .num (.v 65545 2)]
theorem c17 : ConS Try.prog T C17 := con_tr (cs := [C33]) (lcs := []) (known := []) (cons_cons c33 (cons_nil _ _)) (Known.nil _) (N := 400) (d := 40) (t := t17) (by kernel_rfl) <| by
  intro E hl hp
  clear hl
  clear hp
  simp only [t17, C17, Tr.good, Fact.den, DE.den, Dat.sub, LX.den, DX.ls, DV.ls, DX.den, Bx.den, Ex.den, eo_add, eo_sub, eo_mul, eo_quo, eo_rem, eo_fdv, eo_mn, eo_mx, eo_land, eo_lor, eo_lxor, eo_landn, eo_shl, eo_shr, dvs, flatS, SP.flat, ST.flat, List.map_cons, List.map_nil, List.append_nil, List.cons_append, List.nil_append, ltb_t, ltb_f, leb_t, leb_f, eqb_t, eqb_f, decide_eq_true_eq, decide_eq_false_iff_not, Bool.not_eq_true', Bool.not_eq_false', Bool.and_eq_true, Bool.and_eq_false_imp, beq_iff_eq, beq_eq_false_iff_ne, bne_iff_ne, U64, U32, I64, Big, W, wv, Told, s64, WT, PR, MR, MB, Int.zero_mul, Int.zero_add, Int.add_zero, Int.mul_zero, IntKind.wrap_u64, IntKind.wrap_i64, IntKind.wrap_u32, ne_eq, forall_const, true_implies, show T.rel 17 = R17 from rfl, R17, show T.rel 33 = R33 from rfl, R33]
  generalize (E.r 0).i 0 = t
  generalize (E.r 0).i 1 = r
  generalize (E.r 0).i 2 = w
  generalize (E.r 0).i 3 = id
  generalize (E.r 0).i 4 = dt
  generalize (E.r 0).i 5 = dr
  generalize (E.r 0).i 6 = dw
  generalize (E.r 0).i 7 = y
  generalize (E.r 65541).i 0 = x5_0
  generalize (E.r 65541).i 1 = x5_1
  generalize (E.r 65541).i 2 = x5_2
  generalize (E.r 65545).i 0 = x9_0
  generalize (E.r 65545).i 1 = x9_1
  generalize (E.r 65545).i 2 = x9_2
  try simp only [mxI, mnI]
  try simp only [ltb, leb, eqb, Int.lt_irrefl, decide_false, Int.le_refl, decide_true]
  repeat' (first | intro _ | refine And.intro ?_ ?_ | refine Iff.intro ?_ ?_)
  all_goals first | omega | (simp_all; done) | (simp_all; omega)
end Go.Proofs.Ytkepkjahbcddlaa.Fn
namespace Go.Proofs.Ytkepkjahbcddlaa.Fn
open Go Go.RowKit Go.Proofs.Ytkepkjahbcddlaa.Sy
set_option linter.unusedVariables false
set_option linter.unusedSimpArgs false
set_option maxRecDepth 100000
def t14 : Tr :=
  .br (.f (.rel 7 [.rows []] 65538 [.obj 1]) <|
   .br (.f (.rel 11 [.obj (.at 0 0 [])] 65543 [.list [.int .u64, .int .u32, .int .u32, .int .i64, .int .u64, .int .u32, .int .u32]]) <|
    .br (.f (.rel 101403 [.lst 65543 0, .num (.v 0 1), .obj (.at 65538 0 []), .num (.n 0)] 65546 [.obj 1, .int .i64]) <|
     .br (.f (.is (.lt (.v 65546 1) (.len 65543 0)) false) <|
      .ok [.obj (.at 65546 0 [])])
     (.f (.is (.lt (.v 65546 1) (.len 65543 0)) true) <|
      .br (.f (.is (.lt (.v 65546 1) (.n 0)) true) <|
       .bad)
      (.f (.is (.lt (.v 65546 1) (.n 0)) false) <|
       .f (.rel 17 [.num (.at 65543 0 (.v 65546 1) 0), .num (.at 65543 0 (.v 65546 1) 1), .num (.at 65543 0 (.v 65546 1) 2), .num (.at 65543 0 (.v 65546 1) 3), .num (.at 65543 0 (.v 65546 1) 4), .num (.at 65543 0 (.v 65546 1) 5), .num (.at 65543 0 (.v 65546 1) 6), .num (.v 0 1)] 65556 [.int .u64, .int .u32, .int .u32, .int .i64, .int .u64, .int .u32, .int .u32]) <|
        .br (.f (.npre 28 [.obj (.at 65546 0 []), .num (.v 65556 0), .num (.v 65556 1), .num (.v 65556 2), .num (.v 65556 3), .num (.v 65556 4), .num (.v 65556 5), .num (.v 65556 6)]) <|
         .bad)
        (.f (.rel 28 [.obj (.at 65546 0 []), .num (.v 65556 0), .num (.v 65556 1), .num (.v 65556 2), .num (.v 65556 3), .num (.v 65556 4), .num (.v 65556 5), .num (.v 65556 6)] 65557 [.bool, .obj 1]) <|
         .br (.f (.nrel 101403 [.lst 65543 0, .num (.v 0 1), .obj (.at 65538 0 []), .num (.n 0)] [.obj (.at 65557 1 []), .num (.wrap .i64 (.bin .add (.v 65546 1) (.n 1)))]) <|
          .bad)
         (.f (.ndec 101403 [.lst 65543 0, .num (.v 0 1), .obj (.at 65538 0 []), .num (.n 0)] [.obj (.at 65546 0 []), .num (.v 65546 1)] [.obj (.at 65557 1 []), .num (.wrap .i64 (.bin .add (.v 65546 1) (.n 1)))]) <|
          .bad)))))
    (.f (.nrel 101403 [.lst 65543 0, .num (.v 0 1), .obj (.at 65538 0 []), .num (.n 0)] [.obj (.at 65538 0 []), .num (.n 0)]) <|
     .bad))
   (.f (.npre 11 [.obj (.at 0 0 [])]) <|
    .bad))
  (.f (.npre 7 [.rows []]) <|
   .bad)
theorem c14 : ConS Try.prog T C14 := con_tr (cs := [C7, C11, C17, C28]) (lcs := [L101403]) (known := []) (cons_cons c7 (cons_cons c11 (cons_cons c17 (cons_cons c28 (cons_nil _ _))))) (Known.nil _) (N := 400) (d := 40) (t := t14) (by kernel_rfl) <| by
  intro E hl hp
  clear hl
  have hp := hp rfl
  simp only [C14, show T.pre 14 = Q14 from rfl, flatS, SP.flat, dvs, List.append_nil, List.cons_append, List.nil_append, Q14, U64, U32, I64, Big, W, wv, s64, WT, PR, MR, MB] at hp
  simp only [t14, C14, Tr.good, Fact.den, DE.den, Dat.sub, LX.den, DX.ls, DV.ls, DX.den, Bx.den, Ex.den, eo_add, eo_sub, eo_mul, eo_quo, eo_rem, eo_fdv, eo_mn, eo_mx, eo_land, eo_lor, eo_lxor, eo_landn, eo_shl, eo_shr, dvs, flatS, SP.flat, ST.flat, List.map_cons, List.map_nil, List.append_nil, List.cons_append, List.nil_append, ltb_t, ltb_f, leb_t, leb_f, eqb_t, eqb_f, decide_eq_true_eq, decide_eq_false_iff_not, Bool.not_eq_true', Bool.not_eq_false', Bool.and_eq_true, Bool.and_eq_false_imp, beq_iff_eq, beq_eq_false_iff_ne, bne_iff_ne, U64, U32, I64, Big, W, wv, Told, s64, WT, PR, MR, MB, Int.zero_mul, Int.zero_add, Int.add_zero, Int.mul_zero, IntKind.wrap_u64, IntKind.wrap_i64, IntKind.wrap_u32, ne_eq, forall_const, true_implies, show T.rel 7 = R7 from rfl, R7, show T.rel 11 = R11 from rfl, R11, show T.rel 14 = R14 from rfl, R14, show T.rel 17 = R17 from rfl, R17, show T.rel 28 = R28 from rfl, R28, show T.rel 101403 = R101403 from rfl, R101403, show T.mu 101403 = M101403 from rfl, M101403, show T.pre 7 = Q7 from rfl, Q7, show T.pre 11 = Q11 from rfl, Q11, show T.pre 14 = Q14 from rfl, Q14, show T.pre 28 = Q28 from rfl, Q28]
  revert hp
  generalize (E.r 0).t 0 = t
  generalize (E.r 0).i 1 = y
  generalize (E.r 65538).t 0 = x2_0
  generalize (E.r 65543).l 0 = x7_0
  generalize (E.r 65546).t 0 = x10_0
  generalize (E.r 65546).i 1 = x10_1
  generalize (E.r 65556).i 0 = x20_0
  generalize (E.r 65556).i 1 = x20_1
  generalize (E.r 65556).i 2 = x20_2
  generalize (E.r 65556).i 3 = x20_3
  generalize (E.r 65556).i 4 = x20_4
  generalize (E.r 65556).i 5 = x20_5
  generalize (E.r 65556).i 6 = x20_6
  generalize (E.r 65557).c 0 = x21_0
  generalize (E.r 65557).t 1 = x21_1
  try simp only [mxI, mnI]
  try simp only [ltb, leb, eqb, Int.lt_irrefl, decide_false, Int.le_refl, decide_true]
  rintro ⟨ti, hs, hy⟩
  have ol := ItT.ord_size (sh (t.kid false))
  refine ⟨fun ⟨b1, b2⟩ => ⟨fun e => ?_, fun n => n (by omega)⟩, fun n => n ⟨RI_nil, by simp⟩⟩
  have hx : x7_0.length ≤ 1000 := by rw [e, ol]; exact hs
  refine ⟨fun ⟨j0, j1, tj, ej⟩ => ⟨fun c => ⟨tj, ?_⟩, fun c => ⟨fun h => by omega, fun _ ⟨f0, f1, f2, f3, f4, f5, f6⟩ => ⟨fun n => n ⟨tj, ?_, ?_⟩, fun ⟨_, tk, ek⟩ => ⟨fun n => n ⟨by omega, by omega, tk, ?_⟩, fun n => n (by omega)⟩⟩⟩⟩, fun n => n ⟨trivial, by omega, b1, by rw [b2]; rfl⟩⟩
  · rw [ej, ← e, List.take_of_length_le (by omega)]
  · obtain ⟨_, _, q⟩ := tj
    have := size_putL (List.map (shI y) (List.take x10_1.toNat x7_0)) ItT.E
    rw [← ej, List.length_map, List.length_take] at this
    have z : ItT.size .E = 0 := rfl
    omega
  · have k := ItT.K_ord ti.2.1
    have hj : x10_1.toNat < x7_0.length := by omega
    have k := k _ (by rw [← e]; exact List.getElem_mem hj)
    have ey : x7_0[x10_1.toNat] = x7_0.getD x10_1.toNat [] := by rw [List.getD_eq_getElem?_getD, List.getElem?_eq_getElem hj]; rfl
    rw [ey, ← K7_rw] at k
    have ez : ((x10_1.toNat : Nat) : Int) = x10_1 := by omega
    simp only [rw7, ez] at k
    obtain ⟨a0, a1, a2, a3, a4, a5⟩ := K7_mk.1 k
    rw [f0, f1, f2, f3, f4, f5, f6]
    exact K7_mk.2 ⟨⟨by omega, by omega⟩, a1, a2, ⟨by omega, by omega⟩, a4, a5⟩
  · have ew : (x10_1 + 1 + 9223372036854775808) % 18446744073709551616 - 9223372036854775808 = ((x10_1.toNat + 1 : Nat) : Int) := by omega
    have hj : x10_1.toNat < x7_0.length := by omega
    have ez : ((x10_1.toNat : Nat) : Int) = x10_1 := by omega
    rw [ew, Int.toNat_natCast, List.take_succ_eq_append_getElem hj, List.map_append, List.map_cons, List.map_nil, putL_snoc, ek, ej]
    have er : shI y x7_0[x10_1.toNat] = [x20_0, x20_1, x20_2, x20_3, x20_4, x20_5, x20_6] := by
      have ey : x7_0[x10_1.toNat] = x7_0.getD x10_1.toNat [] := by rw [List.getD_eq_getElem?_getD, List.getElem?_eq_getElem hj]; rfl
      have g : ∀ c, g7 (x7_0.getD x10_1.toNat []) c = Sy.rowAt x7_0 x10_1 c := fun c => rfl
      rw [ey]
      simp only [shI, g, f0, f1, f2, f3, f4, f5, f6]
    rw [er]
end Go.Proofs.Ytkepkjahbcddlaa.Fn
namespace Go.Proofs.Ytkepkjahbcddlaa.Fn
open Go Go.RowKit Go.Proofs.Ytkepkjahbcddlaa.Sy
set_option linter.unusedVariables false
set_option linter.unusedSimpArgs false
set_option maxRecDepth 100000
def t18 : Tr :=
  .br (.f (.is (.nil 0 0 []) true) <|
   .ok [.num (.n 0)])
  (.f (.is (.nil 0 0 []) false) <|
   .ok [.num (.fld 0 0 [] 0)])
theorem c18 : ConS Try.prog T C18 := con_tr (cs := []) (lcs := []) (known := []) (cons_nil _ _) (Known.nil _) (N := 400) (d := 40) (t := t18) (by kernel_rfl) <| by
  intro E hl hp
  clear hl
  clear hp
  simp only [t18, C18, Tr.good, Fact.den, DE.den, Dat.sub, LX.den, DX.ls, DV.ls, DX.den, Bx.den, Ex.den, eo_add, eo_sub, eo_mul, eo_quo, eo_rem, eo_fdv, eo_mn, eo_mx, eo_land, eo_lor, eo_lxor, eo_landn, eo_shl, eo_shr, dvs, flatS, SP.flat, ST.flat, List.map_cons, List.map_nil, List.append_nil, List.cons_append, List.nil_append, ltb_t, ltb_f, leb_t, leb_f, eqb_t, eqb_f, decide_eq_true_eq, decide_eq_false_iff_not, Bool.not_eq_true', Bool.not_eq_false', Bool.and_eq_true, Bool.and_eq_false_imp, beq_iff_eq, beq_eq_false_iff_ne, bne_iff_ne, U64, U32, I64, Big, W, wv, Told, s64, WT, PR, MR, MB, Int.zero_mul, Int.zero_add, Int.add_zero, Int.mul_zero, IntKind.wrap_u64, IntKind.wrap_i64, IntKind.wrap_u32, ne_eq, forall_const, true_implies, show T.rel 18 = R18 from rfl, R18]
  generalize (E.r 0).t 0 = t
  try simp only [mxI, mnI]
  try simp only [ltb, leb, eqb, Int.lt_irrefl, decide_false, Int.le_refl, decide_true]
  refine ⟨fun h => ?_, fun _ => trivial⟩
  cases t with
  | leaf => rfl
  | nd b ns bs l r => cases h
end Go.Proofs.Ytkepkjahbcddlaa.Fn
