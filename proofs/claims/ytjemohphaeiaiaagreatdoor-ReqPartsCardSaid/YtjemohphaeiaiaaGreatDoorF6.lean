/- What is told of turnstone/turnstonelaw15.ReqParts, shown. -/
import Derived.Test.YtjemohphaeiaiaaGreatDoorTab
import Derived.Test.YtjemohphaeiaiaaGreatDoorFm2
import Derived.Test.YtjemohphaeiaiaaGreatDoorSyAwake7
namespace Go.Proofs.YtjemohphaeiaiaaGreatDoor.Fn
open Go Go.RowKit Go.Proofs.YtjemohphaeiaiaaGreatDoor.Sy
set_option linter.unusedVariables false
set_option linter.unusedSimpArgs false
set_option maxRecDepth 100000
open Go.Proofs.YtjemohphaeiaiaaGreatDoor.Awake
def t6 : Tr :=
  .br (.f (.rel 16 [.num (.v 0 0), .num (.v 0 1), .num (.v 0 2), .num (.n 3), .num (.v 0 3)] 65542 [.int .u64, .int .u32, .int .u32, .int .i64, .int .u64, .int .u32, .int .u32, .int .u64, .int .u64, .bool, .bool]) <|
   .br (.f (.is (.v 65542 10) false) <|
    .ok [.tru (.le (.n 0) (.n 0))])
   (.f (.is (.v 65542 10) true) <|
    .br (.f (.is (.lt (.v 0 4) (.n 1)) true) <|
     .ok [.tru (.le (.n 0) (.n 0))])
    (.f (.is (.lt (.v 0 4) (.n 1)) false) <|
     .br (.f (.is (.lt (.n 1099511627776) (.v 0 4)) true) <|
      .ok [.tru (.le (.n 0) (.n 0))])
     (.f (.is (.lt (.n 1099511627776) (.v 0 4)) false) <|
      .br (.f (.is (.lt (.v 0 5) (.n 1)) true) <|
       .ok [.tru (.le (.n 0) (.n 0))])
      (.f (.is (.lt (.v 0 5) (.n 1)) false) <|
       .br (.f (.is (.lt (.v 0 6) (.n 1)) true) <|
        .ok [.tru (.le (.n 0) (.n 0))])
       (.f (.is (.lt (.v 0 6) (.n 1)) false) <|
        .br (.f (.is (.lt (.v 0 3) (.v 0 5)) true) <|
         .ok [.tru (.le (.n 0) (.n 0))])
        (.f (.is (.lt (.v 0 3) (.v 0 5)) false) <|
         .br (.f (.is (.lt (.wrap .u64 (.bin .sub (.v 0 3) (.v 0 5))) (.v 0 6)) true) <|
          .ok [.tru (.le (.n 0) (.n 0))])
         (.f (.is (.lt (.wrap .u64 (.bin .sub (.v 0 3) (.v 0 5))) (.v 0 6)) false) <|
          .br (.f (.rel 13 [.num (.v 65542 0), .num (.v 65542 1), .num (.v 65542 2), .num (.v 65542 3), .num (.v 65542 4), .num (.v 65542 5), .num (.v 65542 6), .num (.v 65542 7), .num (.v 65542 8), .tru (.v 65542 9), .rows [[.v 0 5], [.v 0 6]]] 65583 [.int .u64, .int .u32, .int .u32, .int .i64, .int .u64, .int .u32, .int .u32, .int .u64, .int .u64, .bool, .int .i64, .bool]) <|
           .br (.f (.rel 13 [.num (.v 65542 0), .num (.v 65542 1), .num (.v 65542 2), .num (.v 65542 3), .num (.v 65542 4), .num (.v 65542 5), .num (.v 65542 6), .num (.v 65542 7), .num (.v 65542 8), .tru (.v 65542 9), .rows [[.wrap .u64 (.bin .add (.v 0 5) (.v 0 6))]]] 65597 [.int .u64, .int .u32, .int .u32, .int .i64, .int .u64, .int .u32, .int .u32, .int .u64, .int .u64, .bool, .int .i64, .bool]) <|
            .br (.f (.rel 21 [.num (.v 65542 0), .num (.v 65542 1), .num (.v 65542 2), .num (.v 65542 3), .num (.v 65542 4), .num (.v 65542 5), .num (.v 65542 6), .num (.v 65542 7), .num (.v 65542 8), .tru (.v 65542 9), .num (.v 0 4)] 65608 [.int .u64, .int .u32, .int .u32, .int .i64, .int .u64, .int .u32, .int .u32, .int .u64, .int .u64, .bool, .bool]) <|
             .br (.f (.rel 10 [.num (.v 65608 0), .num (.v 65608 1), .num (.v 65608 2), .num (.v 65608 3), .num (.v 65608 4), .num (.v 65608 5), .num (.v 65608 6), .num (.v 65608 7), .num (.v 65608 8), .tru (.v 65608 9), .num (.v 0 3)] 65617 [.int .u64, .int .u32, .int .u32, .int .i64, .int .u64, .int .u32, .int .u32, .int .u64, .int .u64, .bool, .bool, .bool]) <|
              .br (.f (.is (.v 65583 11) true) <|
               .br (.f (.is (.v 65597 11) true) <|
                .br (.f (.is (.eq (.v 65583 10) (.v 65597 10)) true) <|
                 .br (.f (.is (.and (.and (.and (.eq (.v 65583 0) (.v 65597 0)) (.and (.eq (.v 65583 1) (.v 65597 1)) (.and (.eq (.v 65583 2) (.v 65597 2)) (.le (.n 0) (.n 0))))) (.and (.eq (.v 65583 3) (.v 65597 3)) (.and (.and (.eq (.v 65583 4) (.v 65597 4)) (.and (.eq (.v 65583 5) (.v 65597 5)) (.and (.eq (.v 65583 6) (.v 65597 6)) (.le (.n 0) (.n 0))))) (.le (.n 0) (.n 0))))) (.and (.eq (.v 65583 7) (.v 65597 7)) (.and (.eq (.v 65583 8) (.v 65597 8)) (.and (.beq (.v 65583 9) (.v 65597 9)) (.le (.n 0) (.n 0)))))) true) <|
                  .br (.f (.is (.v 65608 10) true) <|
                   .br (.f (.is (.and (.and (.eq (.v 65608 0) (.v 65542 0)) (.and (.eq (.v 65608 1) (.v 65542 1)) (.and (.eq (.v 65608 2) (.v 65542 2)) (.le (.n 0) (.n 0))))) (.and (.eq (.v 65608 3) (.v 65542 3)) (.and (.and (.eq (.v 65608 4) (.v 65542 4)) (.and (.eq (.v 65608 5) (.v 65542 5)) (.and (.eq (.v 65608 6) (.v 65542 6)) (.le (.n 0) (.n 0))))) (.le (.n 0) (.n 0))))) true) <|
                    .br (.f (.is (.eq (.v 65608 7) (.v 65542 7)) true) <|
                     .br (.f (.is (.v 65617 11) true) <|
                      .br (.f (.is (.eq (.v 65617 7) (.v 0 4)) true) <|
                       .ok [.tru (.and (.eq (.v 65617 0) (.v 65542 4)) (.and (.eq (.v 65617 1) (.v 65542 5)) (.and (.eq (.v 65617 2) (.v 65542 6)) (.le (.n 0) (.n 0)))))])
                      (.f (.is (.eq (.v 65617 7) (.v 0 4)) false) <|
                       .ok [.tru (.lt (.n 0) (.n 0))]))
                     (.f (.is (.v 65617 11) false) <|
                      .ok [.tru (.lt (.n 0) (.n 0))]))
                    (.f (.is (.eq (.v 65608 7) (.v 65542 7)) false) <|
                     .ok [.tru (.lt (.n 0) (.n 0))]))
                   (.f (.is (.and (.and (.eq (.v 65608 0) (.v 65542 0)) (.and (.eq (.v 65608 1) (.v 65542 1)) (.and (.eq (.v 65608 2) (.v 65542 2)) (.le (.n 0) (.n 0))))) (.and (.eq (.v 65608 3) (.v 65542 3)) (.and (.and (.eq (.v 65608 4) (.v 65542 4)) (.and (.eq (.v 65608 5) (.v 65542 5)) (.and (.eq (.v 65608 6) (.v 65542 6)) (.le (.n 0) (.n 0))))) (.le (.n 0) (.n 0))))) false) <|
                    .ok [.tru (.lt (.n 0) (.n 0))]))
                  (.f (.is (.v 65608 10) false) <|
                   .ok [.tru (.lt (.n 0) (.n 0))]))
                 (.f (.is (.and (.and (.and (.eq (.v 65583 0) (.v 65597 0)) (.and (.eq (.v 65583 1) (.v 65597 1)) (.and (.eq (.v 65583 2) (.v 65597 2)) (.le (.n 0) (.n 0))))) (.and (.eq (.v 65583 3) (.v 65597 3)) (.and (.and (.eq (.v 65583 4) (.v 65597 4)) (.and (.eq (.v 65583 5) (.v 65597 5)) (.and (.eq (.v 65583 6) (.v 65597 6)) (.le (.n 0) (.n 0))))) (.le (.n 0) (.n 0))))) (.and (.eq (.v 65583 7) (.v 65597 7)) (.and (.eq (.v 65583 8) (.v 65597 8)) (.and (.beq (.v 65583 9) (.v 65597 9)) (.le (.n 0) (.n 0)))))) false) <|
                  .ok [.tru (.lt (.n 0) (.n 0))]))
                (.f (.is (.eq (.v 65583 10) (.v 65597 10)) false) <|
                 .ok [.tru (.lt (.n 0) (.n 0))]))
               (.f (.is (.v 65597 11) false) <|
                .ok [.tru (.lt (.n 0) (.n 0))]))
              (.f (.is (.v 65583 11) false) <|
               .ok [.tru (.lt (.n 0) (.n 0))]))
             (.f (.npre 10 [.num (.v 65608 0), .num (.v 65608 1), .num (.v 65608 2), .num (.v 65608 3), .num (.v 65608 4), .num (.v 65608 5), .num (.v 65608 6), .num (.v 65608 7), .num (.v 65608 8), .tru (.v 65608 9), .num (.v 0 3)]) <|
              .bad))
            (.f (.npre 21 [.num (.v 65542 0), .num (.v 65542 1), .num (.v 65542 2), .num (.v 65542 3), .num (.v 65542 4), .num (.v 65542 5), .num (.v 65542 6), .num (.v 65542 7), .num (.v 65542 8), .tru (.v 65542 9), .num (.v 0 4)]) <|
             .bad))
           (.f (.npre 13 [.num (.v 65542 0), .num (.v 65542 1), .num (.v 65542 2), .num (.v 65542 3), .num (.v 65542 4), .num (.v 65542 5), .num (.v 65542 6), .num (.v 65542 7), .num (.v 65542 8), .tru (.v 65542 9), .rows [[.wrap .u64 (.bin .add (.v 0 5) (.v 0 6))]]]) <|
            .bad))
          (.f (.npre 13 [.num (.v 65542 0), .num (.v 65542 1), .num (.v 65542 2), .num (.v 65542 3), .num (.v 65542 4), .num (.v 65542 5), .num (.v 65542 6), .num (.v 65542 7), .num (.v 65542 8), .tru (.v 65542 9), .rows [[.v 0 5], [.v 0 6]]]) <|
           .bad)))))))))
  (.f (.npre 16 [.num (.v 0 0), .num (.v 0 1), .num (.v 0 2), .num (.n 3), .num (.v 0 3)]) <|
   .bad)
theorem c6 : ConS Tryz.prog T C6 := con_tr (cs := [C10, C13, C16, C21]) (lcs := []) (known := [9, 28, 42, 61, 88, 105, 121, 130, 139, 145, 147, 149, 150, 152, 153, 154, 156, 162, 165, 161, 164, 170, 180, 192, 195, 191, 194, 203, 204]) (cons_cons c10 (cons_cons c13 (cons_cons c16 (cons_cons c21 (cons_nil _ _))))) known9 (N := 400) (d := 40) (t := t6) (by kernel_rfl) <| by
  intro E hl hp
  clear hl
  have hp := hp rfl
  simp only [C6, show T.pre 6 = Q6 from rfl, flatS, SP.flat, dvs, List.append_nil, List.cons_append, List.nil_append, Q6, U64, U32, I64, Big, W, wv, s64, MR, MB] at hp
  simp only [t6, C6, Tr.good, Fact.den, LX.den, DX.ls, DV.ls, DX.den, Bx.den, Ex.den, eo_add, eo_sub, eo_mul, eo_quo, eo_rem, eo_fdv, eo_mn, eo_mx, eo_land, eo_lor, eo_lxor, eo_landn, eo_shl, eo_shr, dvs, flatS, SP.flat, ST.flat, List.map_cons, List.map_nil, List.append_nil, List.cons_append, List.nil_append, ltb_t, ltb_f, leb_t, leb_f, eqb_t, eqb_f, decide_eq_true_eq, decide_eq_false_iff_not, Bool.not_eq_true', Bool.not_eq_false', Bool.and_eq_true, Bool.and_eq_false_imp, beq_iff_eq, beq_eq_false_iff_ne, bne_iff_ne, U64, U32, I64, Big, W, wv, Told, s64, MR, MB, Int.zero_mul, Int.zero_add, Int.add_zero, Int.mul_zero, IntKind.wrap_u64, IntKind.wrap_i64, IntKind.wrap_u32, ne_eq, forall_const, true_implies, show T.rel 6 = R6 from rfl, R6, show T.rel 10 = R10 from rfl, R10, show T.rel 13 = R13 from rfl, R13, show T.rel 16 = R16 from rfl, R16, show T.rel 21 = R21 from rfl, R21, show T.pre 6 = Q6 from rfl, Q6, show T.pre 10 = Q10 from rfl, Q10, show T.pre 13 = Q13 from rfl, Q13, show T.pre 16 = Q16 from rfl, Q16, show T.pre 21 = Q21 from rfl, Q21]
  revert hp
  generalize (E.r 0).i 0 = t
  generalize (E.r 0).i 1 = r
  generalize (E.r 0).i 2 = w
  generalize (E.r 0).i 3 = s
  generalize (E.r 0).i 4 = nx
  generalize (E.r 0).i 5 = x
  generalize (E.r 0).i 6 = y
  generalize (E.r 65542).i 0 = x6_0
  generalize (E.r 65542).i 1 = x6_1
  generalize (E.r 65542).i 2 = x6_2
  generalize (E.r 65542).i 3 = x6_3
  generalize (E.r 65542).i 4 = x6_4
  generalize (E.r 65542).i 5 = x6_5
  generalize (E.r 65542).i 6 = x6_6
  generalize (E.r 65542).i 7 = x6_7
  generalize (E.r 65542).i 8 = x6_8
  generalize (E.r 65542).c 9 = x6_9
  generalize (E.r 65542).c 10 = x6_10
  generalize (E.r 65583).i 0 = x47_0
  generalize (E.r 65583).i 1 = x47_1
  generalize (E.r 65583).i 2 = x47_2
  generalize (E.r 65583).i 3 = x47_3
  generalize (E.r 65583).i 4 = x47_4
  generalize (E.r 65583).i 5 = x47_5
  generalize (E.r 65583).i 6 = x47_6
  generalize (E.r 65583).i 7 = x47_7
  generalize (E.r 65583).i 8 = x47_8
  generalize (E.r 65583).c 9 = x47_9
  generalize (E.r 65583).i 10 = x47_10
  generalize (E.r 65583).c 11 = x47_11
  generalize (E.r 65597).i 0 = x61_0
  generalize (E.r 65597).i 1 = x61_1
  generalize (E.r 65597).i 2 = x61_2
  generalize (E.r 65597).i 3 = x61_3
  generalize (E.r 65597).i 4 = x61_4
  generalize (E.r 65597).i 5 = x61_5
  generalize (E.r 65597).i 6 = x61_6
  generalize (E.r 65597).i 7 = x61_7
  generalize (E.r 65597).i 8 = x61_8
  generalize (E.r 65597).c 9 = x61_9
  generalize (E.r 65597).i 10 = x61_10
  generalize (E.r 65597).c 11 = x61_11
  generalize (E.r 65608).i 0 = x72_0
  generalize (E.r 65608).i 1 = x72_1
  generalize (E.r 65608).i 2 = x72_2
  generalize (E.r 65608).i 3 = x72_3
  generalize (E.r 65608).i 4 = x72_4
  generalize (E.r 65608).i 5 = x72_5
  generalize (E.r 65608).i 6 = x72_6
  generalize (E.r 65608).i 7 = x72_7
  generalize (E.r 65608).i 8 = x72_8
  generalize (E.r 65608).c 9 = x72_9
  generalize (E.r 65608).c 10 = x72_10
  generalize (E.r 65617).i 0 = x81_0
  generalize (E.r 65617).i 1 = x81_1
  generalize (E.r 65617).i 2 = x81_2
  generalize (E.r 65617).i 3 = x81_3
  generalize (E.r 65617).i 4 = x81_4
  generalize (E.r 65617).i 5 = x81_5
  generalize (E.r 65617).i 6 = x81_6
  generalize (E.r 65617).i 7 = x81_7
  generalize (E.r 65617).i 8 = x81_8
  generalize (E.r 65617).c 9 = x81_9
  generalize (E.r 65617).c 10 = x81_10
  generalize (E.r 65617).c 11 = x81_11
  try simp only [mxI, mnI]
  try simp only [ltb, leb, eqb, Int.lt_irrefl, decide_false, Int.le_refl, decide_true]
  intro hp
  obtain ⟨p1, p2, p3, p4, p5, p6, p7⟩ := hp
  refine ⟨fun ⟨a1, a2, _⟩ => ⟨fun _ => trivial, fun t6 => ⟨fun _ => trivial, fun c1 => ⟨fun _ => trivial, fun c2 => ⟨fun _ => trivial, fun c3 => ⟨fun _ => trivial, fun c4 => ⟨fun _ => trivial, fun c5 => ⟨fun _ => trivial, fun c6 => ?_⟩⟩⟩⟩⟩⟩⟩, fun n => n ⟨p1, p2, p3⟩⟩
  obtain ⟨hP, _, hs⟩ := a1.1 t6
  obtain ⟨e0, e1, e2, e3, e4, e5, e6, e7, e8, e9⟩ := a2 t6
  clear a1 a2 t6
  have s1 := hs.1
  have s2 := hs.2
  have exy : (x + y) % 18446744073709551616 = x + y := by omega
  have hxy : x + y ≤ s := by omega
  have wt : WT w := ⟨hP.1, hP.2.1⟩
  have m := mvt_u t r w s
  have m2 := mvr_u r s wt
  have R0 : RQ t r w 3 (mvt t r w s) (mvr r w s) w s s := ⟨hP, by omega, hs, hs, rfl, rfl, rfl⟩
  have R1 : RQ t r w 3 (mvt t r w s) (mvr r w s) w s nx := ⟨hP, by omega, hs, ⟨c1, c2⟩, rfl, rfl, rfl⟩
  simp only [e0, e1, e2, e3, e4, e5, e6, e7, e8, e9, exy]
  have ks : U64 t ∧ U32 r ∧ U32 w ∧ U64 (mvt t r w s) ∧ U32 (mvr r w s) ∧ U32 w := ⟨p1, p2, p3, m, ⟨m2.1, m2.2.2⟩, p3⟩
  refine ⟨fun A => ⟨fun B => ⟨fun ⟨d1, d2, _⟩ => ?_, fun n => n ks⟩, fun n => n ⟨p1, p2, p3, m, ⟨m2.1, m2.2.2⟩, p3, p4, p4, RU_one (by omega), by simp⟩⟩, fun n => n ⟨p1, p2, p3, m, ⟨m2.1, m2.2.2⟩, p3, p4, p4, RU_two p6 p7, by simp⟩⟩
  have tA : x47_11 = true := A.1.2 (.inr ⟨R0, PT_two c3 c4⟩)
  have tB : x61_11 = true := B.1.2 (.inr ⟨R0, PT_one (by omega)⟩)
  have t72 := d1.2 ⟨R0, c1, c2⟩
  obtain ⟨f0, f1, f2, f3, f4, f5, f6, f7, f8, f9⟩ := d2 t72
  simp only [f0, f1, f2, f3, f4, f5, f6, f7, f8, f9]
  obtain ⟨g1, g2, g3, g4, g5, _⟩ := A.2.1 tA
  obtain ⟨h1, h2, h3, h4, h5, _⟩ := B.2.1 tB
  obtain ⟨_, g6, g7, g8, g9, g10, g11, g12⟩ := g5 R0
  obtain ⟨_, h6, h7, h8, h9, h10, h11, h12⟩ := h5 R0
  have sp := sv_parts (w := w) (s := s) (t := t) (r := r) (x := x) (y := y) hP.1 c3 c4 hxy
  have l2 : [[x], [y]].length = 2 := rfl
  have l1 : [[x + y]].length = 1 := rfl
  rw [l2, sp] at g6 g7 g8 g9
  rw [l1] at h6 h7 h8 h9
  rw [← h6] at g6
  rw [← h7] at g7
  rw [← h8] at g8
  rw [← h9] at g9
  rw [g6, g7, g8, ← h10] at g10
  rw [g7, g8, ← h11] at g11
  clear A B d1 d2 g5 h5 h6 h7 h8 h9 h10 h11 R0 sp
  refine ⟨fun C => ?_, fun n => n ⟨p1, p2, p3, m, ⟨m2.1, m2.2.2⟩, p3, p4, p4⟩⟩
  have tC := C.1.2 ⟨R1, s1, Int.le_refl s⟩
  obtain ⟨i0, i1, i2, i3, i4, _⟩ := C.2.1 tC
  have i5 : x81_7 = nx := by rw [i4, if_pos (by omega)]
  clear C i4
  repeat' (first | assumption | (intro (h : _ ∧ _); obtain ⟨h1, h2⟩ := h; (first | (subst h1; revert h2) | revert h1 h2)) | (intro h; (first | subst h | skip)) | refine And.intro ?_ ?_)
  all_goals try (show False; refine absurd ?_ ‹¬ _›)
  all_goals repeat' (first | assumption | refine And.intro ?_ ?_)
  all_goals first | omega | grind
end Go.Proofs.YtjemohphaeiaiaaGreatDoor.Fn
