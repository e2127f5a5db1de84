/- What is told of turnstone/turnstonelaw14.QueueNone, shown. -/
import Derived.Test.YtpccjjfcklplaaaGreatDoorTab
import Derived.Test.YtpccjjfcklplaaaGreatDoorFm0
import Derived.Test.YtpccjjfcklplaaaGreatDoorSyAwake6
namespace Go.Proofs.YtpccjjfcklplaaaGreatDoor.Fn
open Go Go.RowKit Go.Proofs.YtpccjjfcklplaaaGreatDoor.Sy
set_option linter.unusedVariables false
set_option linter.unusedSimpArgs false
set_option maxRecDepth 100000
open Go.Proofs.YtpccjjfcklplaaaGreatDoor.Awake
def t5 : Tr :=
  .ok [.tru (.le (.n 0) (.n 0))]
theorem c5 : ConS Tryz.prog T C5 := con_tr (cs := []) (lcs := []) (known := [26, 65, 109, 141, 14, 44, 93, 126, 153, 175, 190, 195, 6, 35, 79, 119, 146, 118, 145, 163, 179, 193, 197, 192, 196, 205, 206]) (cons_nil _ _) known26 (N := 400) (d := 40) (t := t5) (by kernel_rfl) <| by
  intro E hl hp
  clear hl
  clear hp
  simp only [t5, C5, Tr.good, Fact.den, LX.den, DX.ls, DV.ls, DX.den, Bx.den, Ex.den, eo_add, eo_sub, eo_mul, eo_quo, eo_rem, eo_fdv, eo_mn, eo_mx, eo_land, eo_lor, eo_lxor, eo_landn, eo_shl, eo_shr, dvs, flatS, SP.flat, ST.flat, List.map_cons, List.map_nil, List.append_nil, List.cons_append, List.nil_append, ltb_t, ltb_f, leb_t, leb_f, eqb_t, eqb_f, decide_eq_true_eq, decide_eq_false_iff_not, Bool.not_eq_true', Bool.not_eq_false', Bool.and_eq_true, Bool.and_eq_false_imp, beq_iff_eq, beq_eq_false_iff_ne, bne_iff_ne, U64, U32, I64, Big, W, wv, Told, s64, WT, PR, MR, MB, Int.zero_mul, Int.zero_add, Int.add_zero, Int.mul_zero, IntKind.wrap_u64, IntKind.wrap_i64, IntKind.wrap_u32, ne_eq, forall_const, true_implies, show T.rel 5 = R5 from rfl, R5]
  try simp only [mxI, mnI]
  try simp only [ltb, leb, eqb, Int.lt_irrefl, decide_false, Int.le_refl, decide_true]
  repeat' (first | assumption | (intro (h : _ ∧ _); obtain ⟨h1, h2⟩ := h; (first | (subst h1; revert h2) | revert h1 h2)) | (intro h; (first | subst h | skip)) | refine And.intro ?_ ?_)
  all_goals try (show False; refine absurd ?_ ‹¬ _›)
  all_goals repeat' (first | assumption | refine And.intro ?_ ?_)
  all_goals first | omega | grind
end Go.Proofs.YtpccjjfcklplaaaGreatDoor.Fn
