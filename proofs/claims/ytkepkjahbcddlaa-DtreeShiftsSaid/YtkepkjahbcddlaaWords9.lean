/- Words for what is found in trees of items: how a search steps, what it has in the end; trees that are shifted. -/
import Derived.Test.YtkepkjahbcddlaaWords8
namespace Go.Proofs.Ytkepkjahbcddlaa.Fn
open Go Go.Proofs.Ytkepkjahbcddlaa.Sy
set_option linter.unusedVariables false
set_option linter.unusedSimpArgs false
/-! ### A search's steps -/
theorem K_nd {n : Dat} (h : n.isLeaf = false) : (sh n).K ↔ K7 (it7 n) ∧ K7 (al7 n) ∧ (sh (n.kid false)).K ∧ (sh (n.kid true)).K := by rw [sh_nd h]; rfl
theorem size_nd {n : Dat} (h : n.isLeaf = false) : (sh n).size = (sh (n.kid false)).size + (sh (n.kid true)).size + 1 := by rw [sh_nd h]; rfl
theorem fs_leaf {P : List Int → Prop} [DecidablePred P] {n : Dat} {o : Option (List Int)} (h : n.isLeaf = true) : (sh n).foldP P o = o := by rw [sh_leaf h]; rfl
theorem fs_no {P : List Int → Prop} [DecidablePred P] {n : Dat} {o : Option (List Int)} (h : n.isLeaf = false) (q : ¬ P (it7 n)) : (sh (n.kid false)).foldP P o = (sh n).foldP P o := by
  rw [sh_nd h]
  exact (if_neg q).symm
theorem fs_yes {P : List Int → Prop} [DecidablePred P] {n : Dat} {o : Option (List Int)} (h : n.isLeaf = false) (q : P (it7 n)) : (sh n).foldP P o = (sh (n.kid true)).foldP P (addO (ItT.topO o (sh (n.kid false))) (it7 n)) := by
  rw [sh_nd h]
  exact if_pos q
theorem fs1 {P : List Int → Prop} [DecidablePred P] {n : Dat} {a y z : List Int} {c : Bool} (hc : c = true) (h : n.isLeaf = false) (q : P (it7 n)) (hl : (n.kid false).isLeaf = false) (e1 : y = JN a (al7 (n.kid false))) (e2 : z = JN y (it7 n)) : (sh (n.kid true)).foldP P (OP true z) = (sh n).foldP P (OP c a) := by
  rw [fs_yes h q, sh_nd hl, e2, e1, hc]; rfl
theorem fs2 {P : List Int → Prop} [DecidablePred P] {n : Dat} {a z : List Int} {c : Bool} (hc : c = false) (h : n.isLeaf = false) (q : P (it7 n)) (hl : (n.kid false).isLeaf = false) (e2 : z = JN (al7 (n.kid false)) (it7 n)) : (sh (n.kid true)).foldP P (OP true z) = (sh n).foldP P (OP c a) := by
  rw [fs_yes h q, sh_nd hl, e2, hc]; rfl
theorem fs3 {P : List Int → Prop} [DecidablePred P] {n : Dat} {a z : List Int} {c : Bool} (hc : c = true) (h : n.isLeaf = false) (q : P (it7 n)) (hl : (n.kid false).isLeaf = true) (e2 : z = JN a (it7 n)) : (sh (n.kid true)).foldP P (OP true z) = (sh n).foldP P (OP c a) := by
  rw [fs_yes h q, sh_leaf hl, e2, hc]; rfl
theorem fs4 {P : List Int → Prop} [DecidablePred P] {n : Dat} {a z : List Int} {c : Bool} (hc : c = false) (h : n.isLeaf = false) (q : P (it7 n)) (hl : (n.kid false).isLeaf = true) (e2 : z = it7 n) : (sh (n.kid true)).foldP P (OP true z) = (sh n).foldP P (OP c a) := by
  rw [fs_yes h q, sh_leaf hl, e2, hc]; rfl
/-! ### One after another -/
theorem AHR_rj {ys : List (List Int)} {j : Int} (h0 : 0 ≤ j) {a b c d e f g : Int} : AHR (rw7 ys j.toNat) [a, b, c, d, e, f, g] ↔ AHI (Sy.rowAt ys j 0) (Sy.rowAt ys j 1) (Sy.rowAt ys j 2) (Sy.rowAt ys j 3) a b c d := by
  have ej : ((j.toNat : Nat) : Int) = j := by omega
  unfold rw7
  rw [ej]; exact Iff.rfl
theorem DUR_rj {ys : List (List Int)} {j : Int} (h0 : 0 ≤ j) {a b c d e f g : Int} : DUR (rw7 ys j.toNat) [a, b, c, d, e, f, g] ↔ DUI (Sy.rowAt ys j 0) (Sy.rowAt ys j 1) (Sy.rowAt ys j 2) (Sy.rowAt ys j 3) (Sy.rowAt ys j 4) (Sy.rowAt ys j 5) (Sy.rowAt ys j 6) a b c d e f g := by
  have ej : ((j.toNat : Nat) : Int) = j := by omega
  unfold rw7
  rw [ej]; exact Iff.rfl
theorem K7_rj {ys : List (List Int)} {j : Int} (h0 : 0 ≤ j) (h : K7 (rw7 ys j.toNat)) : K7 [Sy.rowAt ys j 0, Sy.rowAt ys j 1, Sy.rowAt ys j 2, Sy.rowAt ys j 3, Sy.rowAt ys j 4, Sy.rowAt ys j 5, Sy.rowAt ys j 6] := by
  have ej : ((j.toNat : Nat) : Int) = j := by omega
  unfold rw7 at h
  rw [ej] at h; exact h
theorem NI_rj {b : Int} {ys : List (List Int)} {j : Int} (h0 : 0 ≤ j) (h : NI b [Sy.rowAt ys j 0, Sy.rowAt ys j 1, Sy.rowAt ys j 2, Sy.rowAt ys j 3, Sy.rowAt ys j 4, Sy.rowAt ys j 5, Sy.rowAt ys j 6]) : NI b (rw7 ys j.toNat) := by
  have ej : ((j.toNat : Nat) : Int) = j := by omega
  unfold rw7
  rw [ej]; exact h
theorem RI_K7 {ys : List (List Int)} (h : RI ys) (k : Nat) : K7 (rw7 ys k) := by
  obtain ⟨⟨a, _⟩, ⟨b, _⟩, ⟨c, _⟩, ⟨d, _⟩, ⟨e, _⟩, ⟨f, _⟩⟩ := h k
  exact h k
theorem nx_lt {j L : Int} (h0 : 0 ≤ j) (h1 : j < L) (h2 : L ≤ 1000000) : (j + 1 + 9223372036854775808) % 18446744073709551616 - 9223372036854775808 = j + 1 := by omega
theorem nx_nat {j L : Int} (h0 : 0 ≤ j) (h1 : j < L) (h2 : L ≤ 1000000) : ((j + 1 + 9223372036854775808) % 18446744073709551616 - 9223372036854775808).toNat = j.toNat + 1 := by omega
theorem st_all {Q : Nat → Prop} {j L : Int} (h0 : 0 ≤ j) (h1 : j < L) (h2 : L ≤ 1000000) (h : ∀ k : Nat, k < j.toNat → Q k) (q : Q j.toNat) : ∀ k : Nat, k < ((j + 1 + 9223372036854775808) % 18446744073709551616 - 9223372036854775808).toNat → Q k := by
  rw [nx_nat h0 h1 h2]
  intro k hk
  by_cases e : k = j.toNat
  · exact e ▸ q
  · exact h k (by omega)
theorem st_yes {Q : Nat → Prop} {j L : Int} (h0 : 0 ≤ j) (h1 : j < L) (h2 : L ≤ 1000000) (q : Q j.toNat) : True ↔ ∃ k : Nat, k < ((j + 1 + 9223372036854775808) % 18446744073709551616 - 9223372036854775808).toNat ∧ Q k := by
  rw [nx_nat h0 h1 h2]
  exact ⟨fun _ => ⟨_, by omega, q⟩, fun _ => trivial⟩
theorem st_no {p : Prop} {Q : Nat → Prop} {j L : Int} (h0 : 0 ≤ j) (h1 : j < L) (h2 : L ≤ 1000000) (h : p ↔ ∃ k : Nat, k < j.toNat ∧ Q k) (q : ¬ Q j.toNat) : p ↔ ∃ k : Nat, k < ((j + 1 + 9223372036854775808) % 18446744073709551616 - 9223372036854775808).toNat ∧ Q k := by
  rw [nx_nat h0 h1 h2, h]
  constructor
  · rintro ⟨k, hk, x⟩
    exact ⟨k, by omega, x⟩
  · rintro ⟨k, hk, x⟩
    by_cases e : k = j.toNat
    · exact absurd (e ▸ x) q
    · exact ⟨k, by omega, x⟩
theorem no_row {Q : Nat → Prop} : False ↔ ∃ k : Nat, k < Int.toNat 0 ∧ Q k := ⟨False.elim, fun ⟨k, h, _⟩ => absurd h (Nat.not_lt_zero _)⟩
/-! ### What a search has in the end -/
theorem mem_rw {L : List (List Int)} {k : Nat} (hk : k < L.length) : L.getD k [] ∈ L := by
  rw [List.getD_eq_getElem?_getD, List.getElem?_eq_getElem hk]
  exact List.getElem_mem hk
theorem K_row {t : ItT} (h : t.K) {k : Nat} (hk : k < t.ord.length) : K7 (rw7 t.ord k) := K7_rw.2 (ItT.K_ord h _ (mem_rw hk))
theorem OP_some {c : Bool} {a b : List Int} (h : OP c a = some b) : c = true ∧ a = b := by
  cases c
  · cases h
  · exact ⟨rfl, Option.some.inj h⟩
/-- None of the beginning's is due ahead of what is found. -/
theorem fe_min {b : Int} {t : ItT} (h : t.OK b) {P : List Int → Prop} [DecidablePred P] {c : Bool} {a : List Int} (e : OP c a = LM (t.ord.filter fun x => decide (P x))) {k : Nat} (hk : k < t.ord.length) (q : P (t.ord.getD k [])) : ¬ DUR (rw7 t.ord k) a := by
  have hm : t.ord.getD k [] ∈ t.ord.filter fun x => decide (P x) := List.mem_filter.2 ⟨mem_rw hk, decide_eq_true q⟩
  have hs : ∀ x ∈ t.ord.filter fun x => decide (P x), NI b x := fun x hx => h.ni x (List.mem_filter.1 hx).1
  obtain ⟨d, h1, _, _⟩ := LM_some (swo_DUR b) hs (List.ne_nil_of_mem hm)
  obtain ⟨_, rfl⟩ := OP_some (e.trans h1)
  rw [DUR_rw]
  exact LM_min (swo_DUR b) hs h1 _ hm
theorem fe_is {b : Int} {t : ItT} (h : t.OK b) {P : List Int → Prop} [DecidablePred P] {c : Bool} {a : List Int} (e : OP c a = LM (t.ord.filter fun x => decide (P x))) : c = true ↔ ∃ k : Nat, k < t.ord.length ∧ P (t.ord.getD k []) := by
  have hs : ∀ x ∈ t.ord.filter fun x => decide (P x), NI b x := fun x hx => h.ni x (List.mem_filter.1 hx).1
  constructor
  · intro hc
    cases hf : t.ord.filter fun x => decide (P x) with
    | nil => rw [hf, hc] at e; cases e
    | cons y l =>
      have : y ∈ t.ord.filter fun x => decide (P x) := by rw [hf]; simp
      obtain ⟨m, p⟩ := List.mem_filter.1 this
      obtain ⟨k, hk, rfl⟩ := List.mem_iff_getElem.1 m
      refine ⟨k, hk, ?_⟩
      rw [List.getD_eq_getElem?_getD, List.getElem?_eq_getElem hk]
      exact of_decide_eq_true p
  · rintro ⟨k, hk, q⟩
    have hm : t.ord.getD k [] ∈ t.ord.filter fun x => decide (P x) := List.mem_filter.2 ⟨mem_rw hk, decide_eq_true q⟩
    obtain ⟨d, h1, _, _⟩ := LM_some (swo_DUR b) hs (List.ne_nil_of_mem hm)
    exact (OP_some (e.trans h1)).1
theorem fe_in {b : Int} {t : ItT} (h : t.OK b) {P : List Int → Prop} [DecidablePred P] {c : Bool} {a : List Int} (e : OP c a = LM (t.ord.filter fun x => decide (P x))) (hc : c = true) (ha : a.length = 7) : P a ∧ ∃ k : Nat, k < t.ord.length ∧ rw7 t.ord k = a := by
  have hs : ∀ x ∈ t.ord.filter fun x => decide (P x), NI b x := fun x hx => h.ni x (List.mem_filter.1 hx).1
  obtain ⟨k, hk, q⟩ := (fe_is h e).1 hc
  have hm : t.ord.getD k [] ∈ t.ord.filter fun x => decide (P x) := List.mem_filter.2 ⟨mem_rw hk, decide_eq_true q⟩
  obtain ⟨d, h1, _, h2⟩ := LM_some (swo_DUR b) hs (List.ne_nil_of_mem hm)
  obtain ⟨_, rfl⟩ := OP_some (e.trans h1)
  obtain ⟨m, p⟩ := List.mem_filter.1 h2
  refine ⟨of_decide_eq_true p, ?_⟩
  obtain ⟨k, hk, e⟩ := List.mem_iff_getElem.1 m
  have ed : t.ord.getD k [] = a := by rw [List.getD_eq_getElem?_getD, List.getElem?_eq_getElem hk]; exact e
  exact ⟨k, hk, by rw [rw7_eq hk (by rw [ed]; exact ha), ed]⟩
/-! ### Shifted ones -/
theorem pc_sh (y t r w u q v : Int) : pcI ((t + y) % 18446744073709551616) r w ((u + y) % 18446744073709551616) q v = pcI t r w u q v := by
  have e : s64 ((u + y) % 18446744073709551616 - (t + y) % 18446744073709551616) = s64 (u - t) := by simp only [s64]; omega
  unfold pcI
  rw [e]
theorem AHR_sh (y : Int) (a b : List Int) : AHR (shI y a) (shI y b) ↔ AHR a b := by
  show AHI _ _ _ _ _ _ _ _ ↔ AHI _ _ _ _ _ _ _ _
  simp only [AHI, g7, shI, List.getD_cons_zero, List.getD_cons_succ, pc_sh]
theorem DUR_sh (y : Int) (a b : List Int) : DUR (shI y a) (shI y b) ↔ DUR a b := by
  show DUI _ _ _ _ _ _ _ _ _ _ _ _ _ _ ↔ DUI _ _ _ _ _ _ _ _ _ _ _ _ _ _
  simp only [DUI, AHI, g7, shI, List.getD_cons_zero, List.getD_cons_succ, pc_sh]
theorem JN_sh (y : Int) (a b : List Int) : JN (shI y a) (shI y b) = shI y (JN a b) := by
  unfold JN
  simp only [DUR_sh]
  split <;> rfl
theorem K7_sh (y : Int) {a : List Int} (h : K7 a) : K7 (shI y a) := by
  obtain ⟨_, b, c, _, e, f⟩ := h
  exact K7_mk.2 ⟨⟨by omega, by omega⟩, b, c, ⟨by omega, by omega⟩, e, f⟩
theorem NI_sh {b : Int} (y : Int) {a : List Int} (h : NI b a) : NI (b + y) (shI y a) := by
  obtain ⟨k, w1, w2, t1, t2⟩ := h
  have e1 : s64 ((g7 a 0 + y) % 18446744073709551616 - (b + y)) = s64 (g7 a 0 - b) := by simp only [s64]; omega
  have e2 : s64 ((g7 a 4 + y) % 18446744073709551616 - (b + y)) = s64 (g7 a 4 - b) := by simp only [s64]; omega
  refine ⟨K7_sh y k, w1, w2, ?_, ?_⟩
  · show _ < s64 ((g7 a 0 + y) % 18446744073709551616 - (b + y)) ∧ s64 ((g7 a 0 + y) % 18446744073709551616 - (b + y)) < _
    rw [e1]; exact t1
  · show _ < s64 ((g7 a 4 + y) % 18446744073709551616 - (b + y)) ∧ s64 ((g7 a 4 + y) % 18446744073709551616 - (b + y)) < _
    rw [e2]; exact t2
theorem foldl_sh (y : Int) : ∀ (l : List (List Int)) (o : Option (List Int)), (l.map (shI y)).foldl addO (o.map (shI y)) = (l.foldl addO o).map (shI y)
  | [], o => rfl
  | x :: l, o => by
    rw [List.map_cons, List.foldl_cons, List.foldl_cons, ← foldl_sh y l]
    congr 1
    cases o with
    | none => rfl
    | some a => exact congrArg some (JN_sh y a x)
theorem LM_sh (y : Int) (l : List (List Int)) : LM (l.map (shI y)) = (LM l).map (shI y) := foldl_sh y l none
theorem filter_sh (y : Int) (e : List Int) : ∀ l : List (List Int), (l.map (shI y)).filter (fun x => decide (AHR x (shI y e))) = (l.filter fun x => decide (AHR x e)).map (shI y)
  | [] => rfl
  | x :: l => by
    simp only [List.map_cons, List.filter_cons, AHR_sh, filter_sh y e l]
    split <;> rfl
namespace ItT
/-- What stands behind all others comes behind them. -/
theorem ins_end {b : Int} {x : List Int} (hx : NI b x) : ∀ {t : ItT}, (∀ y ∈ t.ord, NI b y) → (∀ y ∈ t.ord, AHR y x) → (ins x t).ord = t.ord ++ [x] ∧ t.has x = false
  | E, _, _ => ⟨rfl, rfl⟩
  | N i a c l r, hS, h => by
    have si : NI b i := hS i (by simp [ord])
    have hi : AHR i x := h i (by simp [ord])
    have hn : ¬ AHR x i := (swo_AHR b).asymm si hx hi
    obtain ⟨e1, e2⟩ := ins_end hx (t := r) (fun y hy => hS y (by simp [ord, hy])) (fun y hy => h y (by simp [ord, hy]))
    constructor
    · unfold ins
      rw [if_neg hn, ord_mend]
      simp only [ord, e1, List.append_assoc, List.cons_append]
    · unfold has
      rw [if_neg hn, if_pos hi, e2]
theorem ord_put_end {b : Int} {x : List Int} (hx : NI b x) {t : ItT} (hS : ∀ y ∈ t.ord, NI b y) (h : ∀ y ∈ t.ord, AHR y x) : (put x t).ord = t.ord ++ [x] := by
  obtain ⟨e1, e2⟩ := ins_end hx hS h
  unfold put
  rw [e2, if_neg (by decide), ord_black, e1]
theorem ord_putL {b : Int} : ∀ (L : List (List Int)) {t : ItT}, (∀ y ∈ t.ord ++ L, NI b y) → (t.ord ++ L).Pairwise AHR → (putL L t).ord = t.ord ++ L
  | [], t, _, _ => by simp [putL]
  | x :: L, t, hS, hp => by
    have h1 : ∀ y ∈ t.ord, AHR y x := fun y hy => (List.pairwise_append.1 hp).2.2 y hy x (by simp)
    have e := ord_put_end (hS x (by simp)) (fun y hy => hS y (by simp [hy])) h1
    have e2 : t.ord ++ x :: L = (t.put x).ord ++ L := by rw [e]; simp
    have := ord_putL L (t := t.put x) (by rw [← e2]; exact hS) (by rw [← e2]; exact hp)
    rw [e2]; exact this
end ItT
/-- A tree that was shifted: it is in order, and has the same, shifted. -/
theorem OK_sh {b : Int} (y : Int) {t u : ItT} (h : t.OK b) (e : u = putL (t.ord.map (shI y)) .E) : u.OK (b + y) ∧ u.ord = t.ord.map (shI y) := by
  have hn : ∀ x ∈ t.ord.map (shI y), NI (b + y) x := by
    intro x hx
    obtain ⟨z, hz, rfl⟩ := List.mem_map.1 hx
    exact NI_sh y (h.ni z hz)
  have hp : (t.ord.map (shI y)).Pairwise AHR := by
    rw [List.pairwise_map]
    exact List.Pairwise.imp (fun q => (AHR_sh y _ _).2 q) h.so
  subst e
  exact ⟨OK_putL _ (ItT.OK_E _) hn, ItT.ord_putL _ (t := .E) hn hp⟩
/-- What is found in it. -/
theorem fe_sh {b : Int} (y : Int) {t u : ItT} (h : t.OK b) (e : u = putL (t.ord.map (shI y)) .E) {x : List Int} (hx : NI b x) : u.foldP (fun z => AHR z (shI y x)) none = (t.foldP (fun z => AHR z x) none).map (shI y) := by
  obtain ⟨h1, h2⟩ := OK_sh y h e
  rw [fold_end h1 (NI_sh y hx), fold_end h hx, h2, filter_sh, LM_sh]
end Go.Proofs.Ytkepkjahbcddlaa.Fn
