/- seventh part: regions, in whatever order. -/
import Derived.Test.YtkepkjahbcddlaaSyObj
namespace Go.Proofs.Ytkepkjahbcddlaa.Sy
open Go Go.RowKit
set_option linter.unusedVariables false
set_option linter.unusedSimpArgs false
set_option linter.unusedSectionVars false
variable [Kinds]
/-! ### Regions -/
/-- Whether another operation hangs on what this one yields. -/
def isGuard (ops : Array Oper) (i : Nat) : Bool := ops.toList.any fun o => match o.guard with
  | some (j, _) => Nat.beq j i
  | none => false
/-- A truth that something hangs on is told both ways. -/
def conc (g : Bool) (r : TV × List Fact) : List (TV × List Fact) := bif g then match r.1 with
    | .p (.v (.bx x)) => (both r.2 x).map fun p => (av (.bool p.1), p.2)
    | _ => [r]
  else [r]
theorem conc_spec {T : Tab} {E : Env} {h : H} (g : Bool) {r : TV × List Fact} (hv : bdT h r.1 = true) (hb : bdQ h r.2 = true) (hp : PC T E r.2) : ∃ r' ∈ conc g r, ct E r'.1 = ct E r.1 ∧ bdT h r'.1 = true ∧ bdQ h r'.2 = true ∧ PC T E r'.2 := by
  unfold conc
  cases g with
  | false => exact ⟨r, by simp, rfl, hv, hb, hp⟩
  | true =>
    rw [cond_true]
    split
    · rename_i x hx
      obtain ⟨v, q⟩ := r
      simp only at hx hb hp hv
      subst hx
      obtain ⟨q', h1, h2, h3⟩ := both_spec hp hb (x := x) hv
      exact ⟨_, List.mem_map.2 ⟨_, h1, rfl⟩, rfl, rfl, h3, h2⟩
    · exact ⟨r, by simp, rfl, hv, hb, hp⟩
def yieldT (ops : Array Oper) (t : List TV) (j : Nat) : Option (Option Bool) :=
  match ((ops[j]?).bind (·.dst)).bind (t[·]?) with
  | some (.p (.v (.val (.bool b)))) => some (some b)
  | some (.p (.v (.bx _))) => none
  | some (.p (.v (.any _ _))) => none
  | _ => some none
theorem yield_eq {T : Tab} {ops : Array Oper} {E : Env} {t : List TV} {h : H} {q : List Fact} {B : Bd} {a : Act} {w : World} (k : Ok T E t h q B a w) {j : Nat} {y : Option Bool} (hy : yieldT ops t j = some y) : yielded ops a.tmps j = y := by
  unfold yieldT at hy
  unfold yielded
  cases hd : (ops[j]?).bind (·.dst) with
  | none =>
    rw [hd] at hy
    simp only [Option.bind_none, Option.some.injEq] at hy
    subst hy; rfl
  | some d =>
    rw [hd] at hy
    simp only [Option.bind_some, k.tmps, List.getElem?_toArray, List.getElem?_map] at hy ⊢
    cases ht : t[d]? with
    | none =>
      rw [ht] at hy
      simp only [Option.some.injEq] at hy
      subst hy; rfl
    | some v =>
      rw [ht] at hy
      simp only [Option.map_some]
      cases v with
      | p x => cases x with
        | v y => cases y with
          | val u => cases u <;> (simp only [Option.some.injEq] at hy; subst hy; rfl)
          | bx x => cases hy
          | any b j => cases hy
          | _ => simp only [Option.some.injEq] at hy; subst hy; rfl
        | agg l => simp only [Option.some.injEq] at hy; subst hy; rfl
      | tup l => simp only [Option.some.injEq] at hy; subst hy; rfl
def wantT (ops : Array Oper) (t : List TV) (o : Oper) : Option Bool := match o.guard with
  | none => some true
  | some (j, want) => match yieldT ops t j with
    | some (some b) => some (beqB b want)
    | some none => some false
    | none => none
theorem want_eq {T : Tab} {ops : Array Oper} {E : Env} {t : List TV} {h : H} {q : List Fact} {B : Bd} {a : Act} {w : World} (k : Ok T E t h q B a w) {o : Oper} {b : Bool} (hb : wantT ops t o = some b) : Region.wanted o (yielded ops a.tmps) = b := by
  unfold wantT at hb
  unfold Region.wanted
  split at hb
  · rename_i hg
    rw [hg]; exact Option.some.inj hb
  · rename_i j want hg
    rw [hg]
    simp only
    split at hb
    · rename_i y hy
      rw [yield_eq k hy, ← Option.some.inj hb]
      cases y <;> cases want <;> rfl
    · rename_i hy
      rw [yield_eq k hy, ← Option.some.inj hb]
      rfl
    · cases hb
def stepOn (P : Program) (call : CallF) (ops : Array Oper) (id : Nat) (s : St) (i : Nat) (o : Oper) : Option (Res St) :=
  match eStep P call s.t s.h s.q id o with
  | some R => some ⟨R.ok.flatMap fun r => (conc (isGuard ops i) (r.v, r.q)).map fun p => ⟨putT (resS o r.h s.t).1 o.dst p.1, (resS o r.h s.t).2, p.2, s.n⟩, R.bad⟩
  | none => match eOwn P s.t s.h s.q id o with
    | some R => some ⟨R.ok.map fun r => ⟨putT (subTs r.s s.t) o.dst r.v, r.h, r.q, s.n⟩, R.bad⟩
    | none => none
def stepAt (P : Program) (call : CallF) (ops : Array Oper) (id : Nat) (s : St) (i : Nat) : Option (Res St) :=
  match ops[i]? with
  | none => some (.one s)
  | some o => match wantT ops s.t o with
    | some true => match stepOn P call ops id (openFor o id s) i o with
      | some R => some R
      | none => match openCall o id s with
        | some s' => stepOn P call ops id s' i o
        | none => none
    | some false => some (.one ⟨putT s.t o.dst uv, s.h, s.q, s.n⟩)
    | none => none
/-- A state, as it is meant: behind E0, h0, w0. -/
def Rel (T : Tab) (B : Bd) (E0 : Env) (h0 : H) (w0 : World) (s : St) (a : Act) (w : World) : Prop := ∃ E, Ok T E s.t s.h s.q B a w ∧ Step E0 h0 B w0 E s.h w
section
variable {P : Program} {T : Tab} {B : Bd} {call : CallF} (hcall : CallS P T B call) {E0 : Env} {h0 : H} {w0 : World}
include hcall
theorem stepOn_wp {ops : Array Oper} {id : Nat} {s : St} {i : Nat} {o : Oper} {R : Res St} (hR : stepOn P call ops id s i o = some R) (nb : NB T E0 h0 R.bad) {a : Act} {w : World} (k : ∃ E, Ok T E s.t s.h s.q B a w ∧ Step E0 h0 B w0 E s.h w) {K : Act → World → Prop} {Q : Exit → Act → World → Prop}
    (hk : ∀ s' ∈ R.ok, ∀ a w, Rel T B E0 h0 w0 s' a w → K a w) : o.wp P a w K Q ∨ (o.asks P a w ∧ LetsOut Q) := by
  obtain ⟨E, k, st⟩ := k
  unfold stepOn at hR
  split at hR
  · rename_i R' hR'
    obtain rfl := Option.some.inj hR
    refine .inl (eStep_wp hcall hR' k (nb.sub st.ag st.sub fun _ h => h) fun r hr E' w' s' b b1 b2 => ?_)
    obtain ⟨p, hp, e, c1, c2, c3⟩ := conc_spec (E := E') (isGuard ops i) (r := (r.v, r.q)) b b1 b2
    simp only at e
    rw [← e]
    have rs := resS_ok s'.hr o (t := s.t) (fun x hx => bdT_sub s'.sub (k.bd x hx))
    have k1 : Ok T E' (resS o r.h s.t).1 (resS o r.h s.t).2 p.2 B a w' := ⟨by rw [k.tmps, rs.1, cts_ag s'.ag k.bd], k.defs, rs.2.1, rs.2.2.hr, bdQ_sub rs.2.2.sub c2, c3⟩
    exact hk _ (List.mem_flatMap.2 ⟨r, hr, List.mem_map.2 ⟨p, hp, rfl⟩⟩) _ _ ⟨E', k1.put (Step.refl k1.hr) o.dst (bdT_sub rs.2.2.sub c1) (bdQ_sub rs.2.2.sub c2) c3, (st.trans s').trans rs.2.2⟩
  · split at hR
    · rename_i R' hR'
      obtain rfl := Option.some.inj hR
      obtain ⟨r, hr, E', w', res, hrun, hres, s', b, b1, b2, so⟩ := eOwn_does k hR' (nb.sub st.ag st.sub fun _ h => h)
      have k1 : Ok T E' (subTs r.s s.t) r.h r.q B a w' := ⟨by rw [k.tmps, subTs_eq so, cts_ag s'.ag k.bd], k.defs, subTs_bd so (fun x hx => bdT_sub s'.sub (k.bd x hx)), s'.hr, b1, b2⟩
      have k2 := k1.put (Step.refl k1.hr) o.dst b b1 b2
      refine .inl ?_
      unfold Oper.wp
      rw [hrun]
      have fin := hk _ (List.mem_map.2 ⟨r, hr, rfl⟩) _ _ ⟨E', k2, st.trans s'⟩
      rcases hres with rfl | ⟨rfl, hu⟩
      · exact fin
      · rw [hu, ct_uv] at fin
        exact fin
    · cases hR
theorem stepAt_wp {ops : Array Oper} {id : Nat} {s : St} {i : Nat} {R : Res St} (hR : stepAt P call ops id s i = some R) (nb : NB T E0 h0 R.bad) {a : Act} {w : World} (k : Rel T B E0 h0 w0 s a w) {K : Act → World → Prop} {Q : Exit → Act → World → Prop}
    (hk : ∀ s' ∈ R.ok, ∀ a w, Rel T B E0 h0 w0 s' a w → K a w) : wpOp P ops Q i K a w := by
  obtain ⟨E, k, st⟩ := k
  unfold stepAt at hR
  unfold wpOp
  split at hR
  · rename_i hi
    rw [hi]
    obtain rfl := Option.some.inj hR
    exact hk s (by simp [Res.one]) a w ⟨E, k, st⟩
  · rename_i o hi
    rw [hi]
    simp only
    split at hR
    · rename_i hw
      rw [if_pos (want_eq k hw)]
      split at hR
      · rename_i R' hR'
        obtain rfl := Option.some.inj hR
        exact stepOn_wp hcall hR' nb (openFor_ok o id ⟨E, k, st⟩) hk
      · split at hR
        · rename_i s' hs'
          exact stepOn_wp hcall hR nb (openCall_ok hs' ⟨E, k, st⟩) hk
        · cases hR
    · rename_i hw
      rw [if_neg (by rw [want_eq k hw]; simp)]
      obtain rfl := Option.some.inj hR
      have := k.put (Step.refl k.hr) o.dst (v := uv) rfl k.qb k.qd
      rw [ct_uv] at this
      exact hk ⟨putT s.t o.dst uv, s.h, s.q, s.n⟩ (List.mem_singleton.2 rfl) _ _ ⟨E, this, st⟩
    · cases hR
end
/-- Set as told: one behind the other. -/
def evalOps (P : Program) (call : CallF) (ops : Array Oper) : List Nat → St → Option (Res St)
  | [], s => some (.one s)
  | i :: r, s => thenR (stepAt P call ops s.n ⟨s.t, s.h, s.q, s.n + 1⟩ i) (evalOps P call ops r)
theorem evalOps_wp {P : Program} {T : Tab} {B : Bd} {call : CallF} (hcall : CallS P T B call) {E0 : Env} {h0 : H} {w0 : World} {ops : Array Oper} {Q : Exit → Act → World → Prop} : ∀ (l : List Nat) (s : St) (R : Res St), evalOps P call ops l s = some R → NB T E0 h0 R.bad → ∀ a w, Rel T B E0 h0 w0 s a w →
    (∀ s' ∈ R.ok, ∀ a w, Rel T B E0 h0 w0 s' a w → Q .normal a w) → wpOps P ops Q l a w
  | [], s, R, hR, nb, a, w, k, hq => by
    simp only [evalOps, Option.some.injEq] at hR
    subst hR
    exact hq s (by simp [Res.one]) a w k
  | i :: r, s, R, hR, nb, a, w, k, hq => by
    simp only [evalOps] at hR
    obtain ⟨R1, h1, h2, h3⟩ := thenR_some hR
    rw [wpOps_cons]
    refine stepAt_wp hcall (E0 := E0) (h0 := h0) (w0 := w0) h1 (nb.sub (Ag.refl _ _) (Sub.refl _) h2) (by obtain ⟨E, k, st⟩ := k; exact ⟨E, ⟨k.tmps, k.defs, k.bd, k.hr, k.qb, k.qd⟩, st⟩) fun s' hs a' w' k' => ?_
    obtain ⟨R2, h4, h5, h6⟩ := h3 s' hs
    exact evalOps_wp hcall r s' R2 h4 (nb.sub (Ag.refl _ _) (Sub.refl _) h6) a' w' k' fun s2 hs2 => hq s2 (h5 s2 hs2)
/-! ### In whatever order -/
/-- What yields in whatever world. -/
def eW (P : Program) (t : List TV) (h : H) (q : List Fact) (o : Oper) : Option PR :=
  match o.op with
  | .move x | .assign x => (opd t x).map fun v => .one (v, q)
  | .nilCheck x => match opd t x with
    | some (.p (.v (.ptr b k))) => some (.one (.p (.v (.ptr b k)), q))
    | _ => eSym P t h q o
  | .fieldAddr s x f => match opd t x with
    | some (.p (.v (.ptr b k))) => (eField P s b k f).map fun v => .one (v, q)
    | _ => eSym P t h q o
  | .extract x i => match opd t x with
    | some (.tup l) => match l[i]? with
      | some p => some (.one (.p p, q))
      | none => none
    | _ => match ePure P t o with
      | some (.value v) => some (.one (av v, q))
      | _ => none
  | .build ty parts => match eBuild P t ty parts with
    | some v => some (.one (v, q))
    | none => none
  | .load .. | .store .. | .alloc .. | .box .. | .buildSlice .. => none
  | .call ⟨.value _, _, _⟩ => none
  | _ => match ePure P t o with
    | some (.value v) => some (.one (av v, q))
    | _ => eSym P t h q o
theorem eW_run {P : Program} {T : Tab} {E : Env} {t : List TV} {h : H} {q : List Fact} {B : Bd} {a : Act} {w : World} (k : Ok T E t h q B a w) {o : Oper} {R : PR} (hR : eW P t h q o = some R) : PurO P T E h a o R := by
  obtain ⟨dst, op, ty0, pos, after, guard⟩ := o
  have one : ∀ {v : TV}, some (Res.one (v, q)) = some R → (∀ w', (execOp a.eval ⟨dst, op, ty0, pos, after, guard⟩).run P w' = .ok (.value (ct E v)) w') → bdT h v = true → PurO P T E h a ⟨dst, op, ty0, pos, after, guard⟩ R := by
    intro v e h1 h2
    obtain rfl := Option.some.inj e
    exact .one h1 h2 k.qb k.qd
  unfold eW at hR
  simp only at hR
  split at hR
  · obtain ⟨v, hv, e⟩ := Option.map_eq_some_iff.1 hR
    exact one (congrArg some e) (fun w' => by simp [execOp, k.eval hv]) (k.bdo hv)
  · obtain ⟨v, hv, e⟩ := Option.map_eq_some_iff.1 hR
    exact one (congrArg some e) (fun w' => by simp [execOp, k.eval hv]) (k.bdo hv)
  · split at hR
    · rename_i b kk hx
      exact one hR (fun w' => by simp [execOp, k.eval hx, ct, cp, cv]) (k.bdo hx)
    · exact eSym_ok k hR
  · split at hR
    · rename_i b kk hx
      obtain ⟨v, hv, e⟩ := Option.map_eq_some_iff.1 hR
      have ex := k.eval hx
      simp only [ct, cp, cv] at ex
      have hk := (eField_run (E := E) hv w).2
      obtain ⟨k', rfl⟩ := hk
      exact one (congrArg some e) (fun w' => by simp only [execOp, ex, Sem.run_bind, (eField_run (E := E) hv w').1, Result.andThen_ok, Sem.run_pure]) (show has h b = true from k.bdo hx)
    · exact eSym_ok k hR
  · -- extract
    rename_i x i
    split at hR
    · rename_i l hx
      split at hR
      · rename_i p hp
        have hb := k.bdo hx
        simp only [bdT, List.all_eq_true] at hb
        have ex := k.eval hx
        simp only [ct] at ex
        exact one hR (fun w' => by simp [execOp, ex, Instr.extract, hp, ct]) (hb p (List.mem_of_getElem? hp))
      · cases hR
    · split at hR
      · rename_i v hp
        exact one hR (fun w' => ePure_run k hp w') rfl
      · cases hR
  · -- build
    rename_i ty parts
    split at hR
    · rename_i v hv
      exact one hR (fun w' => by simp only [execOp, Sem.run_bind, (eBuild_run k hv w').1, Result.andThen_ok, Sem.run_pure]) (eBuild_run k hv w).2
    · cases hR
  all_goals first
    | (cases hR; done)
    | (split at hR
       · rename_i u hp
         exact one hR (fun w' => ePure_run k hp w') rfl
       · exact eSym_ok k hR)
/-! #### Which have come up, as bits -/
def lst (n m : Nat) : Array Bool := ((List.range n).map fun j => m.testBit j).toArray
theorem lst_getD {n m i : Nat} (d : Bool) (h : i < n) : (lst n m).getD i d = m.testBit i := by simp [lst, h]
theorem lst_set {n m i : Nat} (h : i < n) : (lst n m).setIfInBounds i true = lst n (m ||| 2 ^ i) := by
  apply Array.ext'
  apply List.ext_getElem?
  intro j
  simp only [lst, List.setIfInBounds_toArray, List.getElem?_set, List.length_map, List.length_range]
  by_cases hj : i = j
  · subst hj
    simp [h, Nat.testBit_or, Nat.testBit_two_pow_self]
  · rw [if_neg hj]
    by_cases hjn : j < n
    · simp [hjn, Nat.testBit_or, Nat.testBit_two_pow_of_ne hj]
    · simp [hjn]
theorem lst_zero (n : Nat) : lst n 0 = Array.replicate n false := by
  apply Array.ext'
  apply List.ext_getElem?
  intro j
  by_cases hj : j < n <;> simp [lst, hj, List.getElem?_replicate]
def wMask (o : Oper) : Nat := o.after.toList.foldr (fun e m => if Region.binds .any e then m ||| 2 ^ e.on else m) 0
def wm (ops : Array Oper) : List Nat := ops.toList.map wMask
def readyB (ops : Array Oper) (m i : Nat) : Bool := !(m.testBit i) && (let w := (wm ops).getD i 0; Nat.beq (w &&& m) w)
def readyM (ops : Array Oper) (m : Nat) : List Nat := (List.range ops.size).filter (readyB ops m)
/-- The temporaries that an operation looks at; the one that it lays. -/
def lMask (ops : Array Oper) (o : Oper) : Nat := (o.looksAt ops).foldr (fun d m => m ||| 2 ^ d) 0
def dMask (o : Oper) : Nat := match o.dst with | some d => 2 ^ d | none => 0
def lms (ops : Array Oper) : List (Nat × Nat × Nat) := ops.toList.map fun o => (lMask ops o, dMask o, wMask o)
def apartM (x y : Nat × Nat × Nat) : Bool := Nat.beq (x.2.1 &&& (y.1 ||| y.2.1)) 0 && Nat.beq (y.2.1 &&& x.1) 0
def tidyR (i : Nat) (x : Nat × Nat × Nat) : Nat → List (Nat × Nat × Nat) → Bool
  | _, [] => true
  | j, y :: r => (Nat.beq j i || apartM x y || y.2.2.testBit i || x.2.2.testBit j) && tidyR i x (j + 1) r
def tidyL (all : List (Nat × Nat × Nat)) : Nat → List (Nat × Nat × Nat) → Bool
  | _, [] => true
  | i, x :: r => tidyR i x 0 all && tidyL all (i + 1) r
/-- Every two are apart, or one waits for the other; nobody waits for one that isn't there. -/
def tidy (ops : Array Oper) : Bool :=
  ops.toList.all (fun o => o.after.toList.all fun e => Nat.blt e.on ops.size) && tidyL (lms ops) 0 (lms ops)
theorem wMask_bit (o : Oper) (j : Nat) : (wMask o).testBit j = true ↔ ∃ e ∈ o.after, Region.binds .any e = true ∧ e.on = j := by
  unfold wMask
  rw [show (∃ e ∈ o.after, Region.binds .any e = true ∧ e.on = j) ↔ ∃ e ∈ o.after.toList, Region.binds .any e = true ∧ e.on = j by simp]
  generalize o.after.toList = l
  induction l with
  | nil => simp
  | cons e r ih =>
    rw [List.foldr_cons]
    split
    · rename_i hb
      rw [Nat.testBit_or, Bool.or_eq_true, ih]
      constructor
      · rintro (⟨e', h1, h2⟩ | h)
        · exact ⟨e', List.mem_cons_of_mem _ h1, h2⟩
        · refine ⟨e, List.mem_cons_self, hb, ?_⟩
          rw [Nat.testBit_two_pow] at h
          simpa using h
      · rintro ⟨e', h1, h2, h3⟩
        rcases List.mem_cons.1 h1 with rfl | h1
        · right; rw [h3, Nat.testBit_two_pow_self]
        · exact .inl ⟨e', h1, h2, h3⟩
    · rename_i hb
      rw [ih]
      constructor
      · rintro ⟨e', h1, h2⟩; exact ⟨e', List.mem_cons_of_mem _ h1, h2⟩
      · rintro ⟨e', h1, h2⟩
        rcases List.mem_cons.1 h1 with rfl | h1
        · exact absurd h2.1 hb
        · exact ⟨e', h1, h2⟩
theorem lMask_bit (ops : Array Oper) (o : Oper) {d : Nat} (h : d ∈ o.looksAt ops) : (lMask ops o).testBit d = true := by
  unfold lMask
  generalize o.looksAt ops = l at h ⊢
  induction l with
  | nil => simp at h
  | cons e r ih =>
    rw [List.foldr_cons, Nat.testBit_or, Bool.or_eq_true]
    rcases List.mem_cons.1 h with rfl | h
    · right; rw [Nat.testBit_two_pow_self]
    · exact .inl (ih h)
theorem and_zero_bit {a b d : Nat} (h : a &&& b = 0) (ha : a.testBit d = true) : b.testBit d = false := by
  have : (a &&& b).testBit d = false := by rw [h]; exact Nat.zero_testBit d
  rw [Nat.testBit_and, ha, Bool.true_and] at this
  exact this
theorem apartM_of {ops : Array Oper} {x y : Oper} (h : apartM (lMask ops x, dMask x, wMask x) (lMask ops y, dMask y, wMask y) = true) : x.apart ops y = true := by
  unfold apartM at h
  simp only [Bool.and_eq_true, Nat.beq_eq] at h
  obtain ⟨h1, h2⟩ := h
  unfold Oper.apart
  rw [Bool.and_eq_true]
  constructor
  · cases hd : x.dst with
    | none => rfl
    | some d =>
      simp only [dMask, hd] at h1
      have hb := and_zero_bit h1 (d := d) Nat.testBit_two_pow_self
      rw [Nat.testBit_or, Bool.or_eq_false_iff] at hb
      simp only [Bool.and_eq_true]
      constructor
      · simp only [Bool.not_eq_true', List.contains_eq_mem, decide_eq_false_iff_not]
        intro hm
        rw [lMask_bit ops y hm] at hb
        exact absurd hb.1 (by simp)
      · cases hy : y.dst with
        | none => rfl
        | some d' =>
          simp only [bne_iff_ne, ne_eq, Option.some.injEq]
          rintro rfl
          simp only [hy, Nat.testBit_two_pow_self] at hb
          exact absurd hb.2 (by simp)
  · cases hd : y.dst with
    | none => rfl
    | some d =>
      simp only [dMask, hd] at h2
      have hb := and_zero_bit h2 (d := d) Nat.testBit_two_pow_self
      simp only [Bool.not_eq_true', List.contains_eq_mem, decide_eq_false_iff_not]
      intro hm
      rw [lMask_bit ops x hm] at hb
      exact absurd hb (by simp)
theorem tidyR_at {i : Nat} {x : Nat × Nat × Nat} : ∀ {l : List (Nat × Nat × Nat)} {s : Nat}, tidyR i x s l = true → ∀ j y, l[j]? = some y → (Nat.beq (s + j) i || apartM x y || y.2.2.testBit i || x.2.2.testBit (s + j)) = true
  | [], s, h, j, y, hy => by simp at hy
  | z :: r, s, h, 0, y, hy => by
    simp only [tidyR, Bool.and_eq_true] at h
    simp only [List.getElem?_cons_zero, Option.some.injEq] at hy
    subst hy
    exact h.1
  | z :: r, s, h, j + 1, y, hy => by
    simp only [tidyR, Bool.and_eq_true] at h
    have := tidyR_at h.2 j y (by simpa using hy)
    rwa [show s + (j + 1) = s + 1 + j by omega]
theorem tidyL_at {all : List (Nat × Nat × Nat)} : ∀ {l : List (Nat × Nat × Nat)} {s : Nat}, tidyL all s l = true → ∀ j y, l[j]? = some y → tidyR (s + j) y 0 all = true
  | [], s, h, j, y, hy => by simp at hy
  | z :: r, s, h, 0, y, hy => by
    simp only [tidyL, Bool.and_eq_true] at h
    simp only [List.getElem?_cons_zero, Option.some.injEq] at hy
    subst hy
    exact h.1
  | z :: r, s, h, j + 1, y, hy => by
    simp only [tidyL, Bool.and_eq_true] at h
    have := tidyL_at h.2 j y (by simpa using hy)
    rwa [show s + (j + 1) = s + 1 + j by omega]
theorem tidy_at {ops : Array Oper} (ht : tidy ops = true) {i j : Nat} {oi oj : Oper} (hi : ops[i]? = some oi) (hj : ops[j]? = some oj) :
    j = i ∨ oi.apart ops oj = true ∨ (∃ e ∈ oj.after, Region.binds .any e = true ∧ e.on = i) ∨ ∃ e ∈ oi.after, Region.binds .any e = true ∧ e.on = j := by
  unfold tidy at ht
  rw [Bool.and_eq_true] at ht
  have at_ : ∀ {i : Nat} {o : Oper}, ops[i]? = some o → (lms ops)[i]? = some (lMask ops o, dMask o, wMask o) := by
    intro i o h
    simp [lms, h]
  have h1 := tidyR_at (tidyL_at ht.2 i _ (at_ hi)) j _ (at_ hj)
  rw [Nat.zero_add, Nat.zero_add, Bool.or_eq_true, Bool.or_eq_true, Bool.or_eq_true, Nat.beq_eq] at h1
  rcases h1 with ((h1 | h1) | h1) | h1
  · exact .inl h1
  · exact .inr (.inl (apartM_of h1))
  · exact .inr (.inr (.inl ((wMask_bit oj i).1 h1)))
  · exact .inr (.inr (.inr ((wMask_bit oi j).1 h1)))
theorem mask_all (l : List Edge) (m : Nat) (f : Edge → Bool) (hf : ∀ e ∈ l, f e = m.testBit e.on) : (l.all fun e => !Region.binds .any e || f e) = Nat.beq ((l.foldr (fun e m => if Region.binds .any e then m ||| 2 ^ e.on else m) 0) &&& m) (l.foldr (fun e m => if Region.binds .any e then m ||| 2 ^ e.on else m) 0) := by
  rw [Bool.eq_iff_iff, Nat.beq_eq, List.all_eq_true]
  have key : ∀ j, (l.foldr (fun e m => if Region.binds .any e then m ||| 2 ^ e.on else m) 0).testBit j = true ↔ ∃ e ∈ l, Region.binds .any e = true ∧ e.on = j := by
    clear hf
    intro j
    induction l with
    | nil => simp
    | cons e r ih =>
      rw [List.foldr_cons]
      split
      · rename_i hb
        rw [Nat.testBit_or, Bool.or_eq_true, ih]
        constructor
        · rintro (⟨e', h1, h2⟩ | h)
          · exact ⟨e', List.mem_cons_of_mem _ h1, h2⟩
          · refine ⟨e, List.mem_cons_self, hb, ?_⟩
            rw [Nat.testBit_two_pow] at h
            simpa using h
        · rintro ⟨e', h1, h2, h3⟩
          rcases List.mem_cons.1 h1 with rfl | h1
          · right; rw [h3, Nat.testBit_two_pow_self]
          · exact .inl ⟨e', h1, h2, h3⟩
      · rename_i hb
        rw [ih]
        constructor
        · rintro ⟨e', h1, h2⟩; exact ⟨e', List.mem_cons_of_mem _ h1, h2⟩
        · rintro ⟨e', h1, h2⟩
          rcases List.mem_cons.1 h1 with rfl | h1
          · exact absurd h2.1 hb
          · exact ⟨e', h1, h2⟩
  constructor
  · intro h
    apply Nat.eq_of_testBit_eq
    intro j
    rw [Nat.testBit_and]
    cases hj : (l.foldr (fun e m => if Region.binds .any e then m ||| 2 ^ e.on else m) 0).testBit j with
    | false => rfl
    | true =>
      obtain ⟨e, he, hb, rfl⟩ := (key j).1 hj
      have := h e he
      rw [hf e he] at this
      simpa [hb] using this
  · intro h e he
    cases hb : Region.binds .any e with
    | false => rfl
    | true =>
      rw [hf e he]
      have hj := (key e.on).2 ⟨e, he, hb, rfl⟩
      rw [← h, Nat.testBit_and, Bool.and_eq_true] at hj
      rw [hj.2]; rfl
theorem ready_eq {ops : Array Oper} (ht : tidy ops = true) (m : Nat) : Region.ready .any ops (lst ops.size m) = readyM ops m := by
  unfold Region.ready readyM
  apply List.filter_congr
  intro i hi
  rw [List.mem_range] at hi
  have ho : ops[i]? = some ops[i] := Array.getElem?_eq_getElem hi
  unfold tidy at ht
  rw [Bool.and_eq_true, List.all_eq_true] at ht
  have h1 := List.all_eq_true.1 (ht.1 ops[i] (by simp))
  have h1 : ∀ e ∈ ops[i].after.toList, e.on < ops.size := fun e he => by simpa [Nat.blt_eq] using h1 e he
  rw [lst_getD true hi, ho]
  simp only [Option.map_some, Option.getD_some, readyB]
  congr 1
  have hw : (wm ops).getD i 0 = wMask ops[i] := by simp [wm, List.getD_eq_getElem?_getD, hi]
  rw [hw, ← Array.all_toList]
  exact mask_all _ _ _ fun e he => lst_getD false (h1 e he)
theorem free_of {ops : Array Oper} (ht : tidy ops = true) {m i : Nat} (hr : i ∈ readyM ops m) : Region.free .any ops (lst ops.size m) i = true := by
  rw [← ready_eq ht] at hr
  obtain ⟨h0, oi, hoi, hall⟩ := mem_ready.1 hr
  unfold Region.free
  rw [hoi]
  simp only [List.all_eq_true]
  intro j hj
  have hj' : j < ops.size := List.mem_range.1 hj
  have hoj : ops[j]? = some ops[j] := Array.getElem?_eq_getElem hj'
  rw [hoj]
  simp only [Bool.or_eq_true]
  rcases tidy_at ht hoi hoj with h3 | h3 | ⟨e, he, hb, hon⟩ | ⟨e, he, hb, hon⟩
  · left; left; simpa using h3
  · exact .inr (.inr h3)
  · right; left
    exact Array.any_eq_true'.2 ⟨e, he, by simp [hb, hon]⟩
  · have := hall e he hb
    rw [hon, lst_getD _ hj'] at this
    left; right
    rw [lst_getD _ hj']; exact this
/-- What may be taken first, each truth that something hangs on told both ways. -/
def concR (g : Bool) (R : PR) : PR := ⟨R.ok.flatMap (conc g), R.bad⟩
theorem concR_ok {P : Program} {T : Tab} {E : Env} {h : H} {a : Act} {o : Oper} {R : PR} (g : Bool) (p : PurO P T E h a o R) : PurO P T E h a o (concR g R) := fun nb => by
  obtain ⟨r, h1, h2, h3, h4, h5⟩ := p nb
  obtain ⟨r', c1, c2, c3, c4, c5⟩ := conc_spec g h3 h4 h5
  exact ⟨r', List.mem_flatMap.2 ⟨r, h1, c1⟩, fun w' => by rw [c2]; exact h2 w', c3, c4, c5⟩
def takeW (P : Program) (ops : Array Oper) (t : List TV) (h : H) (q : List Fact) (i : Nat) : Option (Oper × PR) :=
  match ops[i]? with
  | none => none
  | some o => match wantT ops t o with
    | some true => (eW P t h q o).map fun R => (o, concR (isGuard ops i) R)
    | some false => some (o, .one (uv, q))
    | none => none
/-! ### Loads of which it is known what they yield all the while are taken first -/
structure Ld where
  ty : Nat
  b : Nat
  k : Nat
  v : TV
def ldOf (t : List TV) (o : Oper) : Option (Nat × Nat × Nat) :=
  match o.op with
  | .load ty x => match opd t x with
    | some (.p (.v (.ptr b k))) => some (ty, b, k)
    | _ => none
  | _ => none
def findLd : List Ld → Nat → Nat → Nat → Option TV
  | [], _, _, _ => none
  | q :: r, ty, b, k => bif Nat.beq q.ty ty && Nat.beq q.b b && Nat.beq q.k k then some q.v else findLd r ty b k
def stays (P : Program) (h : H) (q : Ld) : Bool := match eLoad P h q.ty q.b q.k with
  | some v => teq v q.v
  | none => false
/-! #### A call that was reckoned once is not reckoned again -/
structure Mm where
  f : FuncId
  vs : List TV
  h : H
  q : List Fact
  id : Nat
  R : Option (Res RO)
def Mm.ok (call : CallF) (m : Mm) : Prop := m.R = call m.f m.vs m.h m.q m.id
def findM : List Mm → FuncId → List TV → H → List Fact → Nat → Option (Option (Res RO))
  | [], _, _, _, _, _ => none
  | m :: r, f, vs, h, q, id => bif Nat.beq m.f f && Nat.beq m.id id && leq teq m.vs vs && heq m.h h && leq facteq m.q q then some m.R else findM r f vs h q id
theorem findM_eq {call : CallF} : ∀ {M : List Mm} (_ : ∀ m ∈ M, m.ok call) {f : FuncId} {vs : List TV} {h : H} {q : List Fact} {id : Nat} {R : Option (Res RO)}, findM M f vs h q id = some R → R = call f vs h q id
  | [], _, f, vs, h, q, id, R, e => by simp [findM] at e
  | m :: r, hM, f, vs, h, q, id, R, e => by
    simp only [findM] at e
    cases hc : (Nat.beq m.f f && Nat.beq m.id id && leq teq m.vs vs && heq m.h h && leq facteq m.q q) with
    | false => rw [hc, cond_false] at e; exact findM_eq (fun m hm => hM m (List.mem_cons_of_mem _ hm)) e
    | true =>
      rw [hc, cond_true, Option.some.injEq] at e
      simp only [Bool.and_eq_true, Nat.beq_eq] at hc
      obtain ⟨⟨⟨⟨e1, e2⟩, e3⟩, e4⟩, e5⟩ := hc
      have := hM m List.mem_cons_self
      unfold Mm.ok at this
      rw [← e, this, e1, e2, leq_eq (fun _ _ => teq_eq) _ _ e3, heq_eq e4, leq_eq facteq_eq _ _ e5]
def withM (M : List Mm) (call : CallF) : CallF := fun f vs h q id => match findM M f vs h q id with
  | some R => R
  | none => call f vs h q id
theorem withM_eq {call : CallF} {M : List Mm} (hM : ∀ m ∈ M, m.ok call) : withM M call = call := by
  funext f vs h q id
  unfold withM
  split
  · rename_i R e; exact findM_eq hM e
  · rfl
def mmOf (P : Program) (call : CallF) (o : Option Oper) (s : St) (id : Nat) : Option Mm := match o with
  | some o => match o.op with
    | .call c => match c.callee with
      | .value _ => match eWho P s.t c with
        | some (f, vs) => match call f vs s.h s.q id with
          | some R => some ⟨f, vs, s.h, s.q, id, some R⟩
          | none => none
        | none => none
      | _ => none
    | _ => none
  | none => none
theorem mmOf_ok {P : Program} {call : CallF} {o : Option Oper} {s : St} {id : Nat} {m : Mm} (h : mmOf P call o s id = some m) : m.ok call := by
  unfold mmOf at h
  split at h
  · split at h
    · split at h
      · split at h
        · split at h
          · rename_i R hc
            obtain rfl := Option.some.inj h
            exact hc.symm
          · cases h
        · cases h
      · cases h
    · cases h
  · cases h
/-- One behind the other, with what is loaded on the way (to find which loads may be taken first), and what was called. -/
def lexQ (P : Program) (call : CallF) (ops : Array Oper) (base : Nat) : List Nat → St → List Ld → List Mm → Option (St × List Ld) × List Mm
  | [], s, q, M => (some (s, q), M)
  | i :: r, s, q, M => match mmOf P call ops[i]? s (base + i) with
    | some m => match stepAt P (fun _ _ _ _ _ => m.R) ops (base + i) s i with
      | some ⟨s' :: _, _⟩ => lexQ P call ops base r s' q (m :: M)
      | _ => (none, m :: M)
    | none => match stepAt P call ops (base + i) s i with
    | some ⟨s' :: _, _⟩ => lexQ P call ops base r s' (match ops[i]? with
      | some o => match ldOf s.t o with
        | some (ty, b, k) => match eLoad P s.h ty b k with
          | some v => ⟨ty, b, k, v⟩ :: q
          | none => q
        | none => q
      | none => q) M
    | _ => (none, M)
theorem lexQ_ok {P : Program} {call : CallF} {ops : Array Oper} {base : Nat} : ∀ (l : List Nat) (s : St) (q : List Ld) (M : List Mm), (∀ m ∈ M, m.ok call) → ∀ m ∈ (lexQ P call ops base l s q M).2, m.ok call
  | [], s, q, M, hM => hM
  | i :: r, s, q, M, hM => by
    simp only [lexQ]
    split
    · rename_i m hm
      have hM' : ∀ x ∈ m :: M, x.ok call := fun x hx => by
        rcases List.mem_cons.1 hx with rfl | hx
        · exact mmOf_ok hm
        · exact hM x hx
      split
      · exact lexQ_ok r _ _ _ hM'
      · exact hM'
    · split
      · exact lexQ_ok r _ _ _ hM
      · exact hM
def regQ (P : Program) (call : CallF) (ops : Array Oper) (base : Nat) (s : St) : List Ld × List Mm :=
  match lexQ P call ops base (List.range ops.size) s [] [] with
  | (some (s', q), M) => (q.filter fun q => stays P s'.h q && stays P s.h q && has s.h q.b && bdT s.h q.v, M)
  | (none, M) => ([], M)
def takeH (P : Program) (ops : Array Oper) (Q : List Ld) (t : List TV) (h : H) (q : List Fact) (i : Nat) : Option (Oper × PR) :=
  match takeW P ops t h q i with
  | some r => some r
  | none => match ops[i]? with
    | none => none
    | some o => match wantT ops t o with
      | some true => match ldOf t o with
        | some (ty, b, k) => (findLd Q ty b k).map fun v => (o, concR (isGuard ops i) (.one (v, q)))
        | none => none
      | _ => none
def firstH (P : Program) (ops : Array Oper) (Q : List Ld) (t : List TV) (h : H) (q : List Fact) : List Nat → Option (Nat × Oper × PR)
  | [] => none
  | i :: r => match takeH P ops Q t h q i with
    | some (o, v) => some (i, o, v)
    | none => firstH P ops Q t h q r
theorem firstH_mem {P : Program} {ops : Array Oper} {Q : List Ld} {t : List TV} {h : H} {q : List Fact} : ∀ (l : List Nat) {i : Nat} {o : Oper} {v : PR}, firstH P ops Q t h q l = some (i, o, v) → i ∈ l ∧ takeH P ops Q t h q i = some (o, v)
  | [], i, o, v, hf => by simp [firstH] at hf
  | j :: r, i, o, v, hf => by
    simp only [firstH] at hf
    split at hf
    · rename_i o' v' h1
      obtain ⟨rfl, h2⟩ := Prod.mk.inj (Option.some.inj hf)
      obtain ⟨rfl, rfl⟩ := Prod.mk.inj h2
      exact ⟨List.mem_cons_self, h1⟩
    · obtain ⟨h1, h2⟩ := firstH_mem r hf
      exact ⟨List.mem_cons_of_mem _ h1, h2⟩
theorem findLd_mem : ∀ {Q : List Ld} {ty b k : Nat} {v : TV}, findLd Q ty b k = some v → ∃ q ∈ Q, q.ty = ty ∧ q.b = b ∧ q.k = k ∧ q.v = v
  | [], ty, b, k, v, h => by simp [findLd] at h
  | q :: r, ty, b, k, v, h => by
    simp only [findLd] at h
    cases hq : (Nat.beq q.ty ty && Nat.beq q.b b && Nat.beq q.k k) with
    | true =>
      rw [hq, cond_true] at h
      simp only [Bool.and_eq_true, Nat.beq_eq] at hq
      exact ⟨q, List.mem_cons_self, hq.1.1, hq.1.2, hq.2, Option.some.inj h⟩
    | false =>
      rw [hq, cond_false] at h
      obtain ⟨q', h1, h2⟩ := findLd_mem h
      exact ⟨q', List.mem_cons_of_mem _ h1, h2⟩
abbrev Pt := Nat × St
def pteq (a b : Pt) : Bool := Nat.beq a.1 b.1 && steq a.2 b.2
theorem pteq_eq {a b : Pt} (h : pteq a b = true) : a = b := by
  unfold pteq at h
  simp only [Bool.and_eq_true, Nat.beq_eq] at h
  exact Prod.ext h.1 (steq_eq h.2)
def step1H (P : Program) (call : CallF) (ops : Array Oper) (Q : List Ld) (base : Nat) (p : Pt) : Option (Res Pt) :=
  match readyM ops p.1 with
  | [] => some (.one p)
  | rs => match firstH P ops Q p.2.t p.2.h p.2.q rs with
    | some (i, o, R) => some ⟨R.ok.map fun r => (p.1 ||| 2 ^ i, ⟨putT p.2.t o.dst r.1, p.2.h, r.2, p.2.n⟩), R.bad⟩
    | none => bindR (fun i => match stepAt P call ops (base + i) p.2 i with
      | some R => bif R.ok.all (fun s => Q.all (stays P s.h)) then some ⟨R.ok.map fun s => (p.1 ||| 2 ^ i, s), R.bad⟩ else none
      | none => none) rs
def evalAnyH (P : Program) (call : CallF) (ops : Array Oper) (Q : List Ld) (base : Nat) : Nat → List Pt → Option (Res St)
  | 0, F => bif F.all (fun p => (readyM ops p.1).isEmpty) then some ⟨F.map (·.2), []⟩ else none
  | n + 1, F => match bindR (step1H P call ops Q base) F with
    | some F' => match evalAnyH P call ops Q base n (dd pteq F'.ok) with
      | some R => some ⟨R.ok, F'.bad ++ R.bad⟩
      | none => none
    | none => none
/-- What these loads yield is what was told. -/
def SQ (P : Program) (E : Env) (Q : List Ld) (w : World) : Prop := ∀ q ∈ Q, (Instr.loadAt q.ty (.pointer (some ⟨E.s q.b, q.k, none⟩))).run P w = .ok (ct E q.v) w
theorem wpAnyH_nil {P : Program} {md : Region.Mode} {ops : Array Oper} {Q : Exit → Act → World → Prop} {S : World → Prop} {listed : Array Bool} {a : Act} {w : World} (hr : Region.ready md ops listed = []) : ∀ {n : Nat}, wpAnyH P md ops Q S n listed a w → Q .normal a w
  | 0, h => h.2
  | n + 1, h => h.1 hr
theorem SQ_of {P : Program} {ER : Env} {hR : H} {B : Bd} {wR : World} {Q : List Ld} (hQ : ∀ q ∈ Q, has hR q.b = true ∧ bdT hR q.v = true) {E : Env} {h : H} {w : World} (st : Step ER hR B wR E h w) (hs : Q.all (stays P h) = true) : SQ P ER Q w := by
  intro q hq
  have := List.all_eq_true.1 hs q hq
  unfold stays at this
  split at this
  · rename_i v hv
    have e := teq_eq this
    subst e
    obtain ⟨h1, _⟩ := eLoad_run st.hr hv
    rw [(st.ag q.b (hQ q hq).1).1, ct_ag st.ag (hQ q hq).2]
    exact h1
  · cases this
theorem evalAnyH_wp {P : Program} {T : Tab} {B : Bd} {call : CallF} (hcall : CallS P T B call) {E0 : Env} {h0 : H} {w0 : World} {ops : Array Oper} (htd : tidy ops = true) {Ql : List Ld} {base : Nat} (hQl : ∀ q ∈ Ql, has h0 q.b = true ∧ bdT h0 q.v = true) (hsel : Region.noSelect ops = true) {Q : Exit → Act → World → Prop} (hQ : ∀ c a w, ¬ Q (.panic c) a w) :
    ∀ (n : Nat) (F : List Pt) (R : Res St), evalAnyH P call ops Ql base n F = some R → NB T E0 h0 R.bad → (∀ s' ∈ R.ok, ∀ a w, Rel T B E0 h0 w0 s' a w → Q .normal a w) → ∀ p ∈ F, ∀ a w, Rel T B E0 h0 w0 p.2 a w → SQ P E0 Ql w → wpAnyH P .any ops Q (SQ P E0 Ql) n (lst ops.size p.1) a w
  | 0, F, R, hR, nb, hq, p, hp, a, w, k, hS => by
    simp only [evalAnyH] at hR
    cases hall : F.all (fun p => (readyM ops p.1).isEmpty) with
    | false => rw [hall] at hR; cases hR
    | true =>
      rw [hall, cond_true] at hR
      obtain rfl := Option.some.inj hR
      have := List.all_eq_true.1 hall p hp
      exact ⟨by rw [ready_eq htd]; simpa using this, hq p.2 (List.mem_map.2 ⟨p, hp, rfl⟩) a w k⟩
  | n + 1, F, R, hR, nb, hq, p, hp, a, w, k, hS => by
    simp only [evalAnyH] at hR
    split at hR
    · rename_i F' hF
      split at hR
      · rename_i R2 hR2
        obtain rfl := Option.some.inj hR
        obtain ⟨G, hG, hsub, hbad⟩ := bindR_mem hF p hp
        have nbG : NB T E0 h0 G.bad := nb.sub (Ag.refl _ _) (Sub.refl _) fun y hy => List.mem_append_left _ (hbad y hy)
        have ih : ∀ q ∈ G.ok, ∀ a w, Rel T B E0 h0 w0 q.2 a w → SQ P E0 Ql w → wpAnyH P .any ops Q (SQ P E0 Ql) n (lst ops.size q.1) a w := fun q hq' a w k' hS' =>
          evalAnyH_wp hcall htd hQl hsel hQ n _ R2 hR2 (nb.sub (Ag.refl _ _) (Sub.refl _) fun y hy => List.mem_append_right _ hy) hq q (mem_dd (fun _ _ => pteq_eq) _ _ (hsub q hq')) a w k' hS'
        have hsz : ∀ i, i ∈ readyM ops p.1 → i < ops.size := fun i hi => List.mem_range.1 (List.mem_filter.1 hi).1
        unfold step1H at hG
        split at hG
        · rename_i hr
          rw [← ready_eq htd] at hr
          obtain rfl := Option.some.inj hG
          exact wpAnyH_done hr (wpAnyH_nil hr (ih p (by simp [Res.one]) a w k hS)) (n + 1)
        · rename_i hne
          split at hG
          · rename_i i o V hf
            obtain rfl := Option.some.inj hG
            obtain ⟨hi, ht⟩ := firstH_mem _ hf
            have hfree := free_of htd hi
            have hin : (Region.ready .any ops (lst ops.size p.1)).contains i = true := by rw [ready_eq htd]; simpa using hi
            have ih' := fun r (hr : r ∈ V.ok) a w k' hS' => ih _ (List.mem_map.2 ⟨r, hr, rfl⟩) a w k' hS'
            simp only [← lst_set (m := p.1) (hsz i hi)] at ih'
            obtain ⟨E, k, st⟩ := k
            have nbE : NB T E p.2.h V.bad := nbG.sub st.ag st.sub fun y hy => hy
            unfold takeH at ht
            split at ht
            · rename_i r htw
              obtain rfl := Option.some.inj ht
              unfold takeW at htw
              split at htw
              · cases htw
              · rename_i o' ho'
                split at htw
                · rename_i hw
                  obtain ⟨V', hv', hov⟩ := Option.map_eq_some_iff.1 htw
                  obtain ⟨rfl, rfl⟩ := Prod.mk.inj hov
                  obtain ⟨r, h1, h2, h3, h4, h5⟩ := concR_ok (isGuard ops i) (eW_run k hv') nbE
                  refine wpAnyH_take ho' hsel hfree hin (fun c a w h => absurd h (hQ _ _ _)) (.inl ⟨want_eq k hw, fun w' _ => h2 w'⟩) hS ?_
                  exact ih' r h1 _ _ ⟨E, k.put (Step.refl k.hr) o'.dst h3 h4 h5, st⟩ hS
                · rename_i hw
                  obtain ⟨rfl, rfl⟩ := Prod.mk.inj (Option.some.inj htw)
                  have hk := k.put (Step.refl k.hr) o'.dst (v := uv) rfl k.qb k.qd
                  rw [ct_uv] at hk
                  refine wpAnyH_take ho' hsel hfree hin (fun c a w h => absurd h (hQ _ _ _)) (.inr ⟨want_eq k hw, rfl⟩) hS ?_
                  exact ih' (uv, p.2.q) (by simp [Res.one]) _ _ ⟨E, hk, st⟩ hS
                · cases htw
            · split at ht
              · cases ht
              · rename_i o' ho'
                split at ht
                · rename_i hfw
                  split at ht
                  · rename_i ty b kk hld
                    obtain ⟨v', hv', hov⟩ := Option.map_eq_some_iff.1 ht
                    obtain ⟨rfl, rfl⟩ := Prod.mk.inj hov
                    obtain ⟨q, hqm, rfl, rfl, rfl, rfl⟩ := findLd_mem hv'
                    obtain ⟨hq1, hq2⟩ := hQl q hqm
                    unfold ldOf at hld
                    split at hld
                    · rename_i ty' x hop
                      split at hld
                      · rename_i b' k' hx
                        obtain ⟨rfl, e2⟩ := Prod.mk.inj (Option.some.inj hld)
                        obtain ⟨rfl, rfl⟩ := Prod.mk.inj e2
                        have ex := k.eval hx
                        simp only [ct, cp, cv] at ex
                        obtain ⟨r', c1, c2, c3, c4, c5⟩ := conc_spec (E := E) (isGuard ops i) (r := (q.v, p.2.q)) (bdT_sub st.sub hq2) k.qb k.qd
                        have hrun : ∀ w', SQ P E0 Ql w' → (execOp a.eval o').run P w' = .ok (.value (ct E r'.1)) w' := by
                          intro w' hS'
                          have := hS' q hqm
                          rw [(st.ag _ hq1).1, ct_ag st.ag hq2] at this
                          rw [c2]
                          unfold execOp
                          simp only [hop, ex, Sem.run_bind, this, Result.andThen_ok, Sem.run_pure]
                        refine wpAnyH_take ho' hsel hfree hin (fun c a w h => absurd h (hQ _ _ _)) (.inl ⟨want_eq k hfw, hrun⟩) hS ?_
                        exact ih' r' (List.mem_flatMap.2 ⟨_, List.mem_singleton.2 rfl, c1⟩) _ _ ⟨E, k.put (Step.refl k.hr) o'.dst c3 c4 c5, st⟩ hS
                      · cases hld
                    · cases hld
                  · cases ht
                · cases ht
          · refine wpAnyH_all (ready_eq htd _) (fun e => hne e) fun i hi => ?_
            obtain ⟨Gi, hGi, hs, hbi⟩ := bindR_mem hG i hi
            split at hGi
            · rename_i Ri hRi
              cases hall : Ri.ok.all (fun s => Ql.all (stays P s.h)) with
              | false => rw [hall] at hGi; cases hGi
              | true =>
                rw [hall, cond_true] at hGi
                obtain rfl := Option.some.inj hGi
                refine stepAt_wp hcall hRi (nbG.sub (Ag.refl _ _) (Sub.refl _) hbi) k fun s' hs' a' w' k' => ?_
                have hS' : SQ P E0 Ql w' := by
                  obtain ⟨E', _, st'⟩ := k'
                  exact SQ_of hQl st' (List.all_eq_true.1 hall s' hs')
                have := ih _ (hs _ (List.mem_map.2 ⟨s', hs', rfl⟩)) a' w' k' hS'
                simp only [← lst_set (m := p.1) (hsz i hi)] at this
                exact ⟨hS', this⟩
            · cases hGi
      · cases hR
    · cases hR
def evalReg (P : Program) (call : CallF) (ops : Array Oper) (s : St) : Option (Res St) :=
  match regQ P call ops s.n ⟨s.t, s.h, s.q, s.n + ops.size⟩ with
  | (Ql, M) => evalAnyH P (withM M call) ops Ql s.n ops.size [(0, ⟨s.t, s.h, s.q, s.n + ops.size⟩)]
theorem evalReg_wp {P : Program} {T : Tab} {B : Bd} {call : CallF} (hcall : CallS P T B call) {E0 : Env} {h0 : H} {w0 : World} {ops : Array Oper} (htd : tidy ops = true) (hm : P.follows .mixedOrders = true) (hsel : Region.noSelect ops = true) {Q : Exit → Act → World → Prop} (hQ : ∀ c a w, ¬ Q (.panic c) a w) {s : St} {R : Res St} (hR : evalReg P call ops s = some R) (nb : NB T E0 h0 R.bad)
    (hq : ∀ s' ∈ R.ok, ∀ a w, Rel T B E0 h0 w0 s' a w → Q .normal a w) {id : Nat} {a : Act} {w : World} (k : Rel T B E0 h0 w0 s a w) : (Code.region id ops true).wp P Q a w := by
  obtain ⟨E, ko, st⟩ := k
  have ko := ko.drew
  have st : Step E0 h0 B w0 E s.h w.drew := ⟨st.ag, st.sub, st.hr.drew, st.bel.drew⟩
  obtain ⟨Ql, M, hreg⟩ : ∃ Ql M, regQ P call ops s.n ⟨s.t, s.h, s.q, s.n + ops.size⟩ = (Ql, M) := ⟨_, _, rfl⟩
  have hM : ∀ m ∈ M, m.ok call := by
    have h0 := lexQ_ok (P := P) (call := call) (ops := ops) (base := s.n) (List.range ops.size) ⟨s.t, s.h, s.q, s.n + ops.size⟩ [] [] (fun m hm => by simp at hm)
    unfold regQ at hreg
    split at hreg <;> (rename_i he; rw [he] at h0; obtain ⟨_, rfl⟩ := Prod.mk.inj hreg; exact h0)
  unfold evalReg at hR
  rw [hreg] at hR
  simp only [withM_eq hM] at hR
  have hQl : ∀ q ∈ Ql, stays P s.h q = true ∧ has s.h q.b = true ∧ bdT s.h q.v = true := by
    intro q hq
    unfold regQ at hreg
    split at hreg
    · rename_i s' ql M' hlex
      obtain ⟨rfl, _⟩ := Prod.mk.inj hreg
      have := (List.mem_filter.1 hq).2
      simp only [Bool.and_eq_true] at this
      exact ⟨this.1.1.2, this.1.2, this.2⟩
    · obtain ⟨rfl, _⟩ := Prod.mk.inj hreg
      simp at hq
  refine wp_region_held (S := SQ P E Ql) hm ?_
  rw [← lst_zero]
  exact evalAnyH_wp hcall (E0 := E) (h0 := s.h) (w0 := w.drew) htd (fun q hq => (hQl q hq).2) hsel hQ _ _ R hR (nb.sub st.ag st.sub fun _ h => h)
    (fun s' hs a' w' ⟨E', ko', st'⟩ => hq s' hs a' w' ⟨E', ko', st.trans st'⟩) (0, ⟨s.t, s.h, s.q, s.n + ops.size⟩) (List.mem_singleton.2 rfl) a _
    ⟨E, ⟨ko.tmps, ko.defs, ko.bd, ko.hr, ko.qb, ko.qd⟩, Step.refl ko.hr⟩ (SQ_of (fun q hq => (hQl q hq).2) (Step.refl ko.hr) (List.all_eq_true.2 fun q hq => (hQl q hq).1))
end Go.Proofs.Ytkepkjahbcddlaa.Sy
