/- second part: operations -/
import Derived.Test.YtkepkjahbcddlaaSyBase
namespace Go.Proofs.Ytkepkjahbcddlaa.Sy
open Go Go.RowKit
set_option linter.unusedVariables false
set_option linter.unusedSimpArgs false
set_option linter.unusedSectionVars false
variable [Kinds]
/-! ### What stands in a frame -/
def opd (t : List TV) : Operand → Option TV
  | .tmp i => t[i]?
  | .const v => some (av v)
  | .global g => some (av (.pointer (some ⟨g, 0, none⟩)))
  | .func f => some (av (.func (.func f) #[] #[]))
structure Ok (T : Tab) (E : Env) (t : List TV) (h : H) (q : List Fact) (B : Bd) (a : Act) (w : World) : Prop where
  tmps : a.tmps = (t.map (ct E)).toArray
  defs : a.defers = []
  bd : ∀ x ∈ t, bdT h x = true
  hr : HR E h B w
  qb : bdQ h q = true
  qd : PC T E q
section
variable {T : Tab} {E : Env} {t : List TV} {h : H} {q : List Fact} {B : Bd} {a : Act} {w : World}
theorem Ok.eval (k : Ok T E t h q B a w) {x : Operand} {v : TV} (hx : opd t x = some v) : a.eval x = ct E v := by
  cases x with
  | tmp i =>
    simp only [opd] at hx
    simp only [Act.eval, k.tmps]
    simp [hx]
  | const v => simp only [opd, Option.some.injEq] at hx; subst hx; rfl
  | global g => simp only [opd, Option.some.injEq] at hx; subst hx; rfl
  | func f => simp only [opd, Option.some.injEq] at hx; subst hx; rfl
theorem Ok.bdo (k : Ok T E t h q B a w) {x : Operand} {v : TV} (hx : opd t x = some v) : bdT h v = true := by
  cases x with
  | tmp i => exact k.bd v (List.mem_of_getElem? hx)
  | const v => simp only [opd, Option.some.injEq] at hx; subst hx; rfl
  | global g => simp only [opd, Option.some.injEq] at hx; subst hx; rfl
  | func f => simp only [opd, Option.some.injEq] at hx; subst hx; rfl
theorem Ok.drew (k : Ok T E t h q B a w) : Ok T E t h q B a w.drew := ⟨k.tmps, k.defs, k.bd, k.hr.drew, k.qb, k.qd⟩
theorem Ok.facts (k : Ok T E t h q B a w) {q' : List Fact} (hb : bdQ h q' = true) (hd : PC T E q') : Ok T E t h q' B a w := ⟨k.tmps, k.defs, k.bd, k.hr, hb, hd⟩
end
def putT (t : List TV) (dst : Option Tmp) (v : TV) : List TV := match dst with | some d => t.set d v | none => t
theorem Ok.put {T : Tab} {E E' : Env} {t : List TV} {h h' : H} {q q' : List Fact} {B : Bd} {a : Act} {w w' : World} (k : Ok T E t h q B a w) (s : Step E h B w E' h' w') (dst : Option Tmp) {v : TV} (hv : bdT h' v = true) (hb : bdQ h' q' = true) (hd : PC T E' q') : Ok T E' (putT t dst v) h' q' B (a.put dst (ct E' v)) w' := by
  have ht : a.tmps = (t.map (ct E')).toArray := by rw [k.tmps, cts_ag s.ag k.bd]
  cases dst with
  | none => exact ⟨ht, k.defs, fun x hx => bdT_sub s.sub (k.bd x hx), s.hr, hb, hd⟩
  | some d =>
    refine ⟨?_, k.defs, fun x hx => ?_, s.hr, hb, hd⟩
    · simp only [Act.put, putT, ht, List.setIfInBounds_toArray, List.map_set]
    · rcases List.mem_or_eq_of_mem_set hx with hx | rfl
      · exact bdT_sub s.sub (k.bd x hx)
      · exact hv
/-! ### Values without names -/
def clA : AV → Option Value
  | .val v => some v
  | _ => none
def clL : List AV → Option (List Value)
  | [] => some []
  | x :: r => match clA x, clL r with
    | some v, some l => some (v :: l)
    | _, _ => none
def clP : PV → Option Value
  | .v x => clA x
  | .agg l => match clL l with | some cs => some (.agg cs.toArray) | none => none
def clPL : List PV → Option (List Value)
  | [] => some []
  | x :: r => match clP x, clPL r with
    | some v, some l => some (v :: l)
    | _, _ => none
def clT : TV → Option Value
  | .p x => clP x
  | .tup l => match clPL l with | some cs => some (.tuple cs.toArray) | none => none
theorem clA_eq {x : AV} {v : Value} (h : clA x = some v) (E : Env) : cv E x = v := by
  cases x <;> simp [clA] at h
  subst h; rfl
theorem clL_eq : ∀ {l : List AV} {vs : List Value}, clL l = some vs → ∀ E : Env, l.map (cv E) = vs
  | [], vs, h, E => by simp only [clL, Option.some.injEq] at h; subst h; rfl
  | x :: r, vs, h, E => by
    simp only [clL] at h
    split at h
    · rename_i v l hv hl
      obtain rfl := Option.some.inj h
      rw [List.map_cons, clA_eq hv E, clL_eq hl E]
    · cases h
theorem clP_eq {x : PV} {v : Value} (h : clP x = some v) (E : Env) : cp E x = v := by
  cases x with
  | v x => exact clA_eq h E
  | agg l =>
    simp only [clP] at h
    split at h
    · rename_i cs hc
      obtain rfl := Option.some.inj h
      simp only [cp, clL_eq hc E]
    · cases h
theorem clPL_eq : ∀ {l : List PV} {vs : List Value}, clPL l = some vs → ∀ E : Env, l.map (cp E) = vs
  | [], vs, h, E => by simp only [clPL, Option.some.injEq] at h; subst h; rfl
  | x :: r, vs, h, E => by
    simp only [clPL] at h
    split at h
    · rename_i v l hv hl
      obtain rfl := Option.some.inj h
      rw [List.map_cons, clP_eq hv E, clPL_eq hl E]
    · cases h
theorem clT_eq {x : TV} {v : Value} (h : clT x = some v) (E : Env) : ct E x = v := by
  cases x with
  | p x => exact clP_eq h E
  | tup l =>
    simp only [clT] at h
    split at h
    · rename_i cs hc
      obtain rfl := Option.some.inj h
      simp only [ct, clPL_eq hc E]
    · cases h
/-- An aggregate, as one value where it holds no name. -/
def normA (l : List AV) : PV := match clL l with | some cs => .v (.val (.agg cs.toArray)) | none => .agg l
theorem normA_eq (l : List AV) (E : Env) : cp E (normA l) = .agg (l.map (cv E)).toArray := by
  unfold normA
  split
  · rename_i cs hc
    rw [clL_eq hc E]; rfl
  · rfl
theorem normA_bd {h : H} {l : List AV} (hl : ∀ x ∈ l, bd h x = true) : bdP h (normA l) = true := by
  unfold normA
  split
  · rfl
  · simp only [bdP, List.all_eq_true]; exact hl
/-! ### Operations without names -/
def rho (t : List TV) (x : Operand) : Value := ((opd t x).bind clT).getD undef
def allCl (t : List TV) (o : Oper) : Bool := o.op.operands.toList.all fun x => ((opd t x).bind clT).isSome
def notSel (o : Oper) : Bool := match o.op with | .select .. => false | _ => true
theorem rho_eq {T : Tab} {E : Env} {t : List TV} {h : H} {q : List Fact} {B : Bd} {a : Act} {w : World} (k : Ok T E t h q B a w) {x : Operand} (hx : ((opd t x).bind clT).isSome = true) : rho t x = a.eval x := by
  unfold rho
  cases ho : opd t x with
  | none => rw [ho] at hx; cases hx
  | some v =>
    rw [ho] at hx
    simp only [Option.bind_some] at hx ⊢
    cases hc : clT v with
    | none => rw [hc] at hx; cases hx
    | some u => rw [Option.getD_some, k.eval ho, clT_eq hc E]
def ePure (P : Program) (t : List TV) (o : Oper) : Option Next := if allCl t o && notSel o then sval P (execOp (rho t) o) else none
theorem ePure_run {P : Program} {T : Tab} {E : Env} {t : List TV} {h : H} {q : List Fact} {B : Bd} {a : Act} {w : World} (k : Ok T E t h q B a w) {o : Oper} {n : Next} (hn : ePure P t o = some n) (w' : World) : (execOp a.eval o).run P w' = .ok n w' := by
  unfold ePure at hn
  split at hn
  · rename_i hc
    rw [Bool.and_eq_true] at hc
    have hs : ∀ cs b, o.op ≠ .select cs b := by
      intro cs b e
      have := hc.2
      simp [notSel, e] at this
    rw [← execOp_congr o hs (ρ := rho t) (ρ' := a.eval) (fun x hx => rho_eq k (by
      have := hc.1
      simp only [allCl, List.all_eq_true] at this
      exact this x (by simpa using hx)))]
    exact sval_run w' _ hn
  · cases hn
/-! ### What an operation does -/
def Does (P : Program) (o : Oper) (a : Act) (B : Bd) (E : Env) (h : H) (w : World) (r : TV × H) : Prop :=
  ∃ E' w' res, (execOp a.eval o).run P w = .ok res w' ∧ (res = .value (ct E' r.1) ∨ res = .skip ∧ r.1 = uv) ∧ Step E h B w E' r.2 w' ∧ bdT r.2 r.1 = true
theorem Does.wp {P : Program} {o : Oper} {a : Act} {B : Bd} {E : Env} {h : H} {w : World} {r : TV × H} (d : Does P o a B E h w r) {K : Act → World → Prop} {Q : Exit → Act → World → Prop}
    (hk : ∀ E' w', Step E h B w E' r.2 w' → bdT r.2 r.1 = true → K (a.put o.dst (ct E' r.1)) w') : o.wp P a w K Q := by
  obtain ⟨E', w', res, hr, hres, hs, hb⟩ := d
  unfold Oper.wp
  rw [hr]
  rcases hres with rfl | ⟨rfl, hu⟩
  · exact hk E' w' hs hb
  · have := hk E' w' hs hb
    rw [hu, ct_uv] at this
    exact this
theorem Does.same {P : Program} {o : Oper} {a : Act} {B : Bd} {E : Env} {h : H} {w : World} {v : TV} (hr : HR E h B w) (hb : bdT h v = true) (he : (execOp a.eval o).run P w = .ok (.value (ct E v)) w) : Does P o a B E h w (v, h) :=
  ⟨E, w, _, he, .inl rfl, Step.refl hr, hb⟩
/-! ### Cells of a value -/
def one : AV → Bool
  | .val v => v.oneCell'
  | .any _ _ => false
  | _ => true
theorem one_eq {x : AV} (h : one x = true) (E : Env) : (cv E x).oneCell' = true := by cases x <;> first | rfl | exact h | cases h
def cellsT : TV → Option (List AV)
  | .p (.agg l) => some l
  | .p (.v (.val (.agg cs))) => some (cs.toList.map .val)
  | .p (.v (.val (.tuple _))) => none
  | .p (.v (.any _ _)) => none
  | .p (.v x) => some [x]
  | .tup _ => none
theorem map_val (E : Env) (l : List Value) : (l.map AV.val).map (cv E) = l := by
  rw [List.map_map]
  have : (cv E ∘ AV.val) = id := by funext v; rfl
  rw [this, List.map_id]
theorem cellsT_eq {v : TV} {l : List AV} (h : cellsT v = some l) (E : Env) : (ct E v).cells = (l.map (cv E)).toArray := by
  unfold cellsT at h
  split at h
  · obtain rfl := Option.some.inj h; rfl
  · rename_i cs
    obtain rfl := Option.some.inj h
    rw [map_val]; rfl
  · cases h
  · cases h
  · rename_i x h1 h2 h3
    obtain rfl := Option.some.inj h
    cases x with
    | val u => cases u <;> first | rfl | (exfalso; exact h1 _ rfl) | (exfalso; exact h2 _ rfl)
    | any b j => exact absurd rfl (h3 b j)
    | _ => rfl
  · cases h
theorem cellsT_bd {h : H} {v : TV} {l : List AV} (hc : cellsT v = some l) (hb : bdT h v = true) : ∀ x ∈ l, bd h x = true := by
  unfold cellsT at hc
  split at hc
  · obtain rfl := Option.some.inj hc
    simpa only [bdT, bdP, List.all_eq_true] using hb
  · obtain rfl := Option.some.inj hc
    intro x hx
    obtain ⟨u, _, rfl⟩ := List.mem_map.1 hx
    rfl
  · cases hc
  · cases hc
  · obtain rfl := Option.some.inj hc
    intro x hx
    rw [List.mem_singleton.1 hx]; exact hb
  · cases hc
/-! ### A load -/
def aggB : TypeDesc → Bool
  | .struct _ => true
  | .array _ _ => true
  | _ => false
theorem run_aggB {P : Program} {t : TypeId} {d : TypeDesc} (hd : P.underlying t = some d) (w : World) : (isAgg t).run P w = .ok (aggB d) w := by
  simp only [isAgg, Sem.run_bind, run_underlying hd, Result.andThen_ok]
  cases d <;> rfl
def eLoad (P : Program) (h : H) (ty : TypeId) (b k : Nat) : Option TV :=
  match hget h b, P.underlying ty with
  | some x, some d =>
    if aggB d then match P.info? ty with
      | some i => if k + i.size ≤ x.cells.length then some (.p (normA ((x.cells.drop k).take i.size))) else none
      | none => none
    else match x.cells[k]? with
      | some v => some (.p (.v v))
      | none => none
  | _, _ => none
theorem eLoad_run {P : Program} {E : Env} {h : H} {B : Bd} {w : World} (r : HR E h B w) {ty b k : Nat} {v : TV} (hv : eLoad P h ty b k = some v) :
    (Instr.loadAt ty (.pointer (some ⟨E.s b, k, none⟩))).run P w = .ok (ct E v) w ∧ bdT h v = true := by
  unfold eLoad at hv
  split at hv
  · rename_i x d hx hd
    split at hv
    · rename_i hag
      split at hv
      · rename_i i hi
        split at hv
        · rename_i hle
          obtain rfl := Option.some.inj hv
          refine ⟨?_, normA_bd fun y hy => r.bnd b x hx y (List.mem_of_mem_drop (List.mem_of_mem_take hy))⟩
          have hc := run_loadCells_list (P := P) w ⟨E.s b, k, none⟩ (((x.cells.drop k).take i.size).map (cv E)) (r.cellsAt hx hle)
          have hlen : (((x.cells.drop k).take i.size).map (cv E)).length = i.size := by simp; omega
          rw [hlen] at hc
          simp only [ct, normA_eq]
          simp [Instr.loadAt, Instr.sureAddr, loadVar, run_aggB hd, hag, sizeOf, typeInfo, hi, hc]
        · cases hv
      · cases hv
    · rename_i hag
      split at hv
      · rename_i y hy
        obtain rfl := Option.some.inj hv
        refine ⟨?_, r.bnd b x hx y (List.mem_of_getElem? hy)⟩
        have hc := r.cell hx hy
        simp [Instr.loadAt, Instr.sureAddr, loadVar, run_aggB hd, hag, hc, ct, cp]
      · cases hv
  · cases hv
/-! ### A store -/
def eStore (P : Program) (h : H) (ty : TypeId) (b k : Nat) (v : TV) : Option H :=
  match hget h b, P.info? ty, cellsT v with
  | some x, some i, some l => if l.length = i.size ∧ k + l.length ≤ x.cells.length ∧ l.all one = true then some (hput h b (.blk ⟨x.cells.take k ++ l ++ x.cells.drop (k + l.length), x.elem, x.full⟩)) else none
  | _, _, _ => none
theorem eStore_run {P : Program} {E : Env} {h : H} {B : Bd} {w : World} (r : HR E h B w) {ty b k : Nat} {v : TV} (hb : bdT h v = true) {h' : H} (hv : eStore P h ty b k v = some h') :
    ∃ w', (Instr.storeAt ty (.pointer (some ⟨E.s b, k, none⟩)) (ct E v)).run P w = .ok () w' ∧ Step E h B w E h' w' := by
  unfold eStore at hv
  split at hv
  · rename_i x i l hx hi hl
    split at hv
    · rename_i hc
      obtain ⟨h1, h2, h3⟩ := hc
      obtain rfl := Option.some.inj hv
      obtain ⟨hB, sp, hh, hf⟩ := r.blk b x hx
      have hcells := cellsT_eq hl E
      have hst := run_storeCells_at P (E.s b) k x.elem (l.map (cv E)) 0 _ w hh (by simp; omega) (by
        intro u hu
        obtain ⟨y, hy, rfl⟩ := List.mem_map.1 hu
        exact one_eq (List.all_eq_true.1 h3 y hy) E)
      have hrow : (((x.cells.map (cv E) ++ sp).toArray.toList.take (k + 0) ++ l.map (cv E) ++ (x.cells.map (cv E) ++ sp).toArray.toList.drop (k + 0 + (l.map (cv E)).length)).toArray) =
          ((x.cells.take k ++ l ++ x.cells.drop (k + l.length)).map (cv E) ++ sp).toArray := by
        simp only [Nat.add_zero, List.length_map, List.map_append, List.append_assoc]
        rw [List.take_append_of_le_length (by simp; omega), List.drop_append_of_le_length (by simp; omega), List.map_take, List.map_drop]
      rw [hrow] at hst
      refine ⟨_, ?_, step_set r hx (x.cells.take k ++ l ++ x.cells.drop (k + l.length)) ?_ (by simp; omega) sp ⟨sp, hh, rfl, hf⟩⟩
      · simp only [Instr.storeAt, Instr.sureAddr, Sem.run_bind, Sem.run_pure, Result.andThen_ok, storeVar, sizeOf, typeInfo, run_program, hi, hcells]
        rw [Sem.run_ite, if_neg (by simp [h1])]
        simpa using hst
      · intro y hy
        rcases List.mem_append.1 hy with hy | hy
        · rcases List.mem_append.1 hy with hy | hy
          · exact r.bnd b x hx y (List.mem_of_mem_take hy)
          · exact cellsT_bd hl hb y hy
        · exact r.bnd b x hx y (List.mem_of_mem_drop hy)
    · cases hv
  · cases hv
/-! ### Addresses -/
def eField (P : Program) (s : TypeId) (b k f : Nat) : Option TV :=
  match P.underlying s with
  | some (.struct fs) => match fs[f]? with
    | some fd => match P.info? fd.type with
      | some i => if i.size = 0 then none else some (.p (.v (.ptr b (k + fd.offset))))
      | none => none
    | none => none
  | _ => none
theorem eField_run {P : Program} {E : Env} {s b k f : Nat} {v : TV} (hv : eField P s b k f = some v) (w : World) :
    (Instr.fieldAt s (.pointer (some ⟨E.s b, k, none⟩)) f).run P w = .ok (ct E v) w ∧ ∃ k', v = .p (.v (.ptr b k')) := by
  unfold eField at hv
  split at hv
  · rename_i fs hfs
    split at hv
    · rename_i fd hfd
      split at hv
      · rename_i i hi
        split at hv
        · cases hv
        · rename_i hz
          obtain rfl := Option.some.inj hv
          refine ⟨?_, _, rfl⟩
          simp [Instr.fieldAt, run_underlying hfs, hfd, Instr.sureAddr, fieldPlace, sizeOf, typeInfo, hi, hz, Addr.add_lit, ct, cp, cv]
      · cases hv
    · cases hv
  · cases hv
def eIndex (P : Program) (ty : TypeId) (b k n : Nat) (i : Value) : Option TV :=
  match P.underlying ty, i with
  | some (.slice e), .int _ j => match P.info? e with
    | some inf => if 0 ≤ j ∧ j < n then some (.p (.v (.ptr b (k + j.toNat * inf.size)))) else none
    | none => none
  | _, _ => none
theorem eIndex_run {P : Program} {E : Env} {ty b k n c : Nat} {i : Value} {v : TV} (hv : eIndex P ty b k n i = some v) (w : World) :
    (Instr.indexAt ty (.slice (some ⟨E.s b, k, none⟩) n c) i).run P w = .ok (ct E v) w ∧ ∃ k', v = .p (.v (.ptr b k')) := by
  unfold eIndex at hv
  split at hv
  · rename_i e kk j hu
    split at hv
    · rename_i inf hi
      split at hv
      · rename_i hc
        obtain rfl := Option.some.inj hv
        refine ⟨?_, _, rfl⟩
        have hel : P.elem ty = e := by simp [Program.elem, hu]
        rw [run_indexAt_slice (h := by rw [hel]; exact hu), if_pos hc]
        simp [hel, sizeOf, typeInfo, hi, Addr.add_lit, ct, cp, cv]
      · cases hv
    · cases hv
  · cases hv
/-! ### New variables -/
def eNew (h : H) (id : Nat) (elem : TypeId) (cells : List AV) : Option (TV × H) := if has h id then none else some (.p (.v (.ptr id 0)), hput h id (.blk ⟨cells, elem, none⟩))
theorem eNew_step {E : Env} {h : H} {B : Bd} {w : World} (r : HR E h B w) {id elem : Nat} {cells : List AV} {p : TV × H} (hv : eNew h id elem cells = some p) (hc : ∀ v ∈ cells, bd h v = true) :
    ∃ E', ct E' p.1 = .pointer (some ⟨w.heap.size, 0, none⟩) ∧ Step E h B w E' p.2 (w.alloc (.cells (cells.map (cv E)).toArray elem (0, 0))) ∧ bdT p.2 p.1 = true := by
  unfold eNew at hv
  split at hv
  · cases hv
  · rename_i hid
    obtain rfl := Option.some.inj hv
    have := step_new r (Bel.refl B w) rfl (by simpa using hid) cells hc elem none [] 0 rfl
    rw [List.append_nil] at this
    refine ⟨_, ?_, this, ?_⟩
    · simp [ct, cp, cv, Env.set_s]
    · simp [bdT, bdP, bd, has_put]

/-! ### Parts laid into cells -/
def aset (cs : List AV) (off : Nat) : List AV → List AV
  | [] => cs
  | c :: r => aset (cs.set off c) (off + 1) r
def afill (place : Nat → Option (Nat × Nat)) (cells : List AV) : List (Nat × TV) → Option (List AV)
  | [] => some cells
  | (i, v) :: rest => match place i, cellsT v with
    | some (off, size), some l => if l.length = size ∧ off + l.length ≤ cells.length then afill place (aset cells off l) rest else none
    | _, _ => none
theorem aset_length : ∀ (l cs : List AV) (off : Nat), (aset cs off l).length = cs.length
  | [], cs, off => rfl
  | c :: r, cs, off => by rw [aset, aset_length r, List.length_set]
theorem aset_mem {h : H} : ∀ (l cs : List AV) (off : Nat), (∀ x ∈ l, bd h x = true) → (∀ x ∈ cs, bd h x = true) → ∀ x ∈ aset cs off l, bd h x = true
  | [], cs, off, _, hc => hc
  | c :: r, cs, off, hl, hc => by
    rw [aset]
    refine aset_mem r _ _ (fun x hx => hl x (by simp [hx])) (fun x hx => ?_)
    rcases List.mem_or_eq_of_mem_set hx with hx | rfl
    · exact hc x hx
    · exact hl _ (by simp)
theorem aset_eq (f : AV → Value) (off : Nat) : ∀ (l cs : List AV) (s : Nat),
    ((l.map f).zipIdx s).foldl (fun (cs : Array Value) (p : Value × Nat) => cs.setIfInBounds (off + p.2) p.1) (cs.map f).toArray = ((aset cs (off + s) l).map f).toArray
  | [], cs, s => rfl
  | c :: r, cs, s => by
    rw [List.map_cons, List.zipIdx_cons, List.foldl_cons, aset]
    have : (cs.map f).toArray.setIfInBounds (off + s) (f c) = ((cs.set (off + s) c).map f).toArray := by
      rw [List.setIfInBounds_toArray, List.map_set]
    rw [this, aset_eq f off r, Nat.add_assoc]
theorem afill_eq (E : Env) (place : Nat → Option (Nat × Nat)) : ∀ (parts : List (Nat × TV)) (cells cs : List AV), afill place cells parts = some cs →
    Instr.fill place (cells.map (cv E)).toArray (parts.map fun p => (p.1, ct E p.2)) = some (cs.map (cv E)).toArray
  | [], cells, cs, h => by simp only [afill, Option.some.injEq] at h; subst h; rfl
  | (i, v) :: rest, cells, cs, h => by
    simp only [afill] at h
    split at h
    · rename_i off size l hp hl
      split at h
      · rename_i hc
        simp only [List.map_cons, Instr.fill, hp, cellsT_eq hl E]
        rw [if_neg (by simp [hc.1]; omega)]
        have e := aset_eq (cv E) off l cells 0
        rw [Nat.add_zero] at e
        have := afill_eq E place rest _ cs h
        rw [← e] at this
        rw [← this]
        congr 1
        rw [← Array.foldl_toList, Array.toList_zipIdx]
      · cases h
    · cases h
theorem afill_bd {h : H} (place : Nat → Option (Nat × Nat)) : ∀ (parts : List (Nat × TV)) (cells cs : List AV), afill place cells parts = some cs → (∀ p ∈ parts, bdT h p.2 = true) → (∀ x ∈ cells, bd h x = true) → ∀ x ∈ cs, bd h x = true
  | [], cells, cs, hf, _, hc => by simp only [afill, Option.some.injEq] at hf; subst hf; exact hc
  | (i, v) :: rest, cells, cs, hf, hp, hc => by
    simp only [afill] at hf
    split at hf
    · rename_i off size l hpl hl
      split at hf
      · exact afill_bd place rest _ cs hf (fun p hq => hp p (by simp [hq])) (aset_mem l cells off (cellsT_bd hl (hp (i, v) (by simp))) hc)
      · cases hf
    · cases hf
def opds (t : List TV) : List (Nat × Operand) → Option (List (Nat × TV))
  | [] => some []
  | (i, x) :: r => match opd t x, opds t r with
    | some v, some l => some ((i, v) :: l)
    | _, _ => none
theorem opds_eq {T : Tab} {E : Env} {t : List TV} {h : H} {q : List Fact} {B : Bd} {a : Act} {w : World} (k : Ok T E t h q B a w) : ∀ (l : List (Nat × Operand)) (vs : List (Nat × TV)), opds t l = some vs →
    (l.map fun p => (p.1, a.eval p.2)) = (vs.map fun p => (p.1, ct E p.2)) ∧ ∀ p ∈ vs, bdT h p.2 = true
  | [], vs, hv => by simp only [opds, Option.some.injEq] at hv; subst hv; exact ⟨rfl, fun p hp => by simp at hp⟩
  | (i, x) :: r, vs, hv => by
    simp only [opds] at hv
    split at hv
    · rename_i v l hx hl
      obtain rfl := Option.some.inj hv
      obtain ⟨e, b⟩ := opds_eq k r l hl
      refine ⟨by rw [List.map_cons, List.map_cons, e, k.eval hx], fun p hp => ?_⟩
      rcases List.mem_cons.1 hp with rfl | hp
      · exact k.bdo hx
      · exact b p hp
    · cases hv
/-! ### A struct -/
def plc (P : Program) : List Field → Option (List (Nat × Nat))
  | [] => some []
  | f :: r => match P.info? f.type, plc P r with
    | some i, some l => some ((f.offset, i.size) :: l)
    | _, _ => none
theorem plc_run {P : Program} (w : World) : ∀ (fs : List Field) (l : List (Nat × Nat)), plc P fs = some l → (fs.mapM fun f => do pure (f.offset, ← sizeOf f.type) : Sem (List (Nat × Nat))).run P w = .ok l w
  | [], l, h => by simp only [plc, Option.some.injEq] at h; subst h; simp
  | f :: r, l, h => by
    simp only [plc] at h
    split at h
    · rename_i i l' hi hl
      obtain rfl := Option.some.inj h
      have ih := plc_run w r l' hl
      simp [List.mapM_cons, sizeOf, typeInfo, hi] at ih ⊢
      simp [ih]
    · cases h
def zeroOf (P : Program) (t : TypeId) : Option Value := (P.info? t).bind (·.zero)
theorem zeroOf_run {P : Program} {t : TypeId} {z : Value} (h : zeroOf P t = some z) (w : World) : (zeroValue t).run P w = .ok z w := by
  unfold zeroOf at h
  cases hi : P.info? t with
  | none => rw [hi] at h; cases h
  | some i =>
    rw [hi] at h
    simp only [Option.bind_some] at h
    simp [zeroValue, typeInfo, hi, h]
def eBuild (P : Program) (t : List TV) (ty : TypeId) (parts : Array (Nat × Operand)) : Option TV :=
  match zeroOf P ty, P.underlying ty, opds t parts.toList with
  | some z, some (.struct fs), some ps => match plc P fs.toList with
    | some pl => match afill (fun i => pl[i]?) (z.cells.toList.map .val) ps with
      | some cs => some (.p (normA cs))
      | none => none
    | none => none
  | _, _, _ => none
theorem eBuild_run {P : Program} {T : Tab} {E : Env} {t : List TV} {h : H} {q : List Fact} {B : Bd} {a : Act} {w : World} (k : Ok T E t h q B a w) {ty : TypeId} {parts : Array (Nat × Operand)} {v : TV} (hv : eBuild P t ty parts = some v) (w' : World) :
    (Instr.build ty (parts.map fun (i, x) => (i, a.eval x))).run P w' = .ok (ct E v) w' ∧ bdT h v = true := by
  unfold eBuild at hv
  split at hv
  · rename_i z fs ps hz hu hps
    split at hv
    · rename_i pl hpl
      split at hv
      · rename_i cs hcs
        obtain rfl := Option.some.inj hv
        obtain ⟨e, hb⟩ := opds_eq k _ _ hps
        refine ⟨?_, normA_bd (afill_bd _ ps _ cs hcs hb (fun x hx => by obtain ⟨u, _, rfl⟩ := List.mem_map.1 hx; rfl))⟩
        have hf := afill_eq E _ ps _ cs hcs
        rw [map_val] at hf
        have hp := plc_run w' _ _ hpl
        have he : (parts.map fun (i, x) => (i, a.eval x)).toList = ps.map fun p => (p.1, ct E p.2) := by rw [Array.toList_map]; exact e
        unfold Instr.build
        simp only [Sem.run_bind, zeroOf_run hz, Result.andThen_ok, run_underlying hu, Array.mapM_eq_mapM_toList, Sem.run_map, hp, he, List.getElem?_toArray]
        rw [show z.cells = (z.cells.toList).toArray by simp, hf]
        simp only [Sem.run_pure, ct, normA_eq]
      · cases hv
    · cases hv
  · cases hv
/-! ### A slice of its own -/
def eBuildSlice (P : Program) (t : List TV) (h : H) (id : Nat) (ty : TypeId) (len : Nat) (parts : Array (Nat × Operand)) : Option (TV × H) :=
  match P.underlying ty, opds t parts.toList with
  | some (.slice e), some ps => match P.info? e, zeroOf P e with
    | some i, some z => if len * i.size > 16777216 ∨ has h id = true then none else
      match afill (fun j => some (j * i.size, i.size)) ((List.range (len * i.size)).map fun j => .val (z.cells[j % z.cells.size]!)) ps with
      | some cs => some (.p (.v (.sl id 0 len (some len))), hput h id (.blk ⟨cs, e, none⟩))
      | none => none
    | _, _ => none
  | _, _ => none
theorem eBuildSlice_run {P : Program} {T : Tab} {E : Env} {t : List TV} {h : H} {q : List Fact} {B : Bd} {a : Act} {w : World} (k : Ok T E t h q B a w) {id : Nat} {ty : TypeId} {len : Nat} {parts : Array (Nat × Operand)} {r : TV × H} (hv : eBuildSlice P t h id ty len parts = some r) :
    ∃ E' w', (Instr.buildSlice ty len (parts.map fun (i, x) => (i, a.eval x))).run P w = .ok (ct E' r.1) w' ∧ Step E h B w E' r.2 w' ∧ bdT r.2 r.1 = true := by
  unfold eBuildSlice at hv
  split at hv
  · rename_i e ps hu hps
    split at hv
    · rename_i i z hi hz
      split at hv
      · cases hv
      · rename_i hn
        split at hv
        · rename_i cs hcs
          obtain rfl := Option.some.inj hv
          obtain ⟨he, hb⟩ := opds_eq k _ _ hps
          have hid : has h id = false := by simpa using fun q => hn (.inr q)
          have hsz : ¬ (len * i.size > 16777216) := fun q => hn (.inl q)
          have hbd := afill_bd _ ps _ cs hcs hb (fun x hx => by obtain ⟨u, _, rfl⟩ := List.mem_map.1 hx; rfl)
          have st := step_new k.hr (Bel.refl B w) rfl hid cs hbd e none [] 0 rfl
          rw [List.append_nil] at st
          refine ⟨_, _, ?_, st, by simp [bdT, bdP, bd, has_put]⟩
          have hf := afill_eq E _ ps _ cs hcs
          have he' : (parts.map fun (i, x) => (i, a.eval x)).toList = ps.map fun p => (p.1, ct E p.2) := by rw [Array.toList_map]; exact he
          have hr : ∀ zz : Array Value, (len * i.size = 0 ∨ zz = z.cells) → (Array.range (len * i.size)).map (fun j => zz[j % zz.size]!) = (((List.range (len * i.size)).map fun j => AV.val (z.cells[j % z.cells.size]!)).map (cv E)).toArray := by
            intro zz hzz
            by_cases h0 : len * i.size = 0
            · simp [h0]
            · rcases hzz with hzz | rfl
              · exact absurd hzz h0
              simp only [List.map_map]
              apply Array.ext'
              simp [Array.toList_range, cv, Function.comp_def]
          unfold Instr.buildSlice
          have hsz' : ¬ (len * i.size > 2 ^ 24) := hsz
          simp only [Sem.run_bind, run_underlying hu, Result.andThen_ok, sizeOf, typeInfo, run_program, hi, Sem.run_pure, Sem.run_ite, hsz', if_false, zeroOf_run hz, he']
          by_cases h0 : len * i.size = 0
          · rw [if_pos h0, hr #[] (.inl h0), hf]
            simp [newRow, ct, cp, cv, Env.set_s]
          · rw [if_neg h0, hr _ (.inr rfl), hf]
            simp [newRow, ct, cp, cv, Env.set_s]
        · cases hv
    · cases hv
  · cases hv
/-! ### A closure -/
def capL (t : List TV) : List Operand → Option (List (Nat × Nat))
  | [] => some []
  | x :: r => match opd t x, capL t r with
    | some (.p (.v (.ptr b o))), some l => some ((b, o) :: l)
    | _, _ => none
theorem capL_eq {T : Tab} {E : Env} {t : List TV} {h : H} {q : List Fact} {B : Bd} {a : Act} {w : World} (k : Ok T E t h q B a w) : ∀ (l : List Operand) (cs : List (Nat × Nat)), capL t l = some cs → l.map a.eval = cs.map E.ad ∧ ∀ p ∈ cs, has h p.1 = true
  | [], cs, hc => by simp only [capL, Option.some.injEq] at hc; subst hc; exact ⟨rfl, fun p hp => by simp at hp⟩
  | x :: r, cs, hc => by
    simp only [capL] at hc
    split at hc
    · rename_i b o l hx hl
      obtain rfl := Option.some.inj hc
      obtain ⟨e, hb⟩ := capL_eq k r l hl
      refine ⟨by rw [List.map_cons, List.map_cons, e, k.eval hx]; rfl, fun p hp => ?_⟩
      rcases List.mem_cons.1 hp with rfl | hp
      · exact k.bdo hx
      · exact hb p hp
    · cases hc
/-! ### A map that is known entry by entry -/
/-- No list is known; no other map. -/
def sole (h : H) (b : Nat) : Bool := h.all fun p => match p.2 with
  | .lst _ => false
  | .mp _ _ => Nat.beq p.1 b
  | _ => true
theorem sole_lk {h : H} {b : Nat} (hn : sole h b = true) (c j : Nat) : lk h c j = .gone := by
  unfold lk
  split
  · rename_i l hl
    have := List.all_eq_true.1 hn _ (look_in hl)
    cases this
  · rfl
theorem sole_mp {h : H} {b c : Nat} {m : List MapEntry × Nat} (hn : sole h b = true) (hm : mget h c = some m) : c = b := by
  unfold mget at hm
  split at hm
  · rename_i es n hl
    exact Nat.eq_of_beq_eq_true (List.all_eq_true.1 hn _ (look_in hl))
  · cases hm
theorem LR.none {E : Env} {h : H} {B : Bd} {w : World} (hn : ∀ b j, lk h b j = .gone) : LR E h B w :=
  ⟨fun b j => by rw [hn]; trivial, fun b j k hk => by rw [hn] at hk; exact hk.elim, fun b j ks e ho => (by rw [hn] at ho; cases ho), fun b j ks old ho => (by rw [hn] at ho; cases ho), fun b j ho => (by rw [hn] at ho; exact ho.elim), fun b j k ps os ho => (by rw [hn] at ho; cases ho), fun b j k ps os ho => (by rw [hn] at ho; cases ho), fun b j x y ho => (by rw [hn] at ho; cases ho), fun b j k ho => (by rw [hn] at ho; cases ho)⟩
theorem lk_put_mp {h : H} (hn : ∀ c j, lk h c j = .gone) (b : Nat) (es : List MapEntry) (n c j : Nat) : lk (hput h b (.mp es n)) c j = .gone := by
  by_cases e : b = c
  · subst e; exact lk_mp _ _ _ _ _
  · rw [lk_ne _ e]; exact hn c j
theorem get_put_mp {h : H} {b : Nat} {es : List MapEntry} {n c : Nat} {x : AB} (hx : hget (hput h b (.mp es n)) c = some x) : c ≠ b ∧ hget h c = some x := by
  by_cases e : b = c
  · subst e; rw [hget_mp] at hx; cases hx
  · rw [hget_ne _ e] at hx; exact ⟨fun q => e q.symm, hx⟩
theorem step_mnew {E : Env} {h : H} {B : Bd} {w : World} (r : HR E h B w) {id b : Nat} (hid : has h id = false) (hn : sole h b = true) :
    Step E h B w (E.set id w.heap.size 0) (hput h id (.mp [] 0)) (w.alloc (.map #[] 0)) := by
  have ag := ag_set hid E w.heap.size 0
  refine ⟨ag, sub_put _ _ _, ⟨by have := r.low; simp; omega, fun c x hx => ?_, fun c d x y hx hy he => ?_, fun c x hx v hv => ?_, fun c m hm => ?_, LR.none fun c j => lk_put_mp (sole_lk hn) _ _ _ _ _⟩, (Bel.refl _ _).alloc r.low _⟩
  · obtain ⟨e, hx⟩ := get_put_mp hx
    obtain ⟨h1, sp, h2, h3⟩ := r.blk c x hx
    rw [(E.set_ne _ 0 e).1, (E.set_ne w.heap.size 0 e).2]
    refine ⟨h1, sp, ?_, h3⟩
    rw [heap_alloc_old w _ _ (r.lt hx), ← cvs_ag ag (r.bnd c x hx), h2]
  · obtain ⟨e, hx⟩ := get_put_mp hx
    obtain ⟨f, hy⟩ := get_put_mp hy
    rw [(E.set_ne _ 0 e).1, (E.set_ne _ 0 f).1] at he
    exact r.inj c d x y hx hy he
  · exact bd_sub (sub_put _ _ _) (r.bnd c x (get_put_mp hx).2 v hv)
  · by_cases e : c = id
    · subst e
      rw [mget_same] at hm
      obtain rfl := Option.some.inj hm
      rw [Env.set_s]
      exact ⟨.inl r.low, heap_alloc_new _ _⟩
    · rw [mget_ne _ (fun q => e q.symm)] at hm
      rw [(E.set_ne _ 0 e).1]
      refine ⟨(r.mps c m hm).1, ?_⟩
      rw [heap_alloc_old w _ _ (r.mlt hm)]
      exact (r.mps c m hm).2
theorem step_mset {E : Env} {h : H} {B : Bd} {w : World} (r : HR E h B w) {b : Nat} {m : List MapEntry × Nat} (hb : mget h b = some m) (hn : sole h b = true) (es : List MapEntry) (n : Nat) :
    Step E h B w E (hput h b (.mp es n)) { w with heap := w.heap.setIfInBounds (E.s b) (.map es.toArray n) } := by
  have other : ∀ k, k ≠ E.s b → ({ w with heap := w.heap.setIfInBounds (E.s b) (.map es.toArray n) } : World).heap[k]? = w.heap[k]? := fun k hk => Array.getElem?_setIfInBounds_ne (fun q => hk q.symm)
  refine ⟨Ag.refl _ _, sub_put _ _ _, ⟨by simpa using r.low, fun c x hx => ?_, fun c d x y hx hy he => ?_, fun c x hx v hv => ?_, fun c m' hm => ?_, LR.none fun c j => lk_put_mp (sole_lk hn) _ _ _ _ _⟩, ⟨rfl, rfl, rfl, by simp, fun k hk => other k (fun e => hk (e ▸ (r.mps b m hb).1))⟩⟩
  · obtain ⟨e, hx⟩ := get_put_mp hx
    obtain ⟨h1, sp, h2, h3⟩ := r.blk c x hx
    exact ⟨h1, sp, by rw [other _ (fun q => r.mne hb h2 q.symm)]; exact h2, h3⟩
  · exact r.inj c d x y (get_put_mp hx).2 (get_put_mp hy).2 he
  · exact bd_sub (sub_put _ _ _) (r.bnd c x (get_put_mp hx).2 v hv)
  · by_cases e : c = b
    · subst e
      rw [mget_same] at hm
      obtain rfl := Option.some.inj hm
      refine ⟨(r.mps c m hb).1, ?_⟩
      have := r.mlt hb
      simp [this]
    · rw [mget_ne _ (fun q => e q.symm)] at hm
      exact absurd (sole_mp hn hm) e
def intKey : TypeDesc → Value → Bool
  | .int _, .int _ _ => true
  | _, _ => false
theorem run_intKey {P : Program} {w : World} {kt : TypeId} {d : TypeDesc} {k : Value} (hd : P.underlying kt = some d) (hk : intKey d k = true) (e : Bool) (n : Nat) : (Instr.checkKey e (n + 1) kt k).run P w = .ok () w := by
  unfold Instr.checkKey
  simp only [Sem.run_bind, run_underlying hd, Result.andThen]
  cases d <;> cases k <;> simp_all [intKey]
theorem run_found {P : Program} {w : World} {kt : TypeId} {d : TypeDesc} {k : Value} {l : List MapEntry} {a : Option (Nat × Value)} (hd : P.underlying kt = some d) (h : Instr.findNow d k l 0 = some a) : (Instr.findKey kt k l).run P w = .ok a w := by
  simp [Instr.findKey, run_underlying hd, Result.andThen, h]
theorem run_mget {P : Program} {w : World} {r : Nat} {es : Array MapEntry} {clock : Nat} (hb : w.heap[r]? = some (.map es clock)) : (getObj r).run P w = .ok (.map es clock) w := by
  simp [getObj, Sem.run, hb]
theorem run_mset {P : Program} {w : World} {r : Nat} {es : Array MapEntry} {clock : Nat} (o : Obj) (hb : w.heap[r]? = some (.map es clock)) : (setObj r o).run P w = .ok () { w with heap := w.heap.setIfInBounds r o } := by
  simp [setObj, Sem.run, hb]
/-- A look into a map; a new entry. -/
def eMLook (P : Program) (h : H) (ty b : Nat) (key : Value) (ok : Bool) : Option Value :=
  match P.underlying ty, mget h b with
  | some (.map kt el), some m => match P.underlying kt with
    | some d => bif intKey d key then match Instr.findNow d key m.1 0 with
        | some (some x) => some (bif ok then .tuple #[x.2, .bool true] else x.2)
        | some none => match zeroOf P el with
          | some z => some (bif ok then .tuple #[z, .bool false] else z)
          | none => none
        | none => none
      else none
    | none => none
  | _, _ => none
def eMPut (P : Program) (h : H) (ty b : Nat) (key v : Value) : Option H :=
  match P.underlying ty, mget h b with
  | some (.map kt _), some m => match P.underlying kt with
    | some d => bif intKey d key && sole h b then match Instr.findNow d key m.1 0 with
        | some none => some (hput h b (.mp (m.1 ++ [⟨key, v, m.2⟩]) (m.2 + 1)))
        | _ => none
      else none
    | none => none
  | _, _ => none
theorem eMLook_run {P : Program} {E : Env} {h : H} {B : Bd} {w : World} (r : HR E h B w) {ty b : Nat} {key v : Value} {ok : Bool} (hv : eMLook P h ty b key ok = some v) : (Instr.lookup ty (.map (some (E.s b))) key ok).run P w = .ok v w := by
  unfold eMLook at hv
  split at hv
  · rename_i kt el m hu hm
    split at hv
    · rename_i d hd
      cases hk : intKey d key with
      | false => rw [hk] at hv; cases hv
      | true =>
        rw [hk, cond_true] at hv
        have hg := (r.mps b m hm).2
        split at hv
        · rename_i x hf
          obtain rfl := Option.some.inj hv
          cases ok <;> simp [Instr.lookup, run_underlying hu, run_mget hg, run_intKey hd hk, run_found hd hf, Result.andThen]
        · rename_i hf
          split at hv
          · rename_i z hz
            obtain rfl := Option.some.inj hv
            cases ok <;> simp [Instr.lookup, run_underlying hu, run_mget hg, run_intKey hd hk, run_found hd hf, zeroOf_run hz, Result.andThen]
          · cases hv
        · cases hv
    · cases hv
  · cases hv
theorem eMPut_run {P : Program} {E : Env} {h : H} {B : Bd} {w : World} (r : HR E h B w) {ty b : Nat} {key v : Value} {h' : H} (hv : eMPut P h ty b key v = some h') : ∃ w', (Instr.mapUpdate ty (.map (some (E.s b))) key v).run P w = .ok () w' ∧ Step E h B w E h' w' := by
  unfold eMPut at hv
  split at hv
  · rename_i kt el m hu hm
    split at hv
    · rename_i d hd
      cases hk : (intKey d key && sole h b) with
      | false => rw [hk] at hv; cases hv
      | true =>
        rw [hk, cond_true] at hv
        rw [Bool.and_eq_true] at hk
        have hg := (r.mps b m hm).2
        split at hv
        · rename_i hf
          obtain rfl := Option.some.inj hv
          refine ⟨_, ?_, step_mset r hm hk.2 _ _⟩
          simp [Instr.mapUpdate, run_underlying hu, run_mget hg, run_intKey hd hk.1, run_found hd hf, run_mset _ hg, Result.andThen]
        · cases hv
    · cases hv
  · cases hv
/-! ### One operation -/
def eVal (P : Program) (t : List TV) (h : H) (o : Oper) : Option (TV × H) :=
  match ePure P t o with
  | some (.value v) => some (av v, h)
  | some .skip => some (uv, h)
  | _ => none
def eOp (P : Program) (t : List TV) (h : H) (id : Nat) (o : Oper) : Option (TV × H) :=
  match o.op with
  | .move x | .assign x => match opd t x with | some v => some (v, h) | none => none
  | .pick c x y => match opd t c with
    | some (.p (.v (.val (.bool true)))) => match opd t x with | some v => some (v, h) | none => none
    | some (.p (.v (.val (.bool false)))) => match opd t y with | some v => some (v, h) | none => none
    | _ => none
  | .alloc ty => match zeroOf P ty with
    | some z => eNew h id ty (z.cells.toList.map .val)
    | none => none
  | .box ty x => match (opd t x).bind cellsT with
    | some l => eNew h id ty l
    | none => none
  | .build ty parts => match eBuild P t ty parts with
    | some v => some (v, h)
    | none => eVal P t h o
  | .buildSlice ty len parts => eBuildSlice P t h id ty len parts
  | .load ty x => match opd t x with
    | some (.p (.v (.ptr b k))) => match eLoad P h ty b k with | some v => some (v, h) | none => none
    | _ => none
  | .store ty x y => match opd t x, opd t y with
    | some (.p (.v (.ptr b k))), some v => match eStore P h ty b k v with | some h' => some (uv, h') | none => none
    | _, _ => none
  | .nilCheck x => match opd t x with
    | some (.p (.v (.ptr b k))) => some (.p (.v (.ptr b k)), h)
    | some (.p (.v (.fn f c))) => some (.p (.v (.fn f c)), h)
    | _ => eVal P t h o
  | .fieldAddr s x f => match opd t x with
    | some (.p (.v (.ptr b k))) => match eField P s b k f with | some v => some (v, h) | none => none
    | _ => none
  | .indexAddr ty x i => match opd t x, opd t i with
    | some (.p (.v (.sl b k n c))), some (.p (.v (.val j))) => match eIndex P ty b k n j with | some v => some (v, h) | none => none
    | _, _ => none
  | .extract x i => match opd t x with
    | some (.tup l) => match l[i]? with | some p => some (.p p, h) | none => none
    | _ => eVal P t h o
  | .makeFunc (.func f) first cap => if first.isEmpty then match capL t cap.toList with
      | some cs => some (.p (.v (.fn f cs)), h)
      | none => none
    else none
  | .binOp .eql ty x y yt => match opd t x, opd t y, P.underlying ty with
    | some (.p (.v (.ptr b k))), some (.p (.v (.val (.pointer none)))), some (.pointer _) => some (av (.bool false), h)
    | _, _, _ => eVal P t h o
  | .binOp .neq ty x y yt => match opd t x, opd t y, P.underlying ty with
    | some (.p (.v (.ptr b k))), some (.p (.v (.val (.pointer none)))), some (.pointer _) => some (av (.bool true), h)
    | _, _, _ => eVal P t h o
  | .call ⟨.builtin .len, args, ats⟩ => match args.toList, ats.toList with
    | [x], [ty] => match opd t x, P.underlying ty with
      | some (.p (.v (.sl b k n c))), some (.slice _) => some (av (.int .i64 n), h)
      | _, _ => eVal P t h o
    | _, _ => none
  | .makeMap ty none => bif !(has h id) && sole h id then some (.p (.v (.mr id)), hput h id (.mp [] 0)) else none
  | .lookup ty x i ok => match opd t x, (opd t i).bind clT with
    | some (.p (.v (.mr b))), some key => match eMLook P h ty b key ok with | some v => some (av v, h) | none => none
    | _, _ => eVal P t h o
  | .mapUpdate ty x i y => match opd t x, (opd t i).bind clT, (opd t y).bind clT with
    | some (.p (.v (.mr b))), some key, some v => match eMPut P h ty b key v with | some h' => some (uv, h') | none => none
    | _, _, _ => none
  | _ => eVal P t h o
section
variable {P : Program} {T : Tab} {E : Env} {t : List TV} {h : H} {q : List Fact} {B : Bd} {a : Act} {w : World} {o : Oper} {r : TV × H}
theorem eVal_does (k : Ok T E t h q B a w) (hr : eVal P t h o = some r) : Does P o a B E h w r := by
  unfold eVal at hr
  split at hr
  · rename_i v hp
    obtain rfl := Option.some.inj hr
    exact ⟨E, w, _, ePure_run k hp w, .inl rfl, Step.refl k.hr, rfl⟩
  · rename_i hp
    obtain rfl := Option.some.inj hr
    exact ⟨E, w, _, ePure_run k hp w, .inr ⟨rfl, rfl⟩, Step.refl k.hr, rfl⟩
  · cases hr
theorem pointer_ne {P : Program} {ty e : TypeId} (hu : P.underlying ty = some (.pointer e)) : P.underlying ty = some (.pointer (P.pointee ty)) := by
  have : P.pointee ty = e := by simp [Program.pointee, hu]
  rw [this]; exact hu
theorem eOp_does (k : Ok T E t h q B a w) {id : Nat} (hr : eOp P t h id o = some r) : Does P o a B E h w r := by
  obtain ⟨dst, op, ty0, pos, after, guard⟩ := o
  unfold eOp at hr
  simp only at hr
  split at hr
  · -- move
    rename_i x
    split at hr
    · rename_i v hv
      obtain rfl := Option.some.inj hr
      exact Does.same k.hr (k.bdo hv) (by simp [execOp, k.eval hv])
    · cases hr
  · rename_i x hop
    split at hr
    · rename_i v hv
      obtain rfl := Option.some.inj hr
      exact Does.same k.hr (k.bdo hv) (by simp [execOp, k.eval hv])
    · cases hr
  · -- pick
    rename_i c x y
    split at hr
    · rename_i hc
      split at hr
      · rename_i v hv
        obtain rfl := Option.some.inj hr
        refine Does.same k.hr (k.bdo hv) ?_
        simp only [execOp, k.eval hc, k.eval hv, ct, cp, cv, asBool, Sem.run_bind, Sem.run_pure, Result.andThen_ok, if_true]
      · cases hr
    · rename_i hc
      split at hr
      · rename_i v hv
        obtain rfl := Option.some.inj hr
        refine Does.same k.hr (k.bdo hv) ?_
        simp only [execOp, k.eval hc, k.eval hv, ct, cp, cv, asBool, Sem.run_bind, Sem.run_pure, Result.andThen_ok, if_false, Bool.false_eq_true]
      · cases hr
    · cases hr
  · -- alloc
    rename_i ty
    split at hr
    · rename_i z hz
      obtain ⟨E', h1, h2, h3⟩ := eNew_step k.hr hr (fun x hx => by obtain ⟨u, _, rfl⟩ := List.mem_map.1 hx; rfl)
      rw [map_val] at h2
      exact ⟨E', _, _, by simp [execOp, Instr.alloc, zeroOf_run hz, newVar, newRow, h1], .inl rfl, h2, h3⟩
    · cases hr
  · -- box
    rename_i ty x
    split at hr
    · rename_i l hl
      obtain ⟨v, hv, hl⟩ := Option.bind_eq_some_iff.1 hl
      obtain ⟨E', h1, h2, h3⟩ := eNew_step k.hr hr (cellsT_bd hl (k.bdo hv))
      exact ⟨E', _, _, by simp [execOp, Instr.box, k.eval hv, newVar, newRow, h1, cellsT_eq hl], .inl rfl, h2, h3⟩
    · cases hr
  · -- build
    rename_i ty parts
    split at hr
    · rename_i v hv
      obtain rfl := Option.some.inj hr
      obtain ⟨h1, h2⟩ := eBuild_run k hv w
      exact Does.same k.hr h2 (by simp only [execOp, Sem.run_bind, h1, Result.andThen_ok, Sem.run_pure])
    · exact eVal_does k hr
  · -- buildSlice
    rename_i ty len parts
    obtain ⟨E', w', h1, h2, h3⟩ := eBuildSlice_run k hr
    exact ⟨E', w', _, by simp only [execOp, Sem.run_bind, h1, Result.andThen_ok, Sem.run_pure], .inl rfl, h2, h3⟩
  · -- load
    rename_i ty x
    split at hr
    · rename_i b kk hx
      split at hr
      · rename_i v hv
        obtain rfl := Option.some.inj hr
        obtain ⟨h1, h2⟩ := eLoad_run k.hr hv
        refine Does.same k.hr h2 ?_
        simp only [execOp, k.eval hx, ct, cp, cv, Sem.run_bind] at h1 ⊢
        rw [h1]; rfl
      · cases hr
    · cases hr
  · -- store
    rename_i ty x y
    split at hr
    · rename_i b kk v hx hy
      split at hr
      · rename_i h' hv
        obtain rfl := Option.some.inj hr
        obtain ⟨w', h1, h2⟩ := eStore_run k.hr (k.bdo hy) hv
        refine ⟨E, w', .skip, ?_, .inr ⟨rfl, rfl⟩, h2, rfl⟩
        have ex := k.eval hx
        simp only [ct, cp, cv] at ex
        simp only [execOp, ex, k.eval hy, Sem.run_bind, h1, Result.andThen_ok, Sem.run_pure]
      · cases hr
    · cases hr
  · -- nilCheck
    rename_i x
    split at hr
    · rename_i b kk hx
      obtain rfl := Option.some.inj hr
      exact Does.same k.hr (k.bdo hx) (by simp [execOp, k.eval hx, ct, cp, cv])
    · rename_i f c hx
      obtain rfl := Option.some.inj hr
      exact Does.same k.hr (k.bdo hx) (by simp [execOp, k.eval hx, ct, cp, cv])
    · exact eVal_does k hr
  · -- fieldAddr
    rename_i s x f
    split at hr
    · rename_i b kk hx
      split at hr
      · rename_i v hv
        obtain rfl := Option.some.inj hr
        obtain ⟨h1, k', rfl⟩ := eField_run (E := E) hv w
        have ex := k.eval hx
        simp only [ct, cp, cv] at ex
        exact Does.same k.hr (show has h b = true from k.bdo hx) (by simp only [execOp, ex, Sem.run_bind, h1, Result.andThen_ok, Sem.run_pure])
      · cases hr
    · cases hr
  · -- indexAddr
    rename_i ty x i
    split at hr
    · rename_i b kk n c j hx hj
      split at hr
      · rename_i v hv
        obtain rfl := Option.some.inj hr
        obtain ⟨h1, k', rfl⟩ := eIndex_run (E := E) (c := c.getD (E.k b)) hv w
        have ex := k.eval hx
        have ej := k.eval hj
        simp only [ct, cp, cv] at ex ej
        exact Does.same k.hr (show has h b = true from k.bdo hx) (by simp only [execOp, ex, ej, Sem.run_bind, h1, Result.andThen_ok, Sem.run_pure])
      · cases hr
    · cases hr
  · -- extract
    rename_i x i
    split at hr
    · rename_i l hx
      split at hr
      · rename_i p hp
        obtain rfl := Option.some.inj hr
        have hb := k.bdo hx
        simp only [bdT, List.all_eq_true] at hb
        refine Does.same k.hr (hb p (List.mem_of_getElem? hp)) ?_
        have ex := k.eval hx
        simp only [ct] at ex
        simp [execOp, ex, Instr.extract, hp, ct]
      · cases hr
    · exact eVal_does k hr
  · -- makeFunc
    rename_i f first cap
    split at hr
    · rename_i hf
      split at hr
      · rename_i cs hc
        obtain rfl := Option.some.inj hr
        obtain ⟨h1, h2⟩ := capL_eq k _ _ hc
        refine Does.same k.hr (show (cs.all fun p => has h p.1) = true from List.all_eq_true.2 h2) ?_
        have hfe : first = #[] := by simpa using hf
        subst hfe
        have : cap.map a.eval = (cs.map E.ad).toArray := by rw [← h1, ← Array.toList_map, Array.toArray_toList]
        simp [execOp, Instr.makeFunc, this, ct, cp, cv]
      · cases hr
    · cases hr
  · -- eql
    rename_i ty x y yt
    split at hr
    · rename_i b kk e hx hy hu
      obtain rfl := Option.some.inj hr
      refine Does.same k.hr rfl ?_
      have ex := k.eval hx
      have ey := k.eval hy
      simp only [ct, cp, cv] at ex ey
      simp [execOp, ex, ey, eqGuard, run_eql_pointer_nil (h := pointer_ne hu), ct_av]
    · exact eVal_does k hr
  · -- neq
    rename_i ty x y yt
    split at hr
    · rename_i b kk e hx hy hu
      obtain rfl := Option.some.inj hr
      refine Does.same k.hr rfl ?_
      have ex := k.eval hx
      have ey := k.eval hy
      simp only [ct, cp, cv] at ex ey
      simp [execOp, ex, ey, eqGuard, run_neq_pointer_nil (h := pointer_ne hu), ct_av]
    · exact eVal_does k hr
  · -- len
    rename_i args ats
    split at hr
    · rename_i x ty hargs hats
      split at hr
      · rename_i b kk n c e hx hu
        obtain rfl := Option.some.inj hr
        refine Does.same k.hr rfl ?_
        have ex := k.eval hx
        simp only [ct, cp, cv] at ex
        have h1 : args = #[x] := by rw [← Array.toArray_toList (xs := args), hargs]
        have h2 : ats = #[ty] := by rw [← Array.toArray_toList (xs := ats), hats]
        subst h1 h2
        simp [execOp, resolve, invoke, builtin, Builtin.len_, ex, run_underlying hu, goInt, ct_av]
      · exact eVal_does k hr
    · cases hr
  · -- makeMap
    rename_i ty
    cases hc : (!(has h id) && sole h id) with
    | false => rw [hc] at hr; cases hr
    | true =>
      rw [hc, cond_true, Option.some.injEq] at hr
      subst hr
      simp only [Bool.and_eq_true, Bool.not_eq_true'] at hc
      refine ⟨_, _, .value (.map (some w.heap.size)), by simp [execOp, Instr.makeMap, Result.andThen], .inl ?_, step_mnew k.hr hc.1 hc.2, by simp [bdT, bdP, bd, has_put]⟩
      simp [ct, cp, cv, Env.set_s]
  · -- lookup
    rename_i ty x i okk
    split at hr
    · rename_i b key hx hi
      split at hr
      · rename_i v hv
        obtain rfl := Option.some.inj hr
        obtain ⟨u, hu, hcl⟩ := Option.bind_eq_some_iff.1 hi
        have ex := k.eval hx
        simp only [ct, cp, cv] at ex
        refine Does.same k.hr rfl ?_
        simp only [execOp, ex, k.eval hu, clT_eq hcl E, Sem.run_bind, eMLook_run k.hr hv, Result.andThen_ok, Sem.run_pure, ct_av]
      · cases hr
    · exact eVal_does k hr
  · -- mapUpdate
    rename_i ty x i y
    split at hr
    · rename_i b key v hx hi hy
      split at hr
      · rename_i h' hv
        obtain rfl := Option.some.inj hr
        obtain ⟨u, hu, hcl⟩ := Option.bind_eq_some_iff.1 hi
        obtain ⟨u2, hu2, hcl2⟩ := Option.bind_eq_some_iff.1 hy
        have ex := k.eval hx
        simp only [ct, cp, cv] at ex
        obtain ⟨w', h1, h2⟩ := eMPut_run k.hr hv
        exact ⟨E, w', .skip, by simp only [execOp, ex, k.eval hu, clT_eq hcl E, k.eval hu2, clT_eq hcl2 E, Sem.run_bind, h1, Result.andThen_ok, Sem.run_pure], .inr ⟨rfl, rfl⟩, h2, rfl⟩
      · cases hr
    · cases hr
  · exact eVal_does k hr
end

end Go.Proofs.Ytkepkjahbcddlaa.Sy
