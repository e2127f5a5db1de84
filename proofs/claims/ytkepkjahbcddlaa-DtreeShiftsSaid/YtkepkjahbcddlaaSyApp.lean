/- fifth part: append to blocks that are known cell by cell, and whom a call calls. -/
import Derived.Test.YtkepkjahbcddlaaSySym
namespace Go.Proofs.Ytkepkjahbcddlaa.Sy
open Go Go.RowKit
set_option linter.unusedVariables false
set_option linter.unusedSimpArgs false
set_option linter.unusedSectionVars false
variable [Kinds]
/-- A block that goes on under another name, with other cells. -/
theorem step_move {E : Env} {h : H} {B : Bd} {w : World} (r : HR E h B w) {b id : Nat} {x : AB} (hb : hget h b = some x) (hid : has h id = false) (cells : List AV) (hc : ∀ v ∈ cells, bd h v = true) (sp : List Value) (z : Nat)
    (hsp : ∃ sp', w.heap[E.s b]? = some (.cells (x.cells.map (cv E) ++ sp').toArray x.elem (0, 0))) (hl : cells.length + sp.length = E.k b * z) :
    Step E h B w (E.set id (E.s b) (E.k b)) (hput (hput h b .dead) id (.blk ⟨cells, x.elem, some z⟩)) (w.setRow (E.s b) (cells.map (cv E) ++ sp).toArray) := by
  obtain ⟨sp', hh⟩ := hsp
  have ag := ag_set hid E (E.s b) (E.k b)
  have hbid : b ≠ id := by rintro rfl; rw [has_of_get hb] at hid; cases hid
  have sub : Sub h (hput (hput h b .dead) id (.blk ⟨cells, x.elem, some z⟩)) := (sub_put h b .dead).trans (sub_put _ _ _)
  have fix : ∀ {c : Nat} {y : AB}, hget (hput (hput h b .dead) id (.blk ⟨cells, x.elem, some z⟩)) c = some y → (c = id ∧ y = ⟨cells, x.elem, some z⟩) ∨ (c ≠ id ∧ c ≠ b ∧ hget h c = some y) := by
    intro c y hy
    by_cases e : id = c
    · subst e; rw [hget_same] at hy; exact .inl ⟨rfl, (Option.some.inj hy).symm⟩
    · rw [hget_ne _ e] at hy
      by_cases f : b = c
      · subst f; rw [hget_dead] at hy; cases hy
      · rw [hget_ne _ f] at hy; exact .inr ⟨fun q => e q.symm, fun q => f q.symm, hy⟩
  refine ⟨ag, sub, ⟨by rw [setRow_size]; exact r.low, ?_, ?_, ?_, fun c m hm => ?mps, ?_⟩, bel_setRow (Bel.refl _ _) (r.blk b x hb).1 _⟩
  case mps =>
    obtain ⟨e, hm⟩ := mget_put (fun es n => by simp) hm
    obtain ⟨_, hm⟩ := mget_put (fun es n => by simp) hm
    rw [(E.set_ne _ (E.k b) e).1]
    refine ⟨(r.mps c m hm).1, ?_⟩
    rw [setRow_other w _ _ _ (r.mne hm hh)]
    exact (r.mps c m hm).2
  · intro c y hy
    rcases fix hy with ⟨rfl, rfl⟩ | ⟨e, f, hy'⟩
    · refine ⟨by rw [Env.set_s]; exact (r.blk b x hb).1, sp, ?_, ?_⟩
      · rw [Env.set_s, ← cvs_ag ag hc]
        exact setRow_heap w _ _ _ _ _ hh
      · rw [Env.set_k]
        exact hl
    · obtain ⟨h1, sp2, h2, h3⟩ := r.blk c y hy'
      rw [(E.set_ne _ (E.k b) e).1, (E.set_ne (E.s b) _ e).2]
      refine ⟨h1, sp2, ?_, h3⟩
      rw [setRow_other w _ _ _ (fun q => f (r.inj c b y x hy' hb q)), h2, cvs_ag ag (r.bnd c y hy')]
  · intro c d y y' hy hy' he
    rcases fix hy with ⟨rfl, rfl⟩ | ⟨e, f, hc'⟩ <;> rcases fix hy' with ⟨rfl, rfl⟩ | ⟨e', f', hd'⟩
    · rfl
    · rw [Env.set_s, (E.set_ne _ (E.k b) e').1] at he
      exact absurd (r.inj b d x y' hb hd' he) (fun q => f' q.symm)
    · rw [Env.set_s, (E.set_ne _ (E.k b) e).1] at he
      exact absurd (r.inj c b y x hc' hb he) f
    · rw [(E.set_ne _ (E.k b) e).1, (E.set_ne _ (E.k b) e').1] at he
      exact r.inj c d y y' hc' hd' he
  · intro c y hy v hv
    apply bd_sub sub
    rcases fix hy with ⟨rfl, rfl⟩ | ⟨e, f, hy'⟩
    · exact hc v hv
    · exact r.bnd c y hy' v hv
  · have l1 : LR (E.set id (E.s b) (E.k b)) (hput (hput h b .dead) id (.blk ⟨cells, x.elem, some z⟩)) B w := r.lst.names (fun c j => by
        rcases lk_put_blk (hput h b .dead) id ⟨cells, x.elem, some z⟩ c j with e | e
        · rw [e]; exact lk_put_dead h b c j
        · exact .inr e) ag sub (fun c y hy => by
      rcases fix hy with ⟨rfl, rfl⟩ | ⟨e, f, hy'⟩
      · exact .inr ⟨b, x, hb, by rw [Env.set_s]⟩
      · exact .inr ⟨c, y, hy', (E.set_ne _ _ e).1⟩)
    exact l1.world (by rw [setRow_size]; exact Nat.le_refl _) (fun k _ hk => setRow_other w _ _ _ (fun q => hk id ⟨cells, x.elem, some z⟩ (hget_same _ _ _) (by rw [Env.set_s]; exact q.symm)))
/-! ### append -/
def eApp (P : Program) (h : H) (id : Nat) (ty : TypeId) (vs vx : TV) : Option (TV × H) :=
  match P.underlying ty, vx with
  | some (.slice e), .p (.v (.sl b2 k2 m c2)) =>
    match P.info? e, zeroOf P e, hget h b2 with
    | some i, some z, some x2 =>
      if z.cells.size = i.size ∧ 0 < i.size ∧ 0 < m ∧ k2 + m * i.size ≤ x2.cells.length ∧ ((x2.cells.drop k2).take (m * i.size)).all one = true ∧ has h id = false ∧ m ≤ 100000 ∧ i.bytes ≤ 10000 then
        match vs with
        | .p (.v (.val (.slice none 0 0))) => some (.p (.v (.sl id 0 m none)), hput h id (.blk ⟨(x2.cells.drop k2).take (m * i.size), e, some i.size⟩))
        | .p (.v (.sl b 0 n (some c))) => match hget h b with
          | some x => if c < n + m ∧ n * i.size ≤ x.cells.length ∧ n ≤ 100000 then some (.p (.v (.sl id 0 (n + m) none)), hput h id (.blk ⟨x.cells.take (n * i.size) ++ (x2.cells.drop k2).take (m * i.size), e, some i.size⟩)) else none
          | none => none
        | .p (.v (.sl b 0 n none)) => match hget h b with
          | some x => if x.full = some i.size ∧ x.elem = e ∧ n * i.size ≤ x.cells.length ∧ n ≤ 100000 then some (.p (.v (.sl id 0 (n + m) none)), hput (hput h b .dead) id (.blk ⟨x.cells.take (n * i.size) ++ (x2.cells.drop k2).take (m * i.size), e, some i.size⟩)) else none
          | none => none
        | _ => none
      else none
    | _, _, _ => none
  | _, _ => none
theorem zeroCells_len (z : Array Value) (n : Nat) : (Builtin.zeroCells z n).toList.length = n * z.size := by simp [Builtin.zeroCells]
theorem eApp_run {P : Program} {E : Env} {h : H} {B : Bd} {w : World} (r : HR E h B w) {id ty : Nat} {vs vx : TV} (bs : bdT h vs = true) (bx : bdT h vx = true) {p : TV × H} (hp : eApp P h id ty vs vx = some p) (tt : TypeId) :
    ∃ E' w', (Builtin.append_ #[ty, ty] tt #[ct E vs, ct E vx]).run P w = .ok (ct E' p.1) w' ∧ Step E h B w E' p.2 w' ∧ bdT p.2 p.1 = true := by
  unfold eApp at hp
  split at hp
  · rename_i e b2 k2 m c2 hu
    split at hp
    · rename_i i z x2 hi hz hx2
      split at hp
      · rename_i hc
        obtain ⟨c1, c2', c3, c4, c5, c6, c7, c8⟩ := hc
        have hzi : i.zero = some z := by
          unfold zeroOf at hz
          rw [hi] at hz
          exact hz
        have hnl : (((x2.cells.drop k2).take (m * i.size)).map (cv E)).length = m * i.size := by simp; omega
        have hnl' : ((x2.cells.drop k2).take (m * i.size)).length = m * i.size := by simp; omega
        have hnews := r.cellsAt hx2 c4
        have hone : ∀ u ∈ ((x2.cells.drop k2).take (m * i.size)).map (cv E), u.oneCell' = true := by
          intro u hu'
          obtain ⟨y, hy, rfl⟩ := List.mem_map.1 hu'
          exact one_eq (List.all_eq_true.1 c5 y hy) E
        have hnb : ∀ v ∈ (x2.cells.drop k2).take (m * i.size), bd h v = true := fun y hy => r.bnd b2 x2 hx2 y (List.mem_of_mem_drop (List.mem_of_mem_take hy))
        have hby : ∀ n, n ≤ 100000 → (n + m) * i.bytes ≤ 140737488355328 := by
          intro n hn
          have h1 : (n + m) * i.bytes ≤ 200000 * 10000 := Nat.mul_le_mul (by omega) c8
          omega
        split at hp
        · -- nil
          obtain rfl := Option.some.inj hp
          have hb0 := hby 0 (by omega)
          rw [Nat.zero_add] at hb0
          have hr := run_append_nil (P := P) w ty tt e i z hu hi hzi ⟨E.s b2, k2, none⟩ m (c2.getD (E.k b2)) _ hnl hnews c3 (by omega) (by omega)
          have hge := grownCap_ge w m 0 e
          have st := step_new r (w := w.drew) ((Bel.refl B w).drew) rfl c6 ((x2.cells.drop k2).take (m * i.size)) hnb e (some i.size) (Builtin.zeroCells z.cells (grownCap w m 0 e - m)).toList (grownCap w m 0 e) (by
            show _ + _ = _ * i.size
            rw [zeroCells_len, hnl', c1, ← Nat.add_mul]
            congr 1; omega)
          refine ⟨_, _, hr.trans ?_, st, by simp [bdT, bdP, bd, has_put]⟩
          have e1 : (List.map (cv E) ((x2.cells.drop k2).take (m * i.size)) ++ (Builtin.zeroCells z.cells (grownCap w m 0 e - m)).toList).toArray = (List.map (cv E) ((x2.cells.drop k2).take (m * i.size))).toArray ++ Builtin.zeroCells z.cells (grownCap w m 0 e - m) := by
            apply Array.ext'; simp
          rw [e1]
          simp [ct, cp, cv, Env.set_s, Env.set_k]
        · -- grows for sure
          rename_i b n c
          split at hp
          · rename_i x hx
            split at hp
            · rename_i hcc
              obtain ⟨d1, d2, d3⟩ := hcc
              obtain rfl := Option.some.inj hp
              have hol : ((x.cells.take (n * i.size)).map (cv E)).length = n * i.size := by simp; omega
              have holds := r.cellsAt hx (o := 0) (n := n * i.size) (by omega)
              rw [List.drop_zero] at holds
              have hr := run_append_grow (P := P) w ty tt e i z hu hi hzi ⟨E.s b, 0, none⟩ n c _ hol holds ⟨E.s b2, k2, none⟩ m (c2.getD (E.k b2)) _ hnl hnews d1 (by omega) (growslice_fits d1 (hby n d3))
              have hge := grownCap_ge w (n + m) c e
              have st := step_new r (w := w.drew) ((Bel.refl B w).drew) rfl c6 (x.cells.take (n * i.size) ++ (x2.cells.drop k2).take (m * i.size)) (by
                intro y hy
                rcases List.mem_append.1 hy with hy | hy
                · exact r.bnd b x hx y (List.mem_of_mem_take hy)
                · exact hnb y hy) e (some i.size) (Builtin.zeroCells z.cells (grownCap w (n + m) c e - (n + m))).toList (grownCap w (n + m) c e) (by
                show _ + _ = _ * i.size
                rw [zeroCells_len, List.length_append, hnl', c1, List.length_take, Nat.min_eq_left (by omega), ← Nat.add_mul, ← Nat.add_mul]
                congr 1; omega)
              refine ⟨_, _, hr.trans ?_, st, by simp [bdT, bdP, bd, has_put]⟩
              have e1 : (List.map (cv E) (x.cells.take (n * i.size) ++ (x2.cells.drop k2).take (m * i.size)) ++ (Builtin.zeroCells z.cells (grownCap w (n + m) c e - (n + m))).toList).toArray = (List.map (cv E) (x.cells.take (n * i.size))).toArray ++ (List.map (cv E) ((x2.cells.drop k2).take (m * i.size))).toArray ++ Builtin.zeroCells z.cells (grownCap w (n + m) c e - (n + m)) := by
                apply Array.ext'; simp
              rw [e1]
              simp [ct, cp, cv, Env.set_s, Env.set_k]
            · cases hp
          · cases hp
        · -- grows, or not
          rename_i b n
          split at hp
          · rename_i x hx
            split at hp
            · rename_i hcc
              obtain ⟨d1, d2, d3, d4⟩ := hcc
              obtain rfl := Option.some.inj hp
              obtain ⟨hBb, sp, hh, hf⟩ := r.blk b x hx
              have hfull : x.cells.length + sp.length = E.k b * i.size := by rw [d1] at hf; exact hf
              have hcb : ∀ y ∈ x.cells.take (n * i.size) ++ (x2.cells.drop k2).take (m * i.size), bd h y = true := by
                intro y hy
                rcases List.mem_append.1 hy with hy | hy
                · exact r.bnd b x hx y (List.mem_of_mem_take hy)
                · exact hnb y hy
              have hcl : (x.cells.take (n * i.size) ++ (x2.cells.drop k2).take (m * i.size)).length = (n + m) * i.size := by
                rw [List.length_append, hnl', List.length_take, Nat.min_eq_left (by omega), ← Nat.add_mul]
              by_cases hroom : n + m ≤ E.k b
              · have hfit : n * i.size + (((x2.cells.drop k2).take (m * i.size)).map (cv E)).length ≤ (x.cells.map (cv E) ++ sp).toArray.size := by
                  rw [hnl]
                  simp only [List.size_toArray, List.length_append, List.length_map]
                  rw [hfull, ← Nat.add_mul]
                  exact Nat.mul_le_mul_right _ hroom
                rw [d2] at hh
                have hr := run_append_room (P := P) w ty tt e i hu hi (E.s b) n (E.k b) _ hh ⟨E.s b2, k2, none⟩ m (c2.getD (E.k b2)) _ hnl hnews hone hroom hfit
                have st := step_move r hx c6 (x.cells.take (n * i.size) ++ (x2.cells.drop k2).take (m * i.size)) hcb ((x.cells.map (cv E) ++ sp).drop (n * i.size + m * i.size)) i.size ⟨sp, by rw [d2]; exact hh⟩ (by
                  rw [hcl, List.length_drop, List.length_append, List.length_map, hfull, ← Nat.add_mul]
                  have := Nat.mul_le_mul_right i.size hroom
                  omega)
                rw [d2] at st
                refine ⟨_, _, hr.trans ?_, st, by simp [bdT, bdP, bd, has_put]⟩
                have e1 : ((x.cells.map (cv E) ++ sp).toArray.toList.take (n * i.size) ++ ((x2.cells.drop k2).take (m * i.size)).map (cv E) ++ (x.cells.map (cv E) ++ sp).toArray.toList.drop (n * i.size + (((x2.cells.drop k2).take (m * i.size)).map (cv E)).length)).toArray =
                    ((x.cells.take (n * i.size) ++ (x2.cells.drop k2).take (m * i.size)).map (cv E) ++ (x.cells.map (cv E) ++ sp).drop (n * i.size + m * i.size)).toArray := by
                  rw [hnl]
                  simp only [List.map_append]
                  rw [List.take_append_of_le_length (by simp; omega), ← List.map_take]
                rw [e1]
                simp [ct, cp, cv, Env.set_s, Env.set_k]
              · have hol : ((x.cells.take (n * i.size)).map (cv E)).length = n * i.size := by simp; omega
                have holds := r.cellsAt hx (o := 0) (n := n * i.size) (by omega)
                rw [List.drop_zero] at holds
                have d0 : E.k b < n + m := by omega
                have hr := run_append_grow (P := P) w ty tt e i z hu hi hzi ⟨E.s b, 0, none⟩ n (E.k b) _ hol holds ⟨E.s b2, k2, none⟩ m (c2.getD (E.k b2)) _ hnl hnews d0 (by omega) (growslice_fits d0 (hby n d4))
                have hge := grownCap_ge w (n + m) (E.k b) e
                have sk := step_kill r b
                have hid : has (hput h b .dead) id = false := by
                  rw [has_put, c6, Bool.or_false]
                  have : b ≠ id := by rintro rfl; rw [has_of_get hx] at c6; cases c6
                  simp [this]
                have st := step_new sk.hr (w := w.drew) ((Bel.refl B w).drew) rfl hid (x.cells.take (n * i.size) ++ (x2.cells.drop k2).take (m * i.size)) (fun y hy => bd_sub sk.sub (hcb y hy)) e (some i.size) (Builtin.zeroCells z.cells (grownCap w (n + m) (E.k b) e - (n + m))).toList (grownCap w (n + m) (E.k b) e) (by
                  show _ + _ = _ * i.size
                  rw [zeroCells_len, hcl, c1, ← Nat.add_mul]
                  congr 1; omega)
                refine ⟨_, _, hr.trans ?_, sk.trans st, by simp [bdT, bdP, bd, has_put]⟩
                have e1 : (List.map (cv E) (x.cells.take (n * i.size) ++ (x2.cells.drop k2).take (m * i.size)) ++ (Builtin.zeroCells z.cells (grownCap w (n + m) (E.k b) e - (n + m))).toList).toArray = (List.map (cv E) (x.cells.take (n * i.size))).toArray ++ (List.map (cv E) ((x2.cells.drop k2).take (m * i.size))).toArray ++ Builtin.zeroCells z.cells (grownCap w (n + m) (E.k b) e - (n + m)) := by
                  apply Array.ext'; simp
                rw [e1]
                simp [ct, cp, cv, Env.set_s, Env.set_k]
            · cases hp
          · cases hp
        · cases hp
      · cases hp
    · cases hp
  · cases hp
/-! ### A call -/
def opdL (t : List TV) : List Operand → Option (List TV)
  | [] => some []
  | x :: r => match opd t x, opdL t r with
    | some v, some l => some (v :: l)
    | _, _ => none
theorem opdL_eq {T : Tab} {E : Env} {t : List TV} {h : H} {q : List Fact} {B : Bd} {a : Act} {w : World} (k : Ok T E t h q B a w) : ∀ (l : List Operand) (vs : List TV), opdL t l = some vs → l.map a.eval = vs.map (ct E) ∧ ∀ v ∈ vs, bdT h v = true
  | [], vs, hv => by simp only [opdL, Option.some.injEq] at hv; subst hv; exact ⟨rfl, fun p hp => by simp at hp⟩
  | x :: r, vs, hv => by
    simp only [opdL] at hv
    split at hv
    · rename_i v l hx hl
      obtain rfl := Option.some.inj hv
      obtain ⟨e, b⟩ := opdL_eq k r l hl
      refine ⟨by rw [List.map_cons, List.map_cons, e, k.eval hx], fun p hp => ?_⟩
      rcases List.mem_cons.1 hp with rfl | hp
      · exact k.bdo hx
      · exact b p hp
    · cases hv
def ptrT (p : Nat × Nat) : TV := .p (.v (.ptr p.1 p.2))
/-- Which function, with which arguments. -/
def eWho (P : Program) (t : List TV) (c : Call) : Option (FuncId × List TV) :=
  match c.callee with
  | .value g => match opd t g, opdL t c.args.toList with
    | some (.p (.v (.val (.func (.func f) first cap)))), some vs => some (f, first.toList.map av ++ vs ++ cap.toList.map av)
    | some (.p (.v (.fn f cap))), some vs => some (f, vs ++ cap.map ptrT)
    | _, _ => none
  | _ => none
def hasBody (P : Program) (f : FuncId) : Bool := match P.funcs[f]? with
  | some fn => !(fn.name == "runtime.NumGoroutine") && fn.body.isSome
  | none => false
theorem map_av (E : Env) (l : List Value) : (l.map av).map (ct E) = l := by
  rw [List.map_map]
  have : (ct E ∘ av) = id := by funext v; rfl
  rw [this, List.map_id]
theorem callFunc_run {P : Program} {f : FuncId} (hb : hasBody P f = true) (args : Array Value) (w : World) : (callFunc f args).run P w = .ok (.enter f args) w := by
  unfold hasBody at hb
  split at hb
  · rename_i fn hf
    rw [Bool.and_eq_true] at hb
    have h1 : (fn.name == "runtime.NumGoroutine") = false := by simpa using hb.1
    have h2 : fn.body.isNone = false := by
      cases hbd : fn.body with
      | none => rw [hbd] at hb; exact absurd hb.2 (by simp)
      | some c => rfl
    simp only [callFunc, Sem.run_bind, run_program, Result.andThen_ok, hf, h1, h2, Bool.false_eq_true, if_false, Sem.run_pure]
  · cases hb
theorem eWho_vals {P : Program} {T : Tab} {E : Env} {t : List TV} {h : H} {q : List Fact} {B : Bd} {a : Act} {w : World} (k : Ok T E t h q B a w) {o : Oper} {c : Call} (ho : o.op = .call c) {f : FuncId} {vs : List TV} (hw : eWho P t c = some (f, vs)) :
    (execOp a.eval o).run P w = (callFunc f (vs.map (ct E)).toArray).run P w ∧ ∀ v ∈ vs, bdT h v = true := by
  unfold eWho at hw
  split at hw
  · rename_i g hg
    split at hw
    · rename_i f' first cap us hx hl
      obtain ⟨rfl, rfl⟩ := Prod.mk.inj (Option.some.inj hw)
      obtain ⟨e, b⟩ := opdL_eq k _ _ hl
      refine ⟨?_, ?_⟩
      · have ex := k.eval hx
        simp only [ct, cp, cv] at ex
        have ea : c.args.map a.eval = (us.map (ct E)).toArray := by rw [← e, ← Array.toList_map, Array.toArray_toList]
        have ef : (List.map (ct E) (first.toList.map av ++ us ++ cap.toList.map av)).toArray = first ++ (us.map (ct E)).toArray ++ cap := by
          apply Array.ext'
          simp only [List.map_append, map_av, Array.toList_append]
        rw [ef]
        simp only [execOp, ho, resolve, hg, ex, Deferred.ofValue, ea, Sem.run_bind, Sem.run_pure, Result.andThen_ok, invoke]
      · intro v hv
        rcases List.mem_append.1 hv with hv | hv
        · rcases List.mem_append.1 hv with hv | hv
          · obtain ⟨u, _, rfl⟩ := List.mem_map.1 hv; rfl
          · exact b v hv
        · obtain ⟨u, _, rfl⟩ := List.mem_map.1 hv; rfl
    · rename_i f' cap us hx hl
      obtain ⟨rfl, rfl⟩ := Prod.mk.inj (Option.some.inj hw)
      obtain ⟨e, b⟩ := opdL_eq k _ _ hl
      refine ⟨?_, ?_⟩
      · have ex := k.eval hx
        simp only [ct, cp, cv] at ex
        have ea : c.args.map a.eval = (us.map (ct E)).toArray := by rw [← e, ← Array.toList_map, Array.toArray_toList]
        have ef : (List.map (ct E) (us ++ cap.map ptrT)).toArray = #[] ++ (us.map (ct E)).toArray ++ (cap.map E.ad).toArray := by
          apply Array.ext'
          simp [ct, cp, cv, ptrT, Env.ad, Function.comp_def]
        rw [ef]
        simp only [execOp, ho, resolve, hg, ex, Deferred.ofValue, ea, Sem.run_bind, Sem.run_pure, Result.andThen_ok, invoke]
      · intro v hv
        rcases List.mem_append.1 hv with hv | hv
        · exact b v hv
        · obtain ⟨u, hu, rfl⟩ := List.mem_map.1 hv
          have := k.bdo hx
          simp only [bdT, bdP, bd, List.all_eq_true] at this
          exact this u hu
    · cases hw
  · cases hw

theorem eWho_run {P : Program} {T : Tab} {E : Env} {t : List TV} {h : H} {q : List Fact} {B : Bd} {a : Act} {w : World} (k : Ok T E t h q B a w) {o : Oper} {c : Call} (ho : o.op = .call c) {f : FuncId} {vs : List TV} (hw : eWho P t c = some (f, vs)) (hb : hasBody P f = true) :
    (execOp a.eval o).run P w = .ok (.enter f (vs.map (ct E)).toArray) w ∧ ∀ v ∈ vs, bdT h v = true :=
  ⟨(eWho_vals k ho hw).1.trans (callFunc_run hb _ w), (eWho_vals k ho hw).2⟩
end Go.Proofs.Ytkepkjahbcddlaa.Sy
