/- fourth part: structs that are compared, truths, parts of structs, places in lists. -/
import Derived.Test.YtkepkjahbcddlaaSyPure
namespace Go.Proofs.Ytkepkjahbcddlaa.Sy
open Go Go.RowKit
set_option linter.unusedVariables false
set_option linter.unusedSimpArgs false
set_option linter.unusedSectionVars false
variable [Kinds]
/-! ### Structs that are compared -/
def eqFs (g : TypeId → List AV → List AV → Option Bx) (P : Program) : List Field → List AV → List AV → Option Bx
  | [], _, _ => some (litB true)
  | f :: fs, xs, ys => if f.name ≠ "_" then match P.info? f.type with
      | some i => match g f.type ((xs.drop f.offset).take i.size) ((ys.drop f.offset).take i.size), eqFs g P fs xs ys with
        | some x, some y => some (.and x y)
        | _, _ => none
      | none => none
    else eqFs g P fs xs ys
def eqB (P : Program) : Nat → TypeId → List AV → List AV → Option Bx
  | 0, _, _, _ => none
  | d + 1, ty, xs, ys => match P.underlying ty with
    | some (.int _) => match xs, ys with
      | [x], [y] => match numA x, numA y with
        | some (k, a), some (k', b) => bif keq k k' then some (.eq a b) else none
        | _, _ => none
      | _, _ => none
    | some .bool => match xs, ys with
      | [x], [y] => match truA x, truA y with
        | some a, some b => some (.beq a b)
        | _, _ => none
      | _, _ => none
    | some (.struct fs) => bif P.stoodInHeld ty then none else eqFs (eqB P d) P fs.toList xs ys
    | _ => none
/-- The value of a type that some cells are. -/
def valOf (E : Env) (d : TypeDesc) (xs : List AV) : Value := if aggB d then .agg (xs.map (cv E)).toArray else match xs with
  | x :: _ => cv E x
  | [] => undef
theorem run_part {P : Program} {t : TypeId} {d : TypeDesc} (hd : P.underlying t = some d) {i : TypeInfo} (hi : P.info? t = some i) {E : Env} {xs : List AV} {off : Nat} (hn : aggB d = false → ((xs.drop off).take i.size) ≠ []) (w : World) :
    (part t (xs.map (cv E)).toArray off).run P w = .ok (valOf E d ((xs.drop off).take i.size)) w := by
  unfold part valOf
  rw [Sem.run_bind, run_aggB hd, Result.andThen_ok]
  cases hag : aggB d with
  | true =>
    simp only [if_true, Sem.run_bind, sizeOf, typeInfo, run_program, hi, Result.andThen_ok, Sem.run_pure]
    congr 2
    simp [List.extract_toArray, List.map_take, List.map_drop, List.extract_eq_take_drop]
  | false =>
    have hne := hn hag
    simp only [Bool.false_eq_true, if_false]
    cases hx : (xs.drop off).take i.size with
    | nil => exact absurd hx hne
    | cons x r =>
      have h0 : ((xs.drop off).take i.size)[0]? = some x := by rw [hx]; rfl
      rw [List.getElem?_take] at h0
      split at h0
      · rw [List.getElem?_drop, Nat.add_zero] at h0
        simp [h0]
      · cases h0
theorem eqFs_ok {P : Program} {E : Env} {g : TypeId → List AV → List AV → Option Bx} {n : Nat} (hg : ∀ ty xs ys x, g ty xs ys = some x → ∃ d, P.underlying ty = some d ∧ (aggB d = false → xs ≠ [] ∧ ys ≠ []) ∧ ∀ w, (Op.equalIn n ty (valOf E d xs) (valOf E d ys)).run P w = .ok (x.den E) w) :
    ∀ (fs : List Field) (xs ys : List AV) (x : Bx), eqFs g P fs xs ys = some x → ∀ w, (Op.eqFields n (xs.map (cv E)).toArray (ys.map (cv E)).toArray fs).run P w = .ok (x.den E) w
  | [], xs, ys, x, h, w => by
    simp only [eqFs, Option.some.injEq] at h
    subst h
    simp [Op.eqFields, litB_den]
  | f :: fs, xs, ys, x, h, w => by
    simp only [eqFs] at h
    simp only [Op.eqFields]
    split at h
    · rename_i hne
      rw [if_pos hne]
      split at h
      · rename_i i hi
        split at h
        · rename_i a b ha hb
          obtain rfl := Option.some.inj h
          obtain ⟨d, hd, hnn, hr⟩ := hg _ _ _ _ ha
          have ih := eqFs_ok hg fs xs ys b hb w
          simp only [Sem.run_bind, run_part hd hi (fun q => (hnn q).1), run_part hd hi (fun q => (hnn q).2), hr, Result.andThen_ok, Sem.run_ite, Bx.den]
          cases hda : a.den E <;> simp [ih]
        · cases h
      · cases h
    · rename_i hne
      rw [if_neg hne]
      exact eqFs_ok hg fs xs ys x h w
theorem eqB_ok {P : Program} {E : Env} : ∀ (d : Nat) (n : Nat), d ≤ n → ∀ ty xs ys x, eqB P d ty xs ys = some x → ∃ e, P.underlying ty = some e ∧ (aggB e = false → xs ≠ [] ∧ ys ≠ []) ∧ ∀ w, (Op.equalIn n ty (valOf E e xs) (valOf E e ys)).run P w = .ok (x.den E) w
  | 0, n, hn, ty, xs, ys, x, h => by simp [eqB] at h
  | d + 1, n, hn, ty, xs, ys, x, h => by
    obtain ⟨m, rfl⟩ : ∃ m, n = m + 1 := ⟨n - 1, by omega⟩
    simp only [eqB] at h
    split at h
    · rename_i k hu
      split at h
      · rename_i x1 y1
        split at h
        · rename_i k1 a k2 b ha hb
          cases hk : keq k1 k2 with
          | false => simp [hk] at h
          | true =>
            simp only [hk, cond_true, Option.some.injEq] at h
            subst h
            have e := keq_eq hk
            subst e
            refine ⟨_, hu, by simp, fun w => ?_⟩
            simp only [valOf, aggB, Bool.false_eq_true, if_false, numA_eq ha, numA_eq hb, run_equalIn_int (h := hu), Bx.den]
            rfl
        · cases h
      · cases h
    · rename_i hu
      split at h
      · rename_i x1 y1
        split at h
        · rename_i a b ha hb
          obtain rfl := Option.some.inj h
          refine ⟨_, hu, by simp, fun w => ?_⟩
          simp only [valOf, aggB, Bool.false_eq_true, if_false, truA_eq ha, truA_eq hb, run_equalIn_bool' (h := hu), Bx.den]
        · cases h
      · cases h
    · rename_i fs hu
      cases hs : P.stoodInHeld ty with
      | true => simp [hs] at h
      | false =>
        simp only [hs, cond_false] at h
        refine ⟨_, hu, by simp [aggB], fun w => ?_⟩
        have hf : P.fieldsOf ty = fs := by simp [Program.fieldsOf, hu]
        simp only [valOf, aggB, if_true]
        rw [run_equalIn_struct w m ty _ _ (by rw [hf]; exact hu) hs, hf]
        exact eqFs_ok (fun ty xs ys x hx => eqB_ok d m (by omega) ty xs ys x hx) _ xs ys x h w
    · cases h
theorem eqFs_bd {h : H} {g : TypeId → List AV → List AV → Option Bx} {P : Program} (hg : ∀ ty xs ys x, g ty xs ys = some x → (∀ v ∈ xs, bd h v = true) → (∀ v ∈ ys, bd h v = true) → x.bd h = true) : ∀ (fs : List Field) (xs ys : List AV) (x : Bx), eqFs g P fs xs ys = some x → (∀ v ∈ xs, bd h v = true) → (∀ v ∈ ys, bd h v = true) → x.bd h = true
  | [], xs, ys, x, hx, _, _ => by simp only [eqFs, Option.some.injEq] at hx; subst hx; exact litB_bd h _
  | f :: fs, xs, ys, x, hx, h1, h2 => by
    simp only [eqFs] at hx
    split at hx
    · split at hx
      · split at hx
        · rename_i a b ha hb
          obtain rfl := Option.some.inj hx
          simp only [Bx.bd, Bool.and_eq_true]
          exact ⟨hg _ _ _ _ ha (fun v hv => h1 v (List.mem_of_mem_drop (List.mem_of_mem_take hv))) (fun v hv => h2 v (List.mem_of_mem_drop (List.mem_of_mem_take hv))), eqFs_bd hg fs xs ys b hb h1 h2⟩
        · cases hx
      · cases hx
    · exact eqFs_bd hg fs xs ys x hx h1 h2
theorem eqB_bd {h : H} {P : Program} : ∀ (d : Nat) (ty : TypeId) (xs ys : List AV) (x : Bx), eqB P d ty xs ys = some x → (∀ v ∈ xs, bd h v = true) → (∀ v ∈ ys, bd h v = true) → x.bd h = true
  | 0, ty, xs, ys, x, hx, _, _ => by simp [eqB] at hx
  | d + 1, ty, xs, ys, x, hx, h1, h2 => by
    simp only [eqB] at hx
    split at hx
    · split at hx
      · split at hx
        · rename_i k1 a k2 b ha hb
          cases hk : keq k1 k2 with
          | false => simp [hk] at hx
          | true =>
            simp only [hk, cond_true, Option.some.injEq] at hx
            subst hx
            simp only [Bx.bd, Bool.and_eq_true]
            exact ⟨numA_bd ha (h1 _ (by simp)), numA_bd hb (h2 _ (by simp))⟩
        · cases hx
      · cases hx
    · split at hx
      · split at hx
        · rename_i a b ha hb
          obtain rfl := Option.some.inj hx
          simp only [Bx.bd, Bool.and_eq_true]
          exact ⟨truA_bd ha (h1 _ (by simp)), truA_bd hb (h2 _ (by simp))⟩
        · cases hx
      · cases hx
    · cases hs : P.stoodInHeld ty with
      | true => simp [hs] at hx
      | false =>
        simp only [hs, cond_false] at hx
        exact eqFs_bd (fun ty xs ys x h => eqB_bd d ty xs ys x h) _ xs ys x hx h1 h2
    · cases hx
/-! ### One operation -/
def ksOf : LK → Option (List CK)
  | .gone => none
  | .rd ks _ => some ks
  | .own ks _ => some ks
  | .obj .. => none
  | .vw _ => none
  | .fb _ => none
  | .al _ _ => none
  | .ov _ => none
/-- A part of a value. -/
def symField (P : Program) (ty : TypeId) (v : TV) (f : Nat) : Option TV :=
  match v with
  | .p (.agg cs) => match P.underlying ty with
    | some (.struct fs) => match fs[f]? with
      | some fd => match P.info? fd.type, P.underlying fd.type with
        | some i, some d => if aggB d then some (.p (normA ((cs.drop fd.offset).take i.size))) else match (cs.drop fd.offset).take i.size with
          | x :: _ => some (.p (.v x))
          | [] => none
        | _, _ => none
      | none => none
    | _ => none
  | _ => none
def eSym0 (P : Program) (t : List TV) (h : H) (q : List Fact) (o : Oper) : Option PR :=
  let r (v : TV) : Option PR := some (.one (v, q))
  match o.op with
  | .binOp op ty x y _ => match opN t x, opN t y with
    | some (k, a), some (k', b) => symBin op k k' a b q
    | _, _ => match op with
      | .eql => match opB t x, opB t y, P.underlying ty with
        | some a, some b, some .bool => r (nB (.beq a b))
        | _, _, _ => match (opd t x).bind cellsT, (opd t y).bind cellsT, P.underlying ty with
          | some xs, some ys, some (.struct _) => bif P.eqGuardType P.depth ty then none else match opd t x, opd t y, eqB P 6 ty xs ys with
            | some (.p (.agg _)), some (.p (.agg _)), some b => r (nB b)
            | some (.p (.v (.val (.agg _)))), some (.p (.agg _)), some b => r (nB b)
            | some (.p (.agg _)), some (.p (.v (.val (.agg _)))), some b => r (nB b)
            | _, _, _ => none
          | _, _, _ => none
      | .neq => match opB t x, opB t y, P.underlying ty with
        | some a, some b, some .bool => r (nB (.not (.beq a b)))
        | _, _, _ => match (opd t x).bind cellsT, (opd t y).bind cellsT, P.underlying ty with
          | some xs, some ys, some (.struct _) => bif P.eqGuardType P.depth ty then none else match opd t x, opd t y, eqB P 6 ty xs ys with
            | some (.p (.agg _)), some (.p (.agg _)), some b => r (nB (.not b))
            | some (.p (.v (.val (.agg _)))), some (.p (.agg _)), some b => r (nB (.not b))
            | some (.p (.agg _)), some (.p (.v (.val (.agg _)))), some b => r (nB (.not b))
            | _, _, _ => none
          | _, _, _ => none
      | _ => none
  | .unOp op _ x => match op with
    | .not => match opB t x with | some b => r (nB (.not b)) | none => none
    | .neg => match opN t x with | some (k, e) => r (nI k (.wrap k (.bin .sub (.n 0) e))) | none => none
    | .xor => match opN t x with | some (k, e) => r (nI k (.bin (.lxor k) (.n (if k.signed then -1 else k.max)) e)) | none => none
    | _ => none
  | .convert src dst x => match opN t x, P.underlying src, P.underlying dst with
    | some (_, e), some _, some (.int k) => r (nI k (.wrap k e))
    | _, _, _ => none
  | .pick c x y => match opB t c, opd t x, opd t y with
    | some b, some u, some v => some ⟨(both q b).map fun p => (bif p.1 then u else v, p.2), []⟩
    | _, _, _ => none
  | .field ty x f => match (opd t x).bind fun v => symField P ty v f with
    | some v => r v
    | none => none
  | .indexAddr ty x i => match opd t x, opN t i, P.underlying ty with
    | some (.p (.v (.ls b j))), some (_, e), some (.slice el) => match ksOf (lk h b j), P.info? el with
      | some (c :: ks), some inf => bif Nat.beq inf.size (ks.length + 1) then
          some (need q (.lt e (.n 0)) false fun q => need q (.lt e (.len b j)) true fun q => .one (.p (.v (.hp b j e (ks.length + 1) 0)), q))
        else none
      | _, _ => none
    | _, _, _ => none
  | .fieldAddr s x f => match opd t x, P.underlying s with
    | some (.p (.v (.hp b j e z k))), some (.struct fs) => match fs[f]? with
      | some fd => match P.info? fd.type with
        | some i => if i.size = 0 then none else r (.p (.v (.hp b j e z (k + fd.offset))))
        | none => none
      | none => none
    | _, _ => none
  | .nilCheck x => match opd t x with
    | some (.p (.v (.hp b j e z k))) => r (.p (.v (.hp b j e z k)))
    | _ => none
  | .call ⟨.builtin .len, args, ats⟩ => match args.toList, ats.toList with
    | [x], [ty] => match opd t x, P.underlying ty with
      | some (.p (.v (.ls b j))), some (.slice _) => r (nI .i64 (.len b j))
      | _, _ => none
    | _, _ => none
  | .call ⟨.builtin .min, args, _⟩ => match args.toList with
    | [x, y] => match opN t x, opN t y with
      | some (k, a), some (_, b) => r (nI k (.bin .mn a b))
      | _, _ => none
    | _ => none
  | .call ⟨.builtin .max, args, _⟩ => match args.toList with
    | [x, y] => match opN t x, opN t y with
      | some (k, a), some (_, b) => r (nI k (.bin .mx a b))
      | _, _ => none
    | _ => none
  | _ => none
def PurO (P : Program) (T : Tab) (E : Env) (h : H) (a : Act) (o : Oper) (R : PR) : Prop :=
  NB T E h R.bad → ∃ r ∈ R.ok, (∀ w', (execOp a.eval o).run P w' = .ok (.value (ct E r.1)) w') ∧ bdT h r.1 = true ∧ bdQ h r.2 = true ∧ PC T E r.2
theorem PurO.one {P : Program} {T : Tab} {E : Env} {h : H} {a : Act} {o : Oper} {v : TV} {q : List Fact} (hs : ∀ w', (execOp a.eval o).run P w' = .ok (.value (ct E v)) w') (hv : bdT h v = true) (hb : bdQ h q = true) (hp : PC T E q) : PurO P T E h a o (.one (v, q)) :=
  fun _ => ⟨(v, q), List.mem_singleton.2 rfl, hs, hv, hb, hp⟩
theorem addr_add_add (A : Addr) (m n : Nat) : (A.add m).add n = A.add (m + n) := by
  unfold Addr.add
  by_cases hm : m = 0 <;> by_cases hn : n = 0 <;> simp [hm, hn, Nat.add_assoc]
theorem run_eq_agg {P : Program} {E : Env} {ty : TypeId} {fs : Array Field} (hu : P.underlying ty = some (.struct fs)) (hg : P.eqGuardType P.depth ty = false) {xs ys : List AV} {b : Bx} (hb : eqB P 6 ty xs ys = some b) (x y : Operand) (w : World) :
    ((do eqGuard .eql ty x y (.agg (xs.map (cv E)).toArray) (.agg (ys.map (cv E)).toArray); binOp .eql ty (.agg (xs.map (cv E)).toArray) (.agg (ys.map (cv E)).toArray) : Sem Value)).run P w = .ok (.bool (b.den E)) w ∧
    ((do eqGuard .neq ty x y (.agg (xs.map (cv E)).toArray) (.agg (ys.map (cv E)).toArray); binOp .neq ty (.agg (xs.map (cv E)).toArray) (.agg (ys.map (cv E)).toArray) : Sem Value)).run P w = .ok (.bool (!b.den E)) w := by
  obtain ⟨e, he, _, hr⟩ := eqB_ok (E := E) 6 10000 (by decide) ty xs ys b hb
  rw [hu] at he
  obtain rfl := Option.some.inj he
  simp only [valOf, aggB, if_true] at hr
  constructor
  · rw [Sem.run_bind, run_eqGuard_agg (hm := hg), Result.andThen_ok, run_eql_struct, hr]; rfl
  · rw [Sem.run_bind, run_eqGuard_agg (hm := hg), Result.andThen_ok, run_neq_struct, hr]; rfl
theorem eqGuard_int {P : Program} (op : BinOp) (ty : TypeId) (x y : Operand) (k k' : IntKind) (m n : Int) (w : World) : (eqGuard op ty x y (.int k m) (.int k' n)).run P w = .ok () w := by
  cases op <;> simp [eqGuard]
theorem eqGuard_bool {P : Program} (op : BinOp) (ty : TypeId) (x y : Operand) (m n : Bool) (w : World) : (eqGuard op ty x y (.bool m) (.bool n)).run P w = .ok () w := by
  cases op <;> simp [eqGuard]
section
variable {P : Program} {T : Tab} {E : Env} {t : List TV} {h : H} {q : List Fact} {B : Bd} {a : Act} {w : World} {o : Oper} {R : PR}
theorem agg_of {v : TV} {cs : List AV} (hc : cellsT v = some cs) (hv : (∃ l, v = .p (.agg l)) ∨ ∃ l, v = .p (.v (.val (.agg l)))) (E : Env) : ct E v = .agg (cs.map (cv E)).toArray := by
  rcases hv with ⟨l, rfl⟩ | ⟨l, rfl⟩
  · simp only [cellsT, Option.some.injEq] at hc; subst hc; rfl
  · simp only [cellsT, Option.some.injEq] at hc; subst hc; rw [map_val]; rfl
theorem eSym0_ok (k : Ok T E t h q B a w) (hR : eSym0 P t h q o = some R) : PurO P T E h a o R := by
  obtain ⟨dst, op, ty0, pos, after, guard⟩ := o
  have fin : ∀ {v : TV}, some (Res.one (v, q)) = some R → (∀ w', (execOp a.eval ⟨dst, op, ty0, pos, after, guard⟩).run P w' = .ok (.value (ct E v)) w') → bdT h v = true → PurO P T E h a ⟨dst, op, ty0, pos, after, guard⟩ R := by
    intro v e h1 h2
    obtain rfl := Option.some.inj e
    exact .one h1 h2 k.qb k.qd
  unfold eSym0 at hR
  simp only at hR
  split at hR
  · -- binOp
    rename_i op ty x y yt
    split at hR
    · rename_i k1 e1 k2 e2 hx hy
      obtain ⟨ex, bx⟩ := opN_eq k hx
      obtain ⟨ey, by_⟩ := opN_eq k hy
      intro n
      obtain ⟨r, h1, h2, h3⟩ := symBin_ok (P := P) hR bx by_ k.qb k.qd ty n
      refine ⟨r, h1, fun w' => ?_, h3⟩
      simp only [execOp, ex, ey, Sem.run_bind, eqGuard_int, Result.andThen_ok, h2, Sem.run_pure]
    · split at hR
      · -- eql
        split at hR
        · rename_i a1 b1 hx hy hu
          obtain ⟨ex, bx⟩ := opB_eq k hx
          obtain ⟨ey, by_⟩ := opB_eq k hy
          refine fin hR (fun w' => ?_) (by simp [bdT, bdP, bd, Bx.bd, nB, bx, by_])
          simp [execOp, ex, ey, eqGuard_bool, binOp, Op.equal, Op.maxDepth, run_equalIn_bool' (h := hu), ct_nB, Bx.den]
        · split at hR
          · rename_i xs ys fs hx hy hu
            cases hg : P.eqGuardType P.depth ty with
            | true => simp [hg] at hR
            | false =>
              simp only [hg, cond_false] at hR
              obtain ⟨vx, ox, cx⟩ := Option.bind_eq_some_iff.1 hx
              obtain ⟨vy, oy, cy⟩ := Option.bind_eq_some_iff.1 hy
              have bb : ∀ {b}, eqB P 6 ty xs ys = some b → b.bd h = true := fun hb => eqB_bd 6 ty xs ys _ hb (cellsT_bd cx (k.bdo ox)) (cellsT_bd cy (k.bdo oy))
              rw [ox, oy] at hR
              split at hR
              all_goals first
                | (cases hR; done)
                | (rename_i b e1 e2 hb
                   obtain rfl := Option.some.inj e1
                   obtain rfl := Option.some.inj e2
                   have ax := agg_of cx (by first | exact .inl ⟨_, rfl⟩ | exact .inr ⟨_, rfl⟩) E
                   have ay := agg_of cy (by first | exact .inl ⟨_, rfl⟩ | exact .inr ⟨_, rfl⟩) E
                   refine fin hR (fun w' => ?_) (by simp only [bdT, bdP, bd, nB]; exact bb hb)
                   have hr := (run_eq_agg (E := E) hu hg hb x y w').1
                   simp only [execOp, k.eval ox, k.eval oy, ax, ay]
                   rw [Sem.run_bind, hr]; rfl)
          · cases hR
      · -- neq
        split at hR
        · rename_i a1 b1 hx hy hu
          obtain ⟨ex, bx⟩ := opB_eq k hx
          obtain ⟨ey, by_⟩ := opB_eq k hy
          refine fin hR (fun w' => ?_) (by simp [bdT, bdP, bd, Bx.bd, nB, bx, by_])
          simp [execOp, ex, ey, eqGuard_bool, binOp, Op.equal, Op.maxDepth, run_equalIn_bool' (h := hu), ct_nB, Bx.den]
        · split at hR
          · rename_i xs ys fs hx hy hu
            cases hg : P.eqGuardType P.depth ty with
            | true => simp [hg] at hR
            | false =>
              simp only [hg, cond_false] at hR
              obtain ⟨vx, ox, cx⟩ := Option.bind_eq_some_iff.1 hx
              obtain ⟨vy, oy, cy⟩ := Option.bind_eq_some_iff.1 hy
              have bb : ∀ {b}, eqB P 6 ty xs ys = some b → b.bd h = true := fun hb => eqB_bd 6 ty xs ys _ hb (cellsT_bd cx (k.bdo ox)) (cellsT_bd cy (k.bdo oy))
              rw [ox, oy] at hR
              split at hR
              all_goals first
                | (cases hR; done)
                | (rename_i b e1 e2 hb
                   obtain rfl := Option.some.inj e1
                   obtain rfl := Option.some.inj e2
                   have ax := agg_of cx (by first | exact .inl ⟨_, rfl⟩ | exact .inr ⟨_, rfl⟩) E
                   have ay := agg_of cy (by first | exact .inl ⟨_, rfl⟩ | exact .inr ⟨_, rfl⟩) E
                   refine fin hR (fun w' => ?_) (by simp only [bdT, bdP, bd, nB, Bx.bd]; exact bb hb)
                   have hr := (run_eq_agg (E := E) hu hg hb x y w').2
                   simp only [execOp, k.eval ox, k.eval oy, ax, ay]
                   rw [Sem.run_bind, hr]; rfl)
          · cases hR
      · cases hR
  · -- unOp
    rename_i op ty x
    split at hR
    · split at hR
      · rename_i b hx
        obtain ⟨ex, bx⟩ := opB_eq k hx
        exact fin hR (fun w' => by simp [execOp, ex, Op.unary, ct_nB, Bx.den]) (by simpa [bdT, bdP, bd, Bx.bd, nB] using bx)
      · cases hR
    · split at hR
      · rename_i kd e hx
        obtain ⟨ex, bx⟩ := opN_eq k hx
        exact fin hR (fun w' => by simp [execOp, ex, Op.unary, Op.intArith, ct_nI, Ex.den, EO.den]) (by simpa [bdT, bdP, bd, Ex.bd, nI] using bx)
      · cases hR
    · split at hR
      · rename_i kd e hx
        obtain ⟨ex, bx⟩ := opN_eq k hx
        exact fin hR (fun w' => by simp [execOp, ex, Op.unary, Op.intBits, ct_nI, Ex.den, EO.den, lxork]) (by simpa [bdT, bdP, bd, Ex.bd, nI] using bx)
      · cases hR
    · cases hR
  · -- convert
    rename_i src dst' x
    split at hR
    · rename_i k1 e d1 k2 hx hs hd
      obtain ⟨ex, bx⟩ := opN_eq k hx
      refine fin hR (fun w' => ?_) (by simpa [bdT, bdP, bd, Ex.bd, nI] using bx)
      simp [execOp, ex, convert, run_underlying hs, run_underlying hd, Conv.intToInt, ct_nI, Ex.den]
    · cases hR
  · -- pick
    rename_i c x y
    split at hR
    · rename_i b u v hc hx hy
      obtain rfl := Option.some.inj hR
      obtain ⟨ec, bc⟩ := opB_eq k hc
      intro _
      obtain ⟨q', h1, h2, h3⟩ := both_spec k.qd k.qb bc
      refine ⟨_, List.mem_map.2 ⟨_, h1, rfl⟩, fun w' => ?_, ?_, h3, h2⟩
      · simp only [execOp, ec, k.eval hx, k.eval hy, asBool, Sem.run_bind, Sem.run_pure, Result.andThen_ok]
        cases b.den E <;> simp
      · cases b.den E
        · exact k.bdo hy
        · exact k.bdo hx
    · cases hR
  · -- field
    rename_i ty x f
    split at hR
    · rename_i v hv
      obtain ⟨u, hu, hs⟩ := Option.bind_eq_some_iff.1 hv
      unfold symField at hs
      split at hs
      · rename_i cs
        split at hs
        · rename_i fs hfs
          split at hs
          · rename_i fd hfd
            split at hs
            · rename_i i d hi hd
              have ex := k.eval hu
              have bx := k.bdo hu
              simp only [bdT, bdP, List.all_eq_true] at bx
              have hrun : ∀ (hn : aggB d = false → ((cs.drop fd.offset).take i.size) ≠ []) w', (Instr.field ty (ct E (.p (.agg cs))) f).run P w' = .ok (valOf E d ((cs.drop fd.offset).take i.size)) w' := by
                intro hn w'
                simp only [Instr.field, Sem.run_bind, run_underlying hfs, Result.andThen_ok, hfd, ct, cp, asAgg, Sem.run_pure]
                exact run_part hd hi hn w'
              split at hs
              · rename_i hag
                obtain rfl := Option.some.inj hs
                refine fin hR (fun w' => ?_) (normA_bd fun y hy => bx y (List.mem_of_mem_drop (List.mem_of_mem_take hy)))
                simp only [execOp, ex, Sem.run_bind]
                rw [hrun (by simp [hag])]
                simp only [Result.andThen_ok, Sem.run_pure, ct, normA_eq, valOf, hag, if_true]
              · rename_i hag
                split at hs
                · rename_i y r hy
                  obtain rfl := Option.some.inj hs
                  have hm : y ∈ (cs.drop fd.offset).take i.size := by rw [hy]; simp
                  refine fin hR (fun w' => ?_) (bx y (List.mem_of_mem_drop (List.mem_of_mem_take hm)))
                  simp only [execOp, ex, Sem.run_bind]
                  rw [hrun (by simp [hy])]
                  simp only [Result.andThen_ok, Sem.run_pure, valOf, hag, Bool.false_eq_true, if_false, hy, ct, cp]
                · cases hs
            · cases hs
          · cases hs
        · cases hs
      · cases hs
    · cases hR
  · -- indexAddr
    rename_i ty x i
    split at hR
    · rename_i b j k1 e el hx hi hu
      split at hR
      · rename_i c ks inf hk hinf
        cases hsz : Nat.beq inf.size (ks.length + 1) with
        | false => simp [hsz] at hR
        | true =>
          simp only [hsz, cond_true, Option.some.injEq] at hR
          have hsz := Nat.eq_of_beq_eq_true hsz
          subst hR
          intro n
          obtain ⟨ei, bi⟩ := opN_eq k hi
          have hb : has h b = true := k.bdo hx
          obtain ⟨h1, q1, h2, h3, h4, h5⟩ := need_spec k.qd k.qb (by simpa [Bx.bd, Ex.bd] using bi) n
          obtain ⟨h6, q2, h7, h8, h9, h10⟩ := need_spec h2 h3 (by simp [Bx.bd, Ex.bd, bi, hb]) h5
          have h0 : 0 ≤ e.den E := Int.not_lt.1 (of_decide_eq_false h1)
          have hl : e.den E < ((E.r b).l j).length := of_decide_eq_true h6
          have hrok : ROk w (E.r b) j (c :: ks) := by
            have := k.hr.lst.ok b j
            cases hlk : lk h b j with
            | gone => rw [hlk] at hk; cases hk
            | rd ks' old => rw [hlk] at hk this; obtain rfl := Option.some.inj hk; exact this
            | own ks' e' => rw [hlk] at hk this; obtain rfl := Option.some.inj hk; exact OOk.rok this
            | obj k' ps os => rw [hlk] at hk; cases hk
            | vw k' => rw [hlk] at hk; cases hk
            | fb fs => rw [hlk] at hk; cases hk
            | al x y => rw [hlk] at hk; cases hk
            | ov k' => rw [hlk] at hk; cases hk
          obtain ⟨A, hA, _⟩ := hrok.read _ _ (encL_get hrok.wf h0 hl (c := 0) rfl)
          refine ⟨_, h4 _ (h9 _ (List.mem_singleton.2 rfl)), fun w' => ?_, by simp [bdT, bdP, bd, hb, bi], h8, h7⟩
          have hel : P.elem ty = el := by simp [Program.elem, hu]
          have ex := k.eval hx
          simp only [ct, cp, cv, Rec.lv, hA] at ex
          simp only [execOp, ex, ei, Sem.run_bind]
          rw [run_indexAt_slice (h := by rw [hel]; exact hu), if_pos ⟨h0, hl⟩]
          simp [hel, sizeOf, typeInfo, hinf, hsz, ct, cp, cv, hA]
      · cases hR
    · cases hR
  · -- fieldAddr
    rename_i s x f
    split at hR
    · rename_i b j e z kk fs hx hfs
      split at hR
      · rename_i fd hfd
        split at hR
        · rename_i i hi
          split at hR
          · cases hR
          · rename_i hz
            have ex := k.eval hx
            simp only [ct, cp, cv] at ex
            refine fin hR (fun w' => ?_) (show bdT h (.p (.v (.hp b j e z kk))) = true from k.bdo hx)
            simp [execOp, ex, Instr.fieldAt, run_underlying hfs, hfd, Instr.sureAddr, fieldPlace, sizeOf, typeInfo, hi, hz, addr_add_add, ct, cp, cv, Nat.add_assoc]
        · cases hR
      · cases hR
    · cases hR
  · -- nilCheck
    rename_i x
    split at hR
    · rename_i b j e z kk hx
      have ex := k.eval hx
      simp only [ct, cp, cv] at ex
      exact fin hR (fun w' => by simp [execOp, ex, ct, cp, cv]) (k.bdo hx)
    · cases hR
  · -- len
    rename_i args ats
    split at hR
    · rename_i x ty hargs hats
      split at hR
      · rename_i b j e hx hu
        have ex := k.eval hx
        simp only [ct, cp, cv, Rec.lv] at ex
        have h1 : args = #[x] := by rw [← Array.toArray_toList (xs := args), hargs]
        have h2 : ats = #[ty] := by rw [← Array.toArray_toList (xs := ats), hats]
        subst h1 h2
        refine fin hR (fun w' => ?_) (show has h b = true from k.bdo hx)
        simp [execOp, resolve, invoke, builtin, Builtin.len_, ex, run_underlying hu, goInt, ct_nI, Ex.den]
      · cases hR
    · cases hR
  · -- min
    rename_i args ats
    split at hR
    · rename_i x y hargs
      split at hR
      · rename_i k1 e1 k2 e2 hx hy
        obtain ⟨ex, bx⟩ := opN_eq k hx
        obtain ⟨ey, by_⟩ := opN_eq k hy
        have h1 : args = #[x, y] := by rw [← Array.toArray_toList (xs := args), hargs]
        subst h1
        refine fin hR (fun w' => ?_) (by simp [bdT, bdP, bd, Ex.bd, nI, bx, by_])
        simp [execOp, resolve, invoke, builtin, Builtin.min_, Builtin.min2, ex, ey, ct_nI, Ex.den, EO.den]
      · cases hR
    · cases hR
  · -- max
    rename_i args ats
    split at hR
    · rename_i x y hargs
      split at hR
      · rename_i k1 e1 k2 e2 hx hy
        obtain ⟨ex, bx⟩ := opN_eq k hx
        obtain ⟨ey, by_⟩ := opN_eq k hy
        have h1 : args = #[x, y] := by rw [← Array.toArray_toList (xs := args), hargs]
        subst h1
        refine fin hR (fun w' => ?_) (by simp [bdT, bdP, bd, Ex.bd, nI, bx, by_])
        simp [execOp, resolve, invoke, builtin, Builtin.max_, Builtin.max2, ex, ey, ct_nI, Ex.den, EO.den]
      · cases hR
    · cases hR
  · cases hR
/-! ### Pointers into objects -/
theorem Dat.addr_of {d : Dat} (h : d.isLeaf = false) : d.addr = some ⟨d.blk, 0, none⟩ := by
  cases d with
  | leaf => cases h
  | nd b ns bs l r => rfl
theorem Dat.addr_isNone (d : Dat) : d.addr.isNone = d.isLeaf := by cases d <;> rfl
def eObjS (P : Program) (t : List TV) (h : H) (q : List Fact) (o : Oper) : Option PR :=
  match o.op with
  | .nilCheck x => match opd t x with
    | some (.p (.v (.ob b j p))) => some (need q (.nil b j p) false fun q => .one (.p (.v (.op b j p 0)), q))
    | some (.p (.v (.op b j p k))) => some (.one (.p (.v (.op b j p k)), q))
    | some (.p (.v (.fp b j k))) => some (.one (.p (.v (.fp b j k)), q))
    | _ => none
  | .fieldAddr s x f => match opd t x, P.underlying s with
    | some (.p (.v x)), some (.struct fs) => match fs[f]? with
      | some fd => match P.info? fd.type with
        | some i => if i.size = 0 then none else match x with
          | .op b j p k => some (.one (.p (.v (.op b j p (k + fd.offset))), q))
          | .fp b j k => some (.one (.p (.v (.fp b j (k + fd.offset))), q))
          | .ob b j p => match seeIs q (.nil b j p) with
            | some false => some (.one (.p (.v (.op b j p fd.offset)), q))
            | _ => none
          | _ => none
        | none => none
      | none => none
    | _, _ => none
  | .binOp .eql ty x y _ => match opd t x, opd t y with
    | some (.p (.v (.ob b j p))), some (.p (.v (.val (.pointer none)))) => bif (match P.underlying ty with | some (.pointer e) => Nat.beq e (P.pointee ty) | _ => false) then some (.one (nB (.nil b j p), q)) else none
    | _, _ => none
  | .binOp .neq ty x y _ => match opd t x, opd t y with
    | some (.p (.v (.ob b j p))), some (.p (.v (.val (.pointer none)))) => bif (match P.underlying ty with | some (.pointer e) => Nat.beq e (P.pointee ty) | _ => false) then some (.one (nB (.not (.nil b j p)), q)) else none
    | _, _ => none
  | _ => none
theorem ptr_und {P : Program} {ty : TypeId} (h : (match P.underlying ty with | some (.pointer e) => Nat.beq e (P.pointee ty) | _ => false) = true) : P.underlying ty = some (.pointer (P.pointee ty)) := by
  split at h
  · rename_i e he
    rw [he, ← Nat.eq_of_beq_eq_true h]
  · cases h
theorem eObjS_ok (k : Ok T E t h q B a w) (hR : eObjS P t h q o = some R) : PurO P T E h a o R := by
  obtain ⟨dst, op, ty0, pos, after, guard⟩ := o
  have fin : ∀ {v : TV}, some (Res.one (v, q)) = some R → (∀ w', (execOp a.eval ⟨dst, op, ty0, pos, after, guard⟩).run P w' = .ok (.value (ct E v)) w') → bdT h v = true → PurO P T E h a ⟨dst, op, ty0, pos, after, guard⟩ R := by
    intro v e h1 h2
    obtain rfl := Option.some.inj e
    exact .one h1 h2 k.qb k.qd
  unfold eObjS at hR
  simp only at hR
  split at hR
  · -- nilCheck
    rename_i x
    split at hR
    · rename_i b j p hx
      obtain rfl := Option.some.inj hR
      intro nb
      have hb : has h b = true := k.bdo hx
      obtain ⟨h1, q1, h2, h3, h4, h5⟩ := need_spec k.qd k.qb (show (Bx.nil b j p).bd h = true from hb) nb
      have ex := k.eval hx
      simp only [ct, cp, cv] at ex
      have ha := Dat.addr_of (show (((E.r b).t j).sub p).isLeaf = false from h1)
      exact ⟨_, h4 _ (List.mem_singleton.2 rfl), fun w' => by simp [execOp, ex, ha, ct, cp, cv], hb, h3, h2⟩
    · rename_i b j p kk hx
      have ex := k.eval hx
      simp only [ct, cp, cv] at ex
      exact fin hR (fun w' => by simp [execOp, ex, ct, cp, cv]) (k.bdo hx)
    · rename_i b j kk hx
      have ex := k.eval hx
      simp only [ct, cp, cv] at ex
      exact fin hR (fun w' => by simp [execOp, ex, ct, cp, cv]) (k.bdo hx)
    · cases hR
  · -- fieldAddr
    rename_i s x f
    split at hR
    · rename_i x' fs hx hfs
      split at hR
      · rename_i fd hfd
        split at hR
        · rename_i i hi
          split at hR
          · cases hR
          · rename_i hz
            have ex := k.eval hx
            have hbx := k.bdo hx
            split at hR
            · rename_i b j p kk
              simp only [ct, cp, cv] at ex
              refine fin hR (fun w' => ?_) hbx
              simp [execOp, ex, Instr.fieldAt, run_underlying hfs, hfd, Instr.sureAddr, fieldPlace, sizeOf, typeInfo, hi, hz, Addr.add_lit, ct, cp, cv]
            · rename_i b j kk
              simp only [ct, cp, cv] at ex
              refine fin hR (fun w' => ?_) hbx
              simp [execOp, ex, Instr.fieldAt, run_underlying hfs, hfd, Instr.sureAddr, fieldPlace, sizeOf, typeInfo, hi, hz, Addr.add_lit, ct, cp, cv]
            · rename_i b j p
              split at hR
              · rename_i hs
                have ha := Dat.addr_of (show (((E.r b).t j).sub p).isLeaf = false from seeIs_eq hs k.qd)
                simp only [ct, cp, cv, ha] at ex
                refine fin hR (fun w' => ?_) hbx
                simp [execOp, ex, Instr.fieldAt, run_underlying hfs, hfd, Instr.sureAddr, fieldPlace, sizeOf, typeInfo, hi, hz, Addr.add_lit, ct, cp, cv]
              · cases hR
            · cases hR
        · cases hR
      · cases hR
    · cases hR
  · -- eql
    rename_i ty x y yt
    split at hR
    · rename_i b j p hx hy
      generalize hc : (match P.underlying ty with | some (.pointer e) => Nat.beq e (P.pointee ty) | _ => false) = c at hR
      cases c with
      | false => cases hR
      | true =>
        rw [cond_true] at hR
        have hu := ptr_und hc
        have ex := k.eval hx
        have ey := k.eval hy
        simp only [ct, cp, cv] at ex ey
        refine fin hR (fun w' => ?_) (by simp [bdT, bdP, bd, nB, Bx.bd, show has h b = true from k.bdo hx])
        have g : (eqGuard .eql ty x y (.pointer (((E.r b).t j).sub p).addr) (.pointer none)).run P w' = .ok () w' := by simp [eqGuard]
        simp only [execOp, ex, ey, Sem.run_bind, g, run_eql_pointer_nil w' ty _ hu, Result.andThen_ok, Sem.run_pure, Dat.addr_isNone, ct_nB, Bx.den]
    · cases hR
  · -- neq
    rename_i ty x y yt
    split at hR
    · rename_i b j p hx hy
      generalize hc : (match P.underlying ty with | some (.pointer e) => Nat.beq e (P.pointee ty) | _ => false) = c at hR
      cases c with
      | false => cases hR
      | true =>
        rw [cond_true] at hR
        have hu := ptr_und hc
        have ex := k.eval hx
        have ey := k.eval hy
        simp only [ct, cp, cv] at ex ey
        refine fin hR (fun w' => ?_) (by simp [bdT, bdP, bd, nB, Bx.bd, show has h b = true from k.bdo hx])
        have g : (eqGuard .neq ty x y (.pointer (((E.r b).t j).sub p).addr) (.pointer none)).run P w' = .ok () w' := by simp [eqGuard]
        simp only [execOp, ex, ey, Sem.run_bind, g, run_neq_pointer_nil w' ty _ hu, Result.andThen_ok, Sem.run_pure, Dat.addr_isNone, ct_nB, Bx.den]
    · cases hR
  · cases hR
def eSym (P : Program) (t : List TV) (h : H) (q : List Fact) (o : Oper) : Option PR := match eSym0 P t h q o with
  | some R => some R
  | none => eObjS P t h q o
theorem eSym_ok (k : Ok T E t h q B a w) (hR : eSym P t h q o = some R) : PurO P T E h a o R := by
  unfold eSym at hR
  split at hR
  · rename_i R' h0
    obtain rfl := Option.some.inj hR
    exact eSym0_ok k h0
  · exact eObjS_ok k hR
end
end Go.Proofs.Ytkepkjahbcddlaa.Sy
