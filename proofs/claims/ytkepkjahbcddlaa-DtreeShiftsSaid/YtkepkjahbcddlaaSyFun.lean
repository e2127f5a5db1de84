/- eleventh part: bodies; closed calls; what is told of a function, shown. -/
import Derived.Test.YtkepkjahbcddlaaSyCall
namespace Go.Proofs.Ytkepkjahbcddlaa.Sy
open Go Go.RowKit
set_option linter.unusedVariables false
set_option linter.unusedSimpArgs false
set_option linter.unusedSectionVars false
variable [Kinds]
def eRes (P : Program) (t : List TV) (h : H) : List ResultVar → Option (List PV)
  | [] => some []
  | .tmp i :: r => match t[i]?, eRes P t h r with
    | some (.p p), some l => some (p :: l)
    | _, _ => none
  | .cell a ty :: r => match t[a]?, eRes P t h r with
    | some (.p (.v (.ptr b k))), some l => match eLoad P h ty b k with
      | some (.p p) => some (p :: l)
      | _ => none
    | _, _ => none
def single : List PV → TV
  | [p] => .p p
  | l => .tup l
def resOf (tmps : Array Value) : ResultVar → Sem Value
  | .tmp t => pure (tmps.getD t undef)
  | .cell a t => do loadVar t (← asAddr (tmps.getD a undef))
theorem results_eq (fn : Func) (tmps : Array Value) : results fn tmps = (do
    let vs ← fn.results.mapM (resOf tmps)
    pure (if h : vs.size = 1 then vs[0] else .tuple vs)) := by
  unfold results
  congr 1
theorem eRes_run {P : Program} {T : Tab} {E : Env} {t : List TV} {h : H} {q : List Fact} {B : Bd} {a : Act} {w : World} (k : Ok T E t h q B a w) : ∀ (rs : List ResultVar) (l : List PV), eRes P t h rs = some l →
    (rs.mapM (resOf a.tmps)).run P w = .ok (l.map (cp E)) w ∧ ∀ p ∈ l, bdP h p = true
  | [], l, hl => by simp only [eRes, Option.some.injEq] at hl; subst hl; exact ⟨by simp, fun p hp => by simp at hp⟩
  | .tmp i :: r, l, hl => by
    simp only [eRes] at hl
    split at hl
    · rename_i p l' hp hr
      obtain rfl := Option.some.inj hl
      obtain ⟨h1, h2⟩ := eRes_run k r l' hr
      have he : a.tmps.getD i undef = cp E p := k.eval (x := .tmp i) hp
      refine ⟨?_, fun q hq => ?_⟩
      · simp only [List.mapM_cons, resOf, Sem.run_bind, Sem.run_pure, Result.andThen_ok, h1, he, List.map_cons]
      · rcases List.mem_cons.1 hq with rfl | hq
        · exact k.bdo (x := .tmp i) hp
        · exact h2 q hq
    · cases hl
  | .cell x ty :: r, l, hl => by
    simp only [eRes] at hl
    split at hl
    · rename_i b kk l' hx hr
      split at hl
      · rename_i p hp
        obtain rfl := Option.some.inj hl
        obtain ⟨h1, h2⟩ := eRes_run k r l' hr
        have he : a.tmps.getD x undef = .pointer (some ⟨E.s b, kk, none⟩) := k.eval (x := .tmp x) hx
        obtain ⟨h3, h4⟩ := eLoad_run k.hr hp
        simp only [Instr.loadAt, Instr.sureAddr, Sem.run_bind, Sem.run_pure, Result.andThen_ok] at h3
        refine ⟨?_, fun q hq => ?_⟩
        · have h5 : (asAddr (.pointer (some ⟨E.s b, kk, none⟩))).run P w = .ok ⟨E.s b, kk, none⟩ w := rfl
          simp only [List.mapM_cons, resOf, Sem.run_bind, Sem.run_pure, Result.andThen_ok, h1, he, h5, h3, List.map_cons, ct]
        · rcases List.mem_cons.1 hq with rfl | hq
          · exact h4
          · exact h2 q hq
      · cases hl
    · cases hl
theorem single_run {E : Env} (l : List PV) : (if h : (l.map (cp E)).toArray.size = 1 then (l.map (cp E)).toArray[0] else .tuple (l.map (cp E)).toArray) = ct E (single l) := by
  match l with
  | [] => rfl
  | [p] => rfl
  | p :: q :: r => simp [single, ct]
theorem results_run {P : Program} {T : Tab} {E : Env} {t : List TV} {h : H} {q : List Fact} {B : Bd} {a : Act} {w : World} (k : Ok T E t h q B a w) {fn : Func} {l : List PV} (hl : eRes P t h fn.results.toList = some l) :
    (results fn a.tmps).run P w = .ok (ct E (single l)) w ∧ bdT h (single l) = true := by
  obtain ⟨h1, h2⟩ := eRes_run k _ _ hl
  refine ⟨?_, ?_⟩
  · rw [results_eq]
    simp only [Sem.run_bind, Array.mapM_eq_mapM_toList, Sem.run_map, h1]
    simp only [Result.andThen_ok, Sem.run_pure]
    rw [single_run]
  · match l, h2 with
    | [], _ => rfl
    | [p], h2 => exact h2 p (by simp)
    | p :: q :: r, h2 => exact List.all_eq_true.2 h2
def callOut (P : Program) (fn : Func) (p : X × St) : Option RO :=
  match p.1 with
  | .exit _ => none
  | _ => match eRes P p.2.t p.2.h fn.results.toList with
    | some l => some ⟨single l, p.2.h, p.2.q⟩
    | none => none
/-! #### Numbers in the form in which they are known again -/
def fN {β : Type} (n : Nat) (k : Nat → β) : β := match n with
  | 0 => k 0
  | m + 1 => k (m + 1)
theorem fN_eq {β : Type} (n : Nat) (k : Nat → β) : fN n k = k n := by cases n <;> rfl
def fI {β : Type} (n : Int) (k : Int → β) : β := match n with
  | .ofNat m => fN m fun m => k (.ofNat m)
  | .negSucc m => fN m fun m => k (.negSucc m)
theorem fI_eq {β : Type} (n : Int) (k : Int → β) : fI n k = k n := by
  cases n with
  | ofNat m => exact fN_eq m fun m => k (.ofNat m)
  | negSucc m => exact fN_eq m fun m => k (.negSucc m)
def fV0 {β : Type} (v : Value) (k : Value → β) : β := match v with
  | .int kd n => fI n fun n => k (.int kd n)
  | .bool true => k (.bool true)
  | .bool false => k (.bool false)
  | v => k v
theorem fV0_eq {β : Type} (v : Value) (k : Value → β) : fV0 v k = k v := by
  unfold fV0
  split
  · exact fI_eq _ _
  all_goals rfl
def fL {α β : Type} (f : α → (α → β) → β) : List α → (List α → β) → β
  | [], k => k []
  | v :: r, k => f v fun v => fL f r fun r => k (v :: r)
theorem fL_eq {α β : Type} {f : α → (α → β) → β} (hf : ∀ v k, f v k = k v) : ∀ (l : List α) (k : List α → β), fL f l k = k l
  | [], k => rfl
  | v :: r, k => by rw [fL, hf, fL_eq hf r]
def fV {β : Type} (v : Value) (k : Value → β) : β := match v with
  | .agg cs => fL fV0 cs.toList fun l => k (.agg l.toArray)
  | v => fV0 v k
theorem fV_eq {β : Type} (v : Value) (k : Value → β) : fV v k = k v := by
  unfold fV
  split
  · rw [fL_eq fV0_eq]
  · exact fV0_eq _ _
def clTL : List TV → Option (List Value)
  | [] => some []
  | x :: r => match clT x, clTL r with
    | some v, some l => some (v :: l)
    | _, _ => none
theorem clTL_eq : ∀ {l : List TV} {vs : List Value}, clTL l = some vs → ∀ E : Env, l.map (ct E) = vs
  | [], vs, h, E => by simp only [clTL, Option.some.injEq] at h; subst h; rfl
  | x :: r, vs, h, E => by
    simp only [clTL] at h
    split at h
    · rename_i v l hv hl
      obtain rfl := Option.some.inj h
      rw [List.map_cons, clT_eq hv E, clTL_eq hl E]
    · cases h
/-- What a call yields that neither takes nor leaves a name, laid over the memory that was. -/
def shut (h : H) (q : List Fact) : List RO → Option (List RO)
  | [] => some []
  | r :: l => match clT r.v, shut h q l with
    | some v, some l => some (⟨av v, h, q⟩ :: l)
    | _, _ => none
theorem shut_mem {h : H} {q : List Fact} : ∀ {l m : List RO}, shut h q l = some m → ∀ r ∈ l, ∃ v, clT r.v = some v ∧ ⟨av v, h, q⟩ ∈ m
  | [], m, hs, r, hr => by simp at hr
  | x :: l, m, hs, r, hr => by
    simp only [shut] at hs
    split at hs
    · rename_i v l' hv hl
      obtain rfl := Option.some.inj hs
      rcases List.mem_cons.1 hr with rfl | hr
      · exact ⟨v, hv, List.mem_cons_self⟩
      · obtain ⟨v', h1, h2⟩ := shut_mem hl r hr
        exact ⟨v', h1, List.mem_cons_of_mem _ h2⟩
    · cases hs
def LCon.at (base : Nat) (c : LCon) : LCon := { c with vars := c.vars.map fun v => bif v.tmp then v else { v with i := base + v.i }, ctx := c.ctx.map fun p => bif p.1 then p else (p.1, base + p.2.1, p.2.2) }
def lconsOf (base f : Nat) : List (FuncId × LCon) → List LCon
  | [] => []
  | (g, c) :: r => bif Nat.beq g f then c.at base :: lconsOf base f r else lconsOf base f r
def evalBody (P : Program) (lcs : List (FuncId × LCon)) (N : Nat) (call : CallF) : CallF := fun f args h q id => match P.funcs[f]? with
  | some fn => match fn.body with
    | some c => bif hasBody P f then match evalC P call (lconsOf (id * 65536) f lcs) N c ⟨args ++ List.replicate (fn.ntmps - args.length) uv, h, q, id * 65536⟩ with
      | some R => match bindR (fun p => match callOut P fn p with | some r => some (.one r) | none => none) R.ok with
        | some R2 => some ⟨R2.ok, R.bad ++ R2.bad⟩
        | none => none
      | none => none
      else none
    | none => none
  | none => none
/-- A function to which objects are handed to be turned is never gone through. -/
def eats : List FK → Bool
  | [] => false
  | .obj _ :: _ => true
  | .io _ :: _ => true
  | .own _ _ :: _ => true
  | _ :: r => eats r
/-- Of a function that yields lists what is told of it is taken first. -/
def listCon (cs : List Con) (f : FuncId) : Bool := match findCon cs f with
  | some c => !(noList c.outs.flat) || eats c.outs.flat
  | none => false
def objCon (cs : List Con) (f : FuncId) : Bool := match findCon cs f with
  | some c => eats (flatS c.ins)
  | none => false
/-- A call of which it is known what it answers. (A number: that of a function without arguments that answers true.) -/
structure KE where
  f : FuncId
  args : List Value
  res : Value
instance (n : Nat) : OfNat KE n := ⟨⟨n, [], .bool true⟩⟩
def Known (P : Program) (known : List KE) : Prop := ∀ k ∈ known, hasBody P k.f = true ∧ ∀ w, Calls P k.f k.args.toArray w fun e w' => e = .returned k.res ∧ Below w.heap.size w w'
def findK : List KE → FuncId → List TV → Option Value
  | [], _, _ => none
  | k :: r, f, a => bif Nat.beq k.f f then (match clTL a with
      | some vs => bif leq veq k.args vs then some k.res else findK r f a
      | none => none) else findK r f a
theorem findK_mem : ∀ {known : List KE} {f : FuncId} {a : List TV} {v : Value}, findK known f a = some v → ∃ k ∈ known, k.f = f ∧ clTL a = some k.args ∧ k.res = v
  | [], f, a, v, h => by simp [findK] at h
  | k :: r, f, a, v, h => by
    have go : findK r f a = some v → ∃ k' ∈ k :: r, k'.f = f ∧ clTL a = some k'.args ∧ k'.res = v := fun h => by
      obtain ⟨k', h1, h2⟩ := findK_mem h
      exact ⟨k', List.mem_cons_of_mem _ h1, h2⟩
    simp only [findK] at h
    cases hf : Nat.beq k.f f with
    | false => rw [hf, cond_false] at h; exact go h
    | true =>
      rw [hf, cond_true] at h
      split at h
      · rename_i vs hvs
        cases hl : leq veq k.args vs with
        | false => rw [hl, cond_false] at h; exact go h
        | true =>
          rw [hl, cond_true, Option.some.injEq] at h
          exact ⟨k, List.mem_cons_self, Nat.eq_of_beq_eq_true hf, by rw [hvs, leq_eq (fun _ _ => veq_eq) _ _ hl], h⟩
      · cases h
def evalCall (P : Program) (cs : List Con) (lcs : List (FuncId × LCon)) (known : List KE) (N : Nat) : Nat → CallF
  | 0 => fun _ _ _ _ _ => none
  | d + 1 => fun f args h q id => match findK known f args with
    | some v => some ⟨[⟨av v, h, q⟩], []⟩
    | none => match (bif listCon cs f then conCall cs f args h q id else none) with
    | some R => some R
    | none => match clTL args with
    | some vs => match fL fV vs fun vs => evalBody P lcs N (evalCall P cs lcs known N d) f (vs.map av) [] [] 1 with
      | some ⟨l, []⟩ => match shut h q l with
        | some m => some ⟨m, []⟩
        | none => evalBody P lcs N (evalCall P cs lcs known N d) f args h q id
      | _ => conCall cs f args h q id
    | none => match conCall cs f args h q id with
      | some R => some R
      | none => bif objCon cs f then none else evalBody P lcs N (evalCall P cs lcs known N d) f args h q id
theorem evalBody_ok {P : Program} {T : Tab} {B : Bd} {N : Nat} {lcs : List (FuncId × LCon)} {call : CallF} (hcall : CallS P T B call) : CallS P T B (evalBody P lcs N call) := fun f args h q id R hR E w hb hr hqb hqd nb => by
  unfold evalBody at hR
  split at hR
  · rename_i fn hf
    split at hR
    · rename_i c hc
      cases hbo : hasBody P f with
      | false => rw [hbo] at hR; cases hR
      | true =>
      rw [hbo, cond_true] at hR
      split at hR
      · rename_i R1 h1
        split at hR
        · rename_i R2 h2
          obtain rfl := Option.some.inj hR
          unfold Invoked
          rw [if_pos hbo]
          refine calls_of_wp hf hc ?_
          have ko : Ok T E (args ++ List.replicate (fn.ntmps - args.length) uv) h q B { tmps := (args.map (ct E)).toArray ++ Array.replicate (fn.ntmps - (args.map (ct E)).toArray.size) undef, defers := [] } w := by
            refine ⟨?_, rfl, fun x hx => ?_, hr, hqb, hqd⟩
            · apply Array.ext'
              simp [ct_uv]
            · rcases List.mem_append.1 hx with hx | hx
              · exact hb x hx
              · rw [(List.mem_replicate.1 hx).2]; rfl
          refine wp_mono (evalC_wp hcall N c _ R1 h1 E h w (nb.sub (Ag.refl _ _) (Sub.refl _) fun y hy => List.mem_append_left _ hy) _ w ⟨E, ko, Step.refl hr⟩) ?_
          rintro e a' w' ⟨p, hp, rfl, E', k', st⟩
          obtain ⟨Lr, h3, h4, _⟩ := bindR_mem h2 p hp
          split at h3
          · rename_i r h5
            obtain rfl := Option.some.inj h3
            unfold callOut at h5
            split at h5
            · cases h5
            · rename_i hx
              split at h5
              · rename_i l hl
                obtain rfl := Option.some.inj h5
                obtain ⟨h6, h7⟩ := results_run k' hl
                have : bodyPost P fn (fun e w' => ∃ r ∈ R2.ok, ∃ E', e = .returned (ct E' r.v) ∧ Step E h B w E' r.h w' ∧ bdT r.h r.v = true ∧ bdQ r.h r.q = true ∧ PC T E' r.q) .normal a' w' :=
                  ⟨k'.defs, _, h6, _, h4 _ (List.mem_singleton.2 rfl), E', rfl, st, h7, k'.qb, k'.qd⟩
                cases hp1 : p.1 with
                | normal => exact this
                | exit id => exact absurd hp1 (hx id)
                | ret => exact this
              · cases h5
          · cases h3
        · cases hR
      · cases hR
    · cases hR
  · cases hR
def env0 : Env := ⟨fun n => n, fun n => n, fun _ => ⟨fun _ => 0, fun _ => false, fun _ => [], fun _ => none, fun _ => 0, fun _ => undef, fun _ => .leaf⟩⟩
theorem HR.nilB (w : World) {B : Bd} (hB : B.n ≤ w.heap.size) : HR env0 [] B w :=
  ⟨hB, fun b x hb => by simp [hget, look] at hb, fun b c x y hb => by simp [hget, look] at hb, fun b x hb => by simp [hget, look] at hb, fun b m hb => by simp [mget, look] at hb,
    ⟨fun b j => trivial, fun b j k hk => by simp [lk, look, LK.occ] at hk, fun b j ks e ho => by simp [lk, look] at ho, fun b j ks old ho => by simp [lk, look] at ho, fun b j ho => ho.elim, fun b j k ps os ho => by simp [lk, look] at ho, fun b j k ps os ho => by simp [lk, look] at ho, fun b j x y ho => by simp [lk, look] at ho, fun b j k ho => by simp [lk, look] at ho⟩⟩
theorem HR.nil (w : World) : HR env0 [] (Bd.at w.heap.size) w := HR.nilB w (Nat.le_refl _)
theorem evalCall_ok {P : Program} {T : Tab} {cs : List Con} {lcs : List (FuncId × LCon)} {known : List KE} (hcs : ∀ c ∈ cs, ConS P T c) (hk : Known P known) {N : Nat} : ∀ (d : Nat) (B : Bd), CallS P T B (evalCall P cs lcs known N d)
  | 0, B => fun f args h q id R hR => by simp [evalCall] at hR
  | d + 1, B => fun f args h q id R hR E w hb hr hqb hqd nb => by
    simp only [evalCall] at hR
    cases hkn : findK known f args with
    | some v =>
      rw [hkn] at hR
      obtain rfl := Option.some.inj hR
      obtain ⟨k, hg, rfl, ha, rfl⟩ := findK_mem hkn
      obtain ⟨h1, h2⟩ := hk k hg
      unfold Invoked
      rw [if_pos h1, clTL_eq ha E]
      refine (h2 w).mono ?_
      rintro e w' ⟨rfl, b⟩
      exact ⟨_, List.mem_singleton.2 rfl, E, by rw [ct_av], ⟨Ag.refl _ _, Sub.refl _, hr.below b, Bel.of b hr.low⟩, rfl, hqb, hqd⟩
    | none =>
    rw [hkn] at hR
    simp only at hR
    split at hR
    · rename_i R' hc
      obtain rfl := Option.some.inj hR
      cases hl : listCon cs f with
      | false => rw [hl] at hc; cases hc
      | true =>
        rw [hl, cond_true] at hc
        exact conCall_ok hcs B f args h q id _ hc E w hb hr hqb hqd nb
    split at hR
    · rename_i vs hvs
      rw [fL_eq fV_eq] at hR
      split at hR
      · rename_i l h1
        split at hR
        · rename_i m hm
          obtain rfl := Option.some.inj hR
          have hc := evalBody_ok (N := N) (lcs := lcs) (evalCall_ok hcs hk d (Bd.at w.heap.size)) f _ _ _ _ _ h1 env0 w (fun x hx => by obtain ⟨u, _, rfl⟩ := List.mem_map.1 hx; rfl) (HR.nil w) rfl trivial (fun q hq => by simp at hq)
          rw [map_av, ← clTL_eq hvs E] at hc
          refine hc.mono ?_
          rintro e w' ⟨r, hr', E', rfl, st, _⟩
          obtain ⟨v, hv, hmem⟩ := shut_mem hm r hr'
          exact ⟨_, hmem, E, by rw [ct_av, clT_eq hv], ⟨Ag.refl _ _, Sub.refl _, hr.below st.bel.below, Bel.of st.bel.below hr.low⟩, rfl, hqb, hqd⟩
        · exact evalBody_ok (evalCall_ok hcs hk d B) f args h q id R hR E w hb hr hqb hqd nb
      · exact conCall_ok hcs B f args h q id R hR E w hb hr hqb hqd nb
    · split at hR
      · rename_i R' hc
        obtain rfl := Option.some.inj hR
        exact conCall_ok hcs B f args h q id _ hc E w hb hr hqb hqd nb
      · cases ho : objCon cs f with
        | true => rw [ho] at hR; cases hR
        | false =>
          rw [ho, cond_false] at hR
          exact evalBody_ok (evalCall_ok hcs hk d B) f args h q id R hR E w hb hr hqb hqd nb
def truth : Option (Res RO) → Bool
  | some ⟨l, []⟩ => l.all fun r => match r.v with
    | .p (.v (.val (.bool true))) => true
    | _ => false
  | _ => false
def tab0 : Tab := ⟨fun _ _ _ => True, fun _ _ => True, fun _ _ _ => 0⟩
/-- A call without arguments that is reckoned to answer true answers true, whatever the world; of what was there nothing has turned. -/
theorem closed_true {P : Program} {known : List KE} (hk : Known P known) {N d f : Nat} (hb : hasBody P f = true) (h : truth (evalBody P [] N (evalCall P [] [] known N d) f [] [] [] 1) = true) (w : World) : Calls P f #[] w fun e w' => e = .returned (.bool true) ∧ Below w.heap.size w w' := by
  unfold truth at h
  split at h
  · rename_i l hL
    have hc := evalBody_ok (N := N) (lcs := []) (evalCall_ok (T := tab0) (cs := []) (fun c hc => by simp at hc) hk d (Bd.at w.heap.size)) f [] [] [] 1 _ hL env0 w (fun x hx => by simp at hx) (HR.nil w) rfl trivial (fun q hq => by simp at hq)
    unfold Invoked at hc
    rw [if_pos hb] at hc
    refine hc.mono ?_
    rintro e w' ⟨r, hr, E', rfl, st, _⟩
    have := List.all_eq_true.1 h r hr
    split at this
    · rename_i he
      rw [he]
      exact ⟨rfl, st.bel.below⟩
    · cases this
  · cases h
theorem Known.nil (P : Program) : Known P [] := fun f hf => by simp at hf
/-- What a call with given arguments is reckoned to answer. -/
def answers (v : Value) : Option (Res RO) → Bool
  | some ⟨l, []⟩ => l.all fun r => match clT r.v with
    | some u => veq u v
    | none => false
  | _ => false
theorem closed_answers {P : Program} {known : List KE} (hk : Known P known) {N d f : Nat} {vs : List Value} {v : Value} (hb : hasBody P f = true) (h : answers v (evalBody P [] N (evalCall P [] [] known N d) f (vs.map av) [] [] 1) = true) (w : World) : Calls P f vs.toArray w fun e w' => e = .returned v ∧ Below w.heap.size w w' := by
  unfold answers at h
  split at h
  · rename_i l hL
    have hc := evalBody_ok (N := N) (lcs := []) (evalCall_ok (T := tab0) (cs := []) (fun c hc => by simp at hc) hk d (Bd.at w.heap.size)) f _ [] [] 1 _ hL env0 w (fun x hx => by obtain ⟨u, _, rfl⟩ := List.mem_map.1 hx; rfl) (HR.nil w) rfl trivial (fun q hq => by simp at hq)
    unfold Invoked at hc
    rw [if_pos hb, map_av] at hc
    refine hc.mono ?_
    rintro e w' ⟨r, hr, E', rfl, st, _⟩
    have := List.all_eq_true.1 h r hr
    split at this
    · rename_i u hu
      rw [← veq_eq this, clT_eq hu]
      exact ⟨rfl, st.bel.below⟩
    · cases this
  · cases h
theorem Known.call {P : Program} {known : List KE} (hk : Known P known) {N d : Nat} (f : FuncId) (vs : List Value) (v : Value) (h : (hasBody P f && answers v (evalBody P [] N (evalCall P [] [] known N d) f (vs.map av) [] [] 1)) = true) : Known P (⟨f, vs, v⟩ :: known) := fun g hg => by
  rw [Bool.and_eq_true] at h
  rcases List.mem_cons.1 hg with rfl | hg
  · exact ⟨h.1, closed_answers hk h.1 h.2⟩
  · exact hk g hg
theorem Known.cons {P : Program} {known : List KE} (hk : Known P known) {N d : Nat} (f : FuncId) (h : (hasBody P f && truth (evalBody P [] N (evalCall P [] [] known N d) f [] [] [] 1)) = true) : Known P (⟨f, [], .bool true⟩ :: known) := fun g hg => by
  rw [Bool.and_eq_true] at h
  rcases List.mem_cons.1 hg with rfl | hg
  · exact ⟨h.1, closed_true hk h.1 h.2⟩
  · exact hk g hg
/-- What is known, without what was known only on the way. -/
theorem Known.only {P : Program} {x : KE} {l m : List KE} (a : Known P (x :: l)) (b : Known P m) : Known P (x :: m) := fun g hg => by
  rcases List.mem_cons.1 hg with rfl | hg
  · exact a _ List.mem_cons_self
  · exact b g hg
/-! ### What is told of a function, shown -/
def argTVs : List SP → Nat → List TV
  | [], _ => []
  | x :: r, j => .p (x.pv 0 j) :: argTVs r (j + x.flat.length)
theorem argTVs_eq (E : Env) : ∀ (l : List SP) (j : Nat), (argTVs l j).map (ct E) = SP.vals (E.r 0) l j
  | [], j => rfl
  | x :: l, j => by simp [argTVs, SP.vals, ct, SP.pv_eq, argTVs_eq E l (j + x.flat.length)]
theorem argTVs_bd {h : H} (hb : has h 0 = true) : ∀ (l : List SP) (j : Nat), ∀ x ∈ argTVs l j, bdT h x = true
  | [], j, x, hx => by simp [argTVs] at hx
  | y :: l, j, x, hx => by
    simp only [argTVs, List.mem_cons] at hx
    rcases hx with rfl | hx
    · exact SP.pv_bd hb j y
    · exact argTVs_bd hb l _ x hx
/-- What is there at a function's start. -/
def stsIn : List FK → List LK
  | [] => []
  | .list ks :: r => .rd ks true :: stsIn r
  | .obj k :: r => .obj k [[]] [] :: stsIn r
  | .vw k :: r => .ov k :: stsIn r
  | .fb fs :: r => .fb fs :: stsIn r
  | .own ks e :: r => .own ks e :: stsIn r
  | .io k :: r => .obj k [[]] [] :: stsIn r
  | _ :: r => .gone :: stsIn r
theorem stsIn_get : ∀ (ks : List FK) (j : Nat), (∃ l, ks[j]? = some (FK.list l) ∧ (stsIn ks).getD j .gone = .rd l true) ∨ (∃ k, (ks[j]? = some (FK.obj k) ∨ ks[j]? = some (FK.io k)) ∧ (stsIn ks).getD j .gone = .obj k [[]] []) ∨ (∃ k, ks[j]? = some (FK.vw k) ∧ (stsIn ks).getD j .gone = .ov k) ∨ (∃ fs, ks[j]? = some (FK.fb fs) ∧ (stsIn ks).getD j .gone = .fb fs) ∨ (∃ l e, ks[j]? = some (FK.own l e) ∧ (stsIn ks).getD j .gone = .own l e) ∨ (stsIn ks).getD j .gone = .gone
  | [], j => .inr (.inr (.inr (.inr (.inr rfl))))
  | k :: r, 0 => by cases k <;> simp [stsIn]
  | k :: r, j + 1 => by
    have := stsIn_get r j
    cases k <;> simpa [stsIn] using this
/-- An outcome's lists may be read. -/
def outLists (h : H) (fresh : Bool) : List FK → List AV → Bool
  | [], [] => true
  | .list ks :: r, x :: l => (match x with
      | .ls b j => (match lk h b j with | .rd ks' old => leq ckeq ks ks' && (!fresh || !old) | .own ks' _ => leq ckeq ks ks' | _ => false)
      | .val (.slice none 0 0) => true
      | _ => false) && outLists h fresh r l
  | _ :: r, _ :: l => outLists h fresh r l
  | _, _ => false
def outCells : ST → TV → Option (List AV)
  | .p s, v => argCells s v
  | .tup l, .tup vs => argsCells l (vs.map .p)
  | .tup l, .p (.v (.val (.tuple vs))) => argsCells l (vs.toList.map av)
  | _, _ => none
def Con.run (P : Program) (cs : List Con) (lcs : List (FuncId × LCon)) (known : List KE) (N d : Nat) (c : Con) : Option (Res RO) :=
  evalBody P lcs N (evalCall P cs lcs known N d) c.f (argTVs c.ins 0) [(0, .lst (stsIn (flatS c.ins)))] [] 1
/-- What has become of what was handed in to be turned. -/
def ioAVs (h : H) (ins : List FK) : List AV := (iosP ins 0).map fun j => resN h (aliases h) (.ob 0 j [])
/-- What an outcome says: its facts, and what it yields. -/
def outDX (c : Con) (r : RO) : Option (List AV × List DX) := match outCells c.outs r.v with
  | some avs => match dxArgs r.h c.fo (avs ++ ioAVs r.h (flatS c.ins)) with
    | some d => bif outLists r.h c.fresh c.fo (avs ++ ioAVs r.h (flatS c.ins)) && apartR (eatRs c.fo d) && lsOk (eatRs c.fo d) c.fo (avs ++ ioAVs r.h (flatS c.ins)) then some (avs ++ ioAVs r.h (flatS c.ins), d) else none
    | none => none
  | none => none
theorem outLists_get {h : H} {fresh : Bool} : ∀ {ks : List FK} {l : List AV}, outLists h fresh ks l = true → ∀ (j : Nat) (k : List CK), ks[j]? = some (.list k) →
    l[j]? = some (.val (.slice none 0 0)) ∨ ∃ b i, l[j]? = some (.ls b i) ∧ ((∃ old, lk h b i = .rd k old ∧ (fresh = true → old = false)) ∨ ∃ e, lk h b i = .own k e)
  | [], [], _, j, k, hk => by simp at hk
  | k0 :: r, x :: l, ho, j + 1, k, hk => by
    have : outLists h fresh r l = true := by
      cases k0 <;> first | exact ho | (simp only [outLists, Bool.and_eq_true] at ho; exact ho.2)
    simpa using outLists_get this j k (by simpa using hk)
  | k0 :: r, x :: l, ho, 0, k, hk => by
    simp only [List.getElem?_cons_zero, Option.some.injEq] at hk
    subst hk
    simp only [outLists, Bool.and_eq_true] at ho
    have h1 := ho.1
    split at h1
    · rename_i b i
      refine .inr ⟨b, i, rfl, ?_⟩
      split at h1
      · rename_i ks' old hl
        rw [Bool.and_eq_true] at h1
        refine .inl ⟨old, by rw [hl, leq_eq ckeq_eq _ _ h1.1], fun hf => ?_⟩
        have := h1.2
        rw [hf] at this
        simpa using this
      · rename_i ks' e hl
        exact .inr ⟨e, by rw [hl, leq_eq ckeq_eq _ _ h1]⟩
      · cases h1
    · exact .inl rfl
    · cases h1
  | [], _ :: _, ho, _, _, _ => by simp [outLists] at ho
  | k0 :: _, [], ho, _, _, _ => by cases k0 <;> simp [outLists] at ho
theorem argsCells_len : ∀ {ss : List SP} {vs : List TV} {a : List AV}, argsCells ss vs = some a → a.length = (flatS ss).length
  | [], [], a, ha => by simp only [argsCells, Option.some.injEq] at ha; subst ha; rfl
  | s :: ss, v :: vs, a, ha => by
    simp only [argsCells] at ha
    split at ha
    · rename_i a1 a2 h1 h2
      obtain rfl := Option.some.inj ha
      rw [List.length_append, argCells_len h1, argsCells_len h2, flatS, List.length_append]
    · cases ha
  | [], _ :: _, _, ha => by simp [argsCells] at ha
  | _ :: _, [], _, ha => by simp [argsCells] at ha
theorem outCells_len {s : ST} {v : TV} {a : List AV} (ha : outCells s v = some a) : a.length = s.flat.length := by
  unfold outCells at ha
  split at ha
  · exact argCells_len ha
  · exact argsCells_len ha
  · exact argsCells_len ha
  · cases ha
theorem outCells_val {E : Env} {h : H} {B : Bd} {w : World} (r : HR E h B w) {s : ST} {v : TV} {a : List AV} {all : List FK} {avs : List AV} {dxs : List DX} (hd : dxArgs h all avs = some dxs) (ha : outCells s v = some a) (hk : ∀ j, j < s.flat.length → all[j]? = s.flat[j]?) (hx : ∀ j, j < a.length → avs[j]? = a[j]?) : ct E v = s.val (recArg E avs dxs) := by
  unfold outCells at ha
  split at ha
  · exact argCells_val r hd ha (n := 0) (fun j hj => by rw [Nat.zero_add]; exact hk j hj) (fun j hj => by rw [Nat.zero_add]; exact hx j hj)
  · rename_i l vs
    have := argsCells_val r hd (n := 0) ha (fun j hj => by rw [Nat.zero_add]; exact hk j hj) (fun j hj => by rw [Nat.zero_add]; exact hx j hj)
    simp only [ct, ST.val, ← this, List.map_map]
    rfl
  · rename_i l vs
    have := argsCells_val r hd (n := 0) ha (fun j hj => by rw [Nat.zero_add]; exact hk j hj) (fun j hj => by rw [Nat.zero_add]; exact hx j hj)
    simp only [ST.val, ← this, map_av]
    rfl
  · cases ha
theorem outCells_bd {h : H} {s : ST} {v : TV} {a : List AV} (ha : outCells s v = some a) (hb : bdT h v = true) : ∀ x ∈ a, bd h x = true := by
  unfold outCells at ha
  split at ha
  · exact argCells_bd ha hb
  · rename_i l vs
    refine argsCells_bd ha fun x hx => ?_
    obtain ⟨y, hy, rfl⟩ := List.mem_map.1 hx
    exact List.all_eq_true.1 hb y hy
  · rename_i l vs
    refine argsCells_bd ha fun x hx => ?_
    obtain ⟨y, hy, rfl⟩ := List.mem_map.1 hx
    rfl
  · cases ha
/-- All that may come about is what is told. -/
def Con.Good (T : Tab) (rel : List DV → List DV → Prop) (pre : List DV → Prop) (c : Con) (R : Res RO) : Prop := ∀ E : Env, (∀ j ks, (flatS c.ins)[j]? = some (.list ks) → (∀ x ∈ (E.r 0).l j, x.length = ks.length) ∧ ((E.r 0).l j).length ≤ maxLen) → (c.total = false → pre (dvs (E.r 0) (flatS c.ins) 0)) →
  (∀ q ∈ R.bad, ¬ PC T E q) ∧ ∀ r ∈ R.ok, PC T E r.q → ∃ avs d, outDX c r = some (avs, d) ∧ rel (dvs (E.r 0) (flatS c.ins) 0) (d.map (DX.den E))
theorem con_of {P : Program} {T : Tab} {rel : List DV → List DV → Prop} {pre : List DV → Prop} {cs : List Con} {lcs : List (FuncId × LCon)} {known : List KE} (hcs : ∀ c ∈ cs, ConS P T c) (hk : Known P known) {N d : Nat} {c : Con} {R : Res RO} (hR : c.run P cs lcs known N d = some R) (hg : c.Good T rel pre R) : ConR P rel pre c := by
  intro r w hin hp
  have hl := hin.lst
  unfold Con.run at hR
  let B : Bd := ⟨w.heap.size, Eaten r (flatS c.ins)⟩
  have hh : has [(0, Ent.lst (stsIn (flatS c.ins)))] 0 = true := rfl
  have hr0 : HR env0 [] B w := HR.nilB w (Nat.le_refl _)
  have noB : ∀ b j, lk [] b j = .gone := fun b j => rfl
  have hr : HR (env0.setR 0 r) (hput [] 0 (.lst (stsIn (flatS c.ins)))) B w := by
    refine hr0.lists rfl r _ (fun j => ?_) (fun j k hjk => ?_) (fun j k hjk => ?_) (fun j fs hjk => ?_) (fun j ks e hjk => ?_) (fun j k hjk => ?_) (fun j x y hjk => ?_)
    · rcases stsIn_get (flatS c.ins) j with ⟨ks, h1, h2⟩ | ⟨k, h1, h2⟩ | ⟨k, h1, h2⟩ | ⟨fs, h1, h2⟩ | ⟨l, e, h1, h2⟩ | h1
      · obtain ⟨h3, h4⟩ := hl j ks h1
        refine .inr (.inr (.inr (.inr (.inr (.inr ⟨ks, true, h2, h3, fun n hn => ⟨?_, fun c x hx => by simp [hget, look] at hx, fun b j ks e ho => by simp [lk, look] at ho, .inr ⟨rfl, rfl, j, ?_⟩, fun b j k ps os ho => by simp [lk, look] at ho⟩⟩)))))
        · -- the rows lie in a block that is there
          obtain ⟨hne, ha⟩ := hn
          cases hL : r.l j with
          | nil => exact absurd hL hne
          | cons x L =>
            have hwf := h3.wf x (by rw [hL]; simp)
            cases ks with
            | nil => exact absurd rfl h4
            | cons k ks =>
              have hlen := encL_length (k :: ks) (r.l j) h3.wf
              have hpos : 0 < (encL (k :: ks) (r.l j)).length := by
                rw [hlen, hL]
                exact Nat.mul_pos (by simp) (by simp)
              obtain ⟨A, hA, hc⟩ := h3.read 0 _ (List.getElem?_eq_getElem hpos)
              rw [hA] at ha
              have hb := World.block_lt_of_cell? w _ hc
              rw [addr_add_block] at hb
              have : A.block = n := by simpa using ha
              rw [← this]; exact hb
        · rw [Env.setR_r]; exact hn
      · exact .inr (.inl ⟨k, .inl h2⟩)
      · exact .inr (.inr (.inr (.inr (.inr (.inl ⟨k, h2⟩)))))
      · exact .inr (.inr (.inl ⟨fs, h2⟩))
      · exact .inr (.inr (.inr (.inl ⟨l, e, h2⟩)))
      · exact .inl h1
    · have hj : (flatS c.ins)[j]? = some (.obj k) ∨ (flatS c.ins)[j]? = some (.io k) := by
        rcases stsIn_get (flatS c.ins) j with ⟨ks, h1, h2⟩ | ⟨k', h1, h2⟩ | ⟨k', h1, h2⟩ | ⟨fs, h1, h2⟩ | ⟨l, e, h1, h2⟩ | h1
        · rw [h2] at hjk; cases hjk
        · rw [h2] at hjk; cases hjk; exact h1
        · rw [h2] at hjk; cases hjk
        · rw [h2] at hjk; cases hjk
        · rw [h2] at hjk; cases hjk
        · rw [h1] at hjk; cases hjk
      obtain ⟨kk, hkk, hek⟩ : ∃ kk, (flatS c.ins)[j]? = some kk ∧ eatF r j kk = (r.t j).fp := by
        rcases hj with hj | hj
        · exact ⟨_, hj, rfl⟩
        · exact ⟨_, hj, rfl⟩
      have hnd := eatFs_nd hin.one hkk
      rw [Nat.zero_add, hek] at hnd
      refine ⟨hin.obj j k hj, hnd, fun n hn => ?_⟩
      have hE : Eaten r (flatS c.ins) n := eatFs_mem hkk (by rw [Nat.zero_add, hek]; exact hn)
      refine ⟨(hin.obj j k hj).lt n hn, fun c x hx => by simp [hget, look] at hx, fun b j hb => hb, .inr hE, fun i hi => ?_⟩
      rcases stsIn_get (flatS c.ins) i with ⟨ks, h1, h2⟩ | ⟨k', h1, h2⟩ | ⟨k', h1, h2⟩ | ⟨fs, h1, h2⟩ | ⟨l, e, h1, h2⟩ | h1
      · rw [h2] at hi
        exact absurd hE (hin.apt i ks h1 n hi)
      · rw [h2] at hi
        have hi : n ∈ fps (r.t i) [[]] := hi
        rw [fps_one] at hi
        rcases h1 with h1 | h1
        · exact .inl (eatFs_sep (s := 0) hin.one h1 hkk n (by rw [Nat.zero_add]; exact hi) (by rw [Nat.zero_add, hek]; exact hn))
        · exact .inl (eatFs_sep (s := 0) hin.one h1 hkk n (by rw [Nat.zero_add]; exact hi) (by rw [Nat.zero_add, hek]; exact hn))
      · rw [h2] at hi
        exact absurd hE (hin.vap i k' h1 n hi)
      · rw [h2] at hi
        exact absurd hE ((hin.fb i fs h1).2 n hi)
      · rw [h2] at hi
        exact .inl (eatFs_sep (s := 0) hin.one h1 hkk n (by rw [Nat.zero_add]; exact ownFp_occ.2 hi) (by rw [Nat.zero_add, hek]; exact hn))
      · rw [h1] at hi; exact hi.elim
    · exfalso
      rcases stsIn_get (flatS c.ins) j with ⟨ks, h1, h2⟩ | ⟨k', h1, h2⟩ | ⟨k', h1, h2⟩ | ⟨fs, h1, h2⟩ | ⟨l, e, h1, h2⟩ | h1
      · rw [h2] at hjk; cases hjk
      · rw [h2] at hjk; cases hjk
      · rw [h2] at hjk; cases hjk
      · rw [h2] at hjk; cases hjk
      · rw [h2] at hjk; cases hjk
      · rw [h1] at hjk; cases hjk
    · have hj : (flatS c.ins)[j]? = some (.fb fs) := by
        rcases stsIn_get (flatS c.ins) j with ⟨ks, h1, h2⟩ | ⟨k', h1, h2⟩ | ⟨k', h1, h2⟩ | ⟨fs', h1, h2⟩ | ⟨l, e, h1, h2⟩ | h1
        · rw [h2] at hjk; cases hjk
        · rw [h2] at hjk; cases hjk
        · rw [h2] at hjk; cases hjk
        · rw [h2] at hjk; cases hjk; exact h1
        · rw [h2] at hjk; cases hjk
        · rw [h1] at hjk; cases hjk
      obtain ⟨⟨g, g1, g2, g3⟩, _⟩ := hin.fb j fs hj
      refine ⟨⟨g, g1, g2, g3⟩, fun n hn => ⟨?_, fun c x hx => by simp [hget, look] at hx, fun b j ks e ho => by simp [lk, look] at ho, fun b j k ps os ho => by simp [lk, look] at ho⟩⟩
      have hn : (r.a j).map (·.block) = some n := hn
      rw [g1] at hn
      rw [← Option.some.inj hn]; exact g2
    · have hj : (flatS c.ins)[j]? = some (.own ks e) := by
        rcases stsIn_get (flatS c.ins) j with ⟨ks, h1, h2⟩ | ⟨k', h1, h2⟩ | ⟨k', h1, h2⟩ | ⟨fs', h1, h2⟩ | ⟨l, e, h1, h2⟩ | h1
        · rw [h2] at hjk; cases hjk
        · rw [h2] at hjk; cases hjk
        · rw [h2] at hjk; cases hjk
        · rw [h2] at hjk; cases hjk
        · rw [h2] at hjk; cases hjk; exact h1
        · rw [h1] at hjk; cases hjk
      refine ⟨hin.own j ks e hj, fun n hn => ?_⟩
      have hmo : n ∈ ownFp r j := ownFp_occ.2 hn
      have hE : Eaten r (flatS c.ins) n := eatFs_mem hj (by rw [Nat.zero_add]; exact hmo)
      obtain ⟨cs', e', f', hcs⟩ := (hin.own j ks e hj).cells n hmo
      refine ⟨(Array.getElem?_eq_some_iff.1 hcs).1, fun c x hx => by simp [hget, look] at hx, fun b j hb => hb, .inr hE, fun i hi => ?_⟩
      rcases stsIn_get (flatS c.ins) i with ⟨ks', h1, h2⟩ | ⟨k', h1, h2⟩ | ⟨k', h1, h2⟩ | ⟨fs, h1, h2⟩ | ⟨l, e, h1, h2⟩ | h1
      · rw [h2] at hi
        exact absurd hE (hin.apt i ks' h1 n hi)
      · rw [h2] at hi
        have hi : n ∈ fps (r.t i) [[]] := hi
        rw [fps_one] at hi
        rcases h1 with h1 | h1
        · exact eatFs_sep (s := 0) hin.one h1 hj n (by rw [Nat.zero_add]; exact hi) (by rw [Nat.zero_add]; exact hmo)
        · exact eatFs_sep (s := 0) hin.one h1 hj n (by rw [Nat.zero_add]; exact hi) (by rw [Nat.zero_add]; exact hmo)
      · rw [h2] at hi
        exact absurd hE (hin.vap i k' h1 n hi)
      · rw [h2] at hi
        exact absurd hE ((hin.fb i fs h1).2 n hi)
      · rw [h2] at hi
        exact eatFs_sep (s := 0) hin.one h1 hj n (by rw [Nat.zero_add]; exact ownFp_occ.2 hi) (by rw [Nat.zero_add]; exact hmo)
      · rw [h1] at hi; exact hi.elim
    · have hj : (flatS c.ins)[j]? = some (.vw k) := by
        rcases stsIn_get (flatS c.ins) j with ⟨ks, h1, h2⟩ | ⟨k', h1, h2⟩ | ⟨k', h1, h2⟩ | ⟨fs, h1, h2⟩ | ⟨l, e, h1, h2⟩ | h1
        · rw [h2] at hjk; cases hjk
        · rw [h2] at hjk; cases hjk
        · rw [h2] at hjk; cases hjk; exact h1
        · rw [h2] at hjk; cases hjk
        · rw [h2] at hjk; cases hjk
        · rw [h1] at hjk; cases hjk
      refine ⟨hin.vw j k hj, fun n hn => ⟨(hin.vw j k hj).lt n hn, fun c x hx => by simp [hget, look] at hx, fun f => ?_⟩⟩
      rcases f with f | f
      · have f : w.heap.size ≤ n := f
        have := (hin.vw j k hj).lt n hn
        omega
      · exact hin.vap j k hj n hn f
    · exfalso
      rcases stsIn_get (flatS c.ins) j with ⟨ks, h1, h2⟩ | ⟨k', h1, h2⟩ | ⟨k', h1, h2⟩ | ⟨fs', h1, h2⟩ | ⟨l, e, h1, h2⟩ | h1
      · rw [h2] at hjk; cases hjk
      · rw [h2] at hjk; cases hjk
      · rw [h2] at hjk; cases hjk
      · rw [h2] at hjk; cases hjk
      · rw [h2] at hjk; cases hjk
      · rw [h1] at hjk; cases hjk
  have hc := evalBody_ok (N := N) (lcs := lcs) (evalCall_ok (T := T) hcs hk d B) c.f (argTVs c.ins 0) (hput [] 0 (.lst (stsIn (flatS c.ins)))) [] 1 R hR (env0.setR 0 r) w (argTVs_bd hh c.ins 0) hr rfl trivial
  have gd : ∀ E', Ag (hput [] 0 (.lst (stsIn (flatS c.ins)))) (env0.setR 0 r) E' → E'.r 0 = r := fun E' ag => by
    rw [← (ag 0 rfl).2.2, Env.setR_r]
  have g := fun E' (ag : Ag (hput [] 0 (.lst (stsIn (flatS c.ins)))) (env0.setR 0 r) E') => hg E' (fun j ks hj => by
    rw [gd E' ag]
    exact ⟨(hl j ks hj).1.wf, Nat.le_trans (hl j ks hj).1.cap (hl j ks hj).1.max⟩) (fun ht => by rw [gd E' ag]; exact hp ht)
  have hc := hc (fun q hq E' ag => (g E' ag).1 q hq)
  rw [argTVs_eq, Env.setR_r] at hc
  refine hc.mono ?_
  rintro e w' ⟨o, ho, E', rfl, st, hb, _, hq⟩
  obtain ⟨avs, dx, h1, h2⟩ := (g E' st.ag).2 o ho hq
  rw [gd E' st.ag] at h2
  unfold outDX at h1
  split at h1
  · rename_i avs' h3
    split at h1
    · rename_i d' h4
      generalize hA : avs' ++ ioAVs o.h (flatS c.ins) = A at h1 h4
      cases h5 : (outLists o.h c.fresh c.fo A && apartR (eatRs c.fo d') && lsOk (eatRs c.fo d') c.fo A) with
      | false => rw [h5] at h1; cases h1
      | true =>
        rw [h5, cond_true, Option.some.injEq] at h1
        obtain ⟨rfl, rfl⟩ := Prod.mk.inj h1
        rw [Bool.and_eq_true, Bool.and_eq_true] at h5
        obtain ⟨⟨h5, hap⟩, hls⟩ := h5
        have hr := st.hr
        have valid := eat_valid hr h4
        have efp := eat_eq (E := E') hr h4
        have hlen := outCells_len h3
        have hfoG : ∀ j, j < c.outs.flat.length → c.fo[j]? = c.outs.flat[j]? := fun j hj => List.getElem?_append_left hj
        have hAG : ∀ j, j < avs'.length → A[j]? = avs'[j]? := fun j hj => by rw [← hA]; exact List.getElem?_append_left hj
        have h0 : has o.h 0 = true := st.sub 0 rfl
        have hdv : dvs (recArg E' A d') c.fo 0 = d'.map (DX.den E') := dvs_args hr h4 _ _ 0 (fun j => by rw [Nat.zero_add]) (fun j => by rw [Nat.zero_add]) (dxArgs_len h4).2.symm
        refine ⟨recArg E' A d', by rw [outCells_val hr h4 h3 hfoG hAG], by rw [hdv]; exact h2, st.bel, fun j ks hj => ?_, fun j k hj => ?_, fun j l e hj => ?_, by rw [efp]; exact rs_nodup hr hap valid, fun n hn => ?_, fun i j hij => ?_⟩
        · obtain ⟨x, d, q1, q2, q3⟩ := dxArgs_get h4 j _ hj
          have apart : ∀ n, (LK.rd ks true).occ (recArg E' A d') j n → n ∉ eatFs (recArg E' A d') c.fo 0 := fun n hn => by
            rw [efp]; exact list_apart hr h4 hls hj hn
          simp only [dxArg] at q3
          rcases outLists_get h5 j ks hj with h6 | ⟨b, i, h6, h7⟩
          · rw [q1] at h6
            obtain rfl := Option.some.inj h6
            simp only [dxArgL, Option.some.injEq] at q3
            subst q3
            have el : (recArg E' A d').l j = [] := by simp [recArg, q2]
            have em : (recArg E' A d').m j = 0 := by simp [recArg, q1]
            exact ⟨⟨fun x hx => by rw [el] at hx; simp at hx, by rw [el]; simp, by rw [em]; exact Nat.zero_le _, fun n u hu => by rw [el] at hu; simp [encL] at hu⟩, fun n hn => by simp [LK.occ, el] at hn⟩
          · rw [q1] at h6
            obtain rfl := Option.some.inj h6
            have q4 : d = .lst b i := by
              simp only [dxArgL] at q3
              split at q3
              · rename_i ks' _
                cases hc : leq ckeq ks ks' with
                | false => rw [hc] at q3; cases q3
                | true => rw [hc, cond_true] at q3; exact (Option.some.inj q3).symm
              · cases q3
            subst q4
            have el : (recArg E' A d').l j = (E'.r b).l i := by simp [recArg, q2]
            have ea : (recArg E' A d').a j = (E'.r b).a i := by simp [recArg, q1]
            have em : (recArg E' A d').m j = (E'.r b).m i := by simp [recArg, q1]
            have hok := st.hr.lst.ok b i
            have hrok : ROk w' (E'.r b) i ks := by
              rcases h7 with ⟨old, h8, _⟩ | ⟨e, h8⟩
              · rw [h8] at hok; exact hok
              · rw [h8] at hok; exact OOk.rok hok
            refine ⟨⟨by rw [el]; exact hrok.wf, by rw [el, em]; exact hrok.cap, by rw [em]; exact hrok.max, by rw [el, ea]; exact hrok.read⟩, fun n hn => ?_⟩
            have hap' := apart n hn
            simp only [LK.occ, el, ea] at hn
            rcases h7 with ⟨old, h8, h9⟩ | ⟨e, h8⟩
            · have hocc : (lk o.h b i).occ (E'.r b) i n := by rw [h8]; exact hn
              refine ⟨(st.hr.lst.lt b i n hocc).1, hap', ?_⟩
              rcases st.hr.lst.inn b i ks old h8 n hocc with (h10 | h10) | ⟨h10, h11, j', h12, h13⟩
              · exact .inl h10
              · exact .inr (.inl h10)
              · rw [gd E' st.ag] at h12 h13
                cases hf : c.fresh with
                | true => rw [h9 hf] at h10; cases h10
                | false => exact .inr (.inr ⟨rfl, j', h12, h13⟩)
            · have hocc : (lk o.h b i).occ (E'.r b) i n := by
                rw [h8]
                refine ⟨fun hm => hn.1 ?_, hn.2⟩
                have := hrok.cap
                exact List.eq_nil_of_length_eq_zero (by omega)
              refine ⟨(st.hr.lst.lt b i n hocc).1, hap', ?_⟩
              rcases st.hr.lst.fre b i (by rw [h8]; trivial) n hocc with h10 | h10
              · exact .inl h10
              · exact .inr (.inl h10)
        · obtain ⟨x, d, g1, g2, g3⟩ := dxArgs_get h4 j _ hj
          simp only [dxArg] at g3
          obtain ⟨d2, g4, rfl⟩ := Option.map_eq_some_iff.1 g3
          have : (recArg E' A d').t j = d2.den E' := by simp [recArg, g2]
          rw [this]; exact (objOf_ok hr g4).1
        · obtain ⟨x, d, g1, g2, g3⟩ := dxArgs_get h4 j _ hj
          exact dxArgO_ok hr g3 g1 g2
        · rw [efp] at hn
          obtain ⟨a, ha, hna⟩ := List.mem_flatMap.1 hn
          exact Rs.free hr (valid a ha) n hna
        · obtain ⟨k, _, _, hk2⟩ := iosP_get hij
          have hfo : c.fo[c.outs.flat.length + i]? = some (.obj k) := by
            unfold Con.fo
            rw [List.getElem?_append_right (by omega), show c.outs.flat.length + i - c.outs.flat.length = i by omega]
            exact hk2
          obtain ⟨x, d, g1, g2, g3⟩ := dxArgs_get h4 _ _ hfo
          have hx : x = resN o.h (aliases o.h) (.ob 0 j []) := by
            rw [← hA, List.getElem?_append_right (by omega), ioAVs, List.getElem?_map, hlen, show c.outs.flat.length + i - c.outs.flat.length = i by omega, hij] at g1
            exact (Option.some.inj g1).symm
          simp only [dxArg] at g3
          obtain ⟨d2, g4, rfl⟩ := Option.map_eq_some_iff.1 g3
          have : (recArg E' A d').t (c.outs.flat.length + i) = d2.den E' := by simp [recArg, g2]
          rw [this]
          have e1 := (objOf_ok hr g4).2.1
          rw [hx, (resN_same hr (.ob 0 j []) h0).1] at e1
          simp only [cv, Dat.sub, gd E' st.ag, Value.pointer.injEq] at e1
          exact e1.symm
    · cases h1
  · cases h1
end Go.Proofs.Ytkepkjahbcddlaa.Sy
