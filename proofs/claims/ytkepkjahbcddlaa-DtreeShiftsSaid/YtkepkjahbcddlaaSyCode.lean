/- ninth part: code. -/
import Derived.Test.YtkepkjahbcddlaaSyLoop
namespace Go.Proofs.Ytkepkjahbcddlaa.Sy
open Go Go.RowKit
set_option linter.unusedVariables false
set_option linter.unusedSimpArgs false
set_option linter.unusedSectionVars false
variable [Kinds]
inductive X where
  | normal
  | exit (id : Nat)
  | ret
def X.to : X → Exit
  | .normal => .normal
  | .exit id => .exit id
  | .ret => .ret
def X.isN : X → Bool
  | .normal => true
  | _ => false
def X.isE (n : Nat) : X → Bool
  | .exit id => Nat.beq id n
  | _ => false
abbrev Out := Res (X × St)
/-! ### A loop of which it is told what holds at its head -/
/-- One of the loop's variables: part k of temporary i, or cell k of block i (counted from the function's first name); its kind; if it is a list, whether it is the walk's own. -/
structure LV where
  tmp : Bool
  i : Nat
  k : Nat
  kd : FK
  st : LK
structure LCon where
  key : Nat
  rel : Nat
  vars : List LV
  ctx : List (Bool × Nat × Nat)
def posVal (t : List TV) (h : H) (p : Bool × Nat × Nat) : Option AV :=
  bif p.1 then ((t[p.2.1]?).bind cellsT).bind (·[p.2.2]?) else (hget h p.2.1).bind fun x => x.cells[p.2.2]?
def vals (t : List TV) (h : H) : List (Bool × Nat × Nat) → Option (List AV)
  | [] => some []
  | p :: r => match posVal t h p, vals t h r with
    | some x, some l => some (x :: l)
    | _, _ => none
/-- What is only told of: as a position; or (from 1000 on) a cell of what a function value in a temporary has captured. -/
def ctxVal (t : List TV) (h : H) (p : Bool × Nat × Nat) : Option AV :=
  bif p.1 && Nat.ble 1000 p.2.2 then match t[p.2.1]? with
    | some (.p (.v (.fn _ cap))) => match cap[(p.2.2 - 1000) / 100]? with
      | some (b, o) => (hget h b).bind fun x => x.cells[o + (p.2.2 - 1000) % 100]?
      | none => none
    | _ => none
  else posVal t h p
def ctxVals (t : List TV) (h : H) : List (Bool × Nat × Nat) → Option (List AV)
  | [] => some []
  | p :: r => match ctxVal t h p, ctxVals t h r with
    | some x, some l => some (x :: l)
    | _, _ => none
def LV.pos (v : LV) : Bool × Nat × Nat := (v.tmp, v.i, v.k)
def varAV (id j : Nat) : FK → AV
  | .int k => .ix k (.v id j)
  | .bool => .bx (.v id j)
  | .list _ => .ls id j
  | .obj _ => .ob id j []
  | .vw _ => .ob id j []
  | .fb _ => .fp id j 0
  | .own _ _ => .ls id j
  | .io _ => .ob id j []
  | .fn f => .fn f []
def findV : List LV → Bool → Nat → Nat → Nat → Option (Nat × FK)
  | [], _, _, _, _ => none
  | v :: r, b, i, k, j => bif beqB v.tmp b && Nat.beq v.i i && Nat.beq v.k k then some (j, v.kd) else findV r b i k (j + 1)
def subC (vs : List LV) (id : Nat) (b : Bool) (i : Nat) : Nat → List AV → List AV
  | _, [] => []
  | k, x :: r => (match findV vs b i k 0 with | some (j, kd) => varAV id j kd | none => x) :: subC vs id b i (k + 1) r
def asg : Code → List Nat
  | .region _ ops _ => ops.toList.filterMap (·.dst)
  | .seq a b => asg a ++ asg b
  | .cond _ a b => asg a ++ asg b
  | .block _ b => asg b
  | .loop b => asg b
  | .scope b => asg b
  | _ => []
def regId : Code → Option Nat
  | .region id _ _ => some id
  | .seq a b => match regId a with
    | some i => some i
    | none => regId b
  | .cond _ a b => match regId a with
    | some i => some i
    | none => regId b
  | .block _ b => regId b
  | .loop b => regId b
  | .scope b => regId b
  | _ => none
/-- Whether a list that is given up is named. -/
def holdsA (ps : List (Nat × Nat)) : AV → Bool
  | .ls b j => ps.any (neq2 (b, j))
  | .hp b j _ _ _ => ps.any (neq2 (b, j))
  | .ob b j _ => ps.any (neq2 (b, j))
  | .op b j _ _ => ps.any (neq2 (b, j))
  | .fp b j _ => ps.any (neq2 (b, j))
  | _ => false
def holdsT (ps : List (Nat × Nat)) : TV → Bool
  | .p (.v x) => holdsA ps x
  | .p (.agg l) => l.any (holdsA ps)
  | .tup _ => false
def headT (vs : List LV) (id : Nat) (as : List Nat) (ps : List (Nat × Nat)) : Nat → List TV → List TV
  | _, [] => []
  | i, v :: r => (bif vs.any (fun x => x.tmp && Nat.beq x.i i) then (match v with
      | .p (.v (.val (.agg cs))) => .p (.agg (subC vs id true i 0 (cs.toList.map .val)))
      | .p (.v x) => .p (.v ((subC vs id true i 0 [x]).headD x))
      | .p (.agg l) => .p (.agg (subC vs id true i 0 l))
      | v => v) else bif as.any (Nat.beq i) || holdsT ps v then .p (.v (.any id i)) else v) :: headT vs id as ps (i + 1) r
def goneAt (ps : List (Nat × Nat)) (b : Nat) : Nat → List LK → List LK
  | _, [] => []
  | i, x :: r => (bif ps.any (neq2 (b, i)) then .gone else x) :: goneAt ps b (i + 1) r
def headH (vs : List LV) (id : Nat) (ps : List (Nat × Nat)) : H → H
  | [] => []
  | (b, e) :: r => (b, match e with
      | .blk x => .blk ⟨subC vs id false b 0 x.cells, x.elem, x.full⟩
      | .lst l => .lst (goneAt ps b 0 l)
      | .dead => .dead
      | .mp es n => .mp es n) :: headH vs id ps r
def oldDX (id : Nat) : List FK → Nat → List DX
  | [], _ => []
  | .int _ :: ks, j => .num (.v id j) :: oldDX id ks (j + 1)
  | .bool :: ks, j => .tru (.v id j) :: oldDX id ks (j + 1)
  | .list _ :: ks, j => .lst id j :: oldDX id ks (j + 1)
  | .obj _ :: ks, j => .obj (.at id j []) :: oldDX id ks (j + 1)
  | .vw _ :: ks, j => .obj (.at id j []) :: oldDX id ks (j + 1)
  | .fb _ :: ks, j => .num (.n 0) :: oldDX id ks (j + 1)
  | .own _ _ :: ks, j => .lst id j :: oldDX id ks (j + 1)
  | .io _ :: ks, j => .obj (.at id j []) :: oldDX id ks (j + 1)
  | .fn _ :: ks, j => .num (.n 0) :: oldDX id ks (j + 1)
theorem oldDX_eq (E : Env) (id : Nat) : ∀ (ks : List FK) (j : Nat), (oldDX id ks j).map (DX.den E) = dvs (E.r id) ks j
  | [], j => rfl
  | .int _ :: ks, j => by simp [oldDX, dvs, DX.den, Ex.den, oldDX_eq E id ks (j + 1)]
  | .bool :: ks, j => by simp [oldDX, dvs, DX.den, Bx.den, oldDX_eq E id ks (j + 1)]
  | .list _ :: ks, j => by simp [oldDX, dvs, DX.den, oldDX_eq E id ks (j + 1)]
  | .obj _ :: ks, j => by simp [oldDX, dvs, DX.den, DE.den, Dat.sub, oldDX_eq E id ks (j + 1)]
  | .vw _ :: ks, j => by simp [oldDX, dvs, DX.den, DE.den, Dat.sub, oldDX_eq E id ks (j + 1)]
  | .fb _ :: ks, j => by simp [oldDX, dvs, DX.den, Ex.den, oldDX_eq E id ks (j + 1)]
  | .own _ _ :: ks, j => by simp [oldDX, dvs, DX.den, oldDX_eq E id ks (j + 1)]
  | .io _ :: ks, j => by simp [oldDX, dvs, DX.den, DE.den, Dat.sub, oldDX_eq E id ks (j + 1)]
  | .fn _ :: ks, j => by simp [oldDX, dvs, DX.den, Ex.den, oldDX_eq E id ks (j + 1)]
def mkHead (c : LCon) (ins : List DX) (avs : List AV) (b : Code) (s : St) : St :=
  ⟨headT c.vars s.n (asg b) (srcs (c.vars.map (·.st)) avs) 0 s.t, hput (headH c.vars s.n (srcs (c.vars.map (·.st)) avs) s.h) s.n (.lst (c.vars.map (·.st))), .rel c.rel ins s.n (c.vars.map (·.kd)) :: s.q, s.n + 1⟩
/-- Whether a state is as at the head. -/
def atHead (c : LCon) (s hd s' : St) : Option (List AV × List DX) :=
  match vals s'.t s'.h (c.vars.map (·.pos)) with
  | some avs => match dxL avs with
    | some d => bif (has hd.h 0 || !(has s'.h 0)) && !(Nat.beq s.n 0) && fitL (c.vars.map (·.kd)) avs && mTs s.n avs s.h 0 hd.t s'.t && mH s.n avs s.h s'.h hd.h && mS s.n hd.h s'.h (c.vars.map (·.st)) avs then some (avs, d) else none
    | none => none
  | none => none
def evalLoop (eb : St → Option Out) (c : LCon) (b : Code) (s : St) : Option Out :=
  match vals s.t s.h (c.vars.map (·.pos)), (ctxVals s.t s.h c.ctx).bind dxL with
  | some avs, some cx => match dxL avs with
    | some d0 =>
      let ins := cx ++ d0
      let hd := mkHead c ins avs b s
      bif !(has s.h s.n) && s.h.all (fun p => has hd.h p.1) && ins.all (DX.bd s.h) then match atHead c s hd s with
        | some _ => match eb hd with
          | some R => match bindR (fun (p : X × St) => bif p.1.isN then (match atHead c s hd p.2 with
              | some (_, d') => some (⟨[], [.nrel c.rel ins d' :: p.2.q, .ndec c.rel ins (oldDX s.n (c.vars.map (·.kd)) 0) d' :: p.2.q]⟩ : Out)
              | none => none) else some (.one p)) R.ok with
            | some R2 => some ⟨R2.ok, (.nrel c.rel ins d0 :: s.q) :: (R.bad ++ R2.bad)⟩
            | none => none
          | none => none
        | none => none
      else none
    | none => none
  | _, _ => none
/-! ### Great numbers get names of their own -/
def Ex.size : Ex → Nat
  | .bin _ a b => a.size + b.size + 1
  | .wrap _ a => a.size + 1
  | .at _ _ i _ => i.size + 1
  | _ => 1
def exR (e y : Ex) : Ex → Ex
  | .bin o a b => bif Ex.eqb (.bin o a b) e then y else .bin o (exR e y a) (exR e y b)
  | .wrap k a => bif Ex.eqb (.wrap k a) e then y else .wrap k (exR e y a)
  | .at b j i c => bif Ex.eqb (.at b j i c) e then y else .at b j (exR e y i) c
  | z => z
def bxR (e y : Ex) : Bx → Bx
  | .lt a b => .lt (exR e y a) (exR e y b)
  | .le a b => .le (exR e y a) (exR e y b)
  | .eq a b => .eq (exR e y a) (exR e y b)
  | .nz a => .nz (exR e y a)
  | .beq a b => .beq (bxR e y a) (bxR e y b)
  | .and a b => .and (bxR e y a) (bxR e y b)
  | .not a => .not (bxR e y a)
  | .v b j => .v b j
  | .fld b j p i => .fld b j p i
  | .nil b j p => .nil b j p
def repA (x y : Ex) : AV → AV
  | .ix k z => .ix k (exR x y z)
  | .bx z => .bx (bxR x y z)
  | z => z
def repT (x y : Ex) : TV → TV
  | .p (.v z) => .p (.v (repA x y z))
  | .p (.agg l) => .p (.agg (l.map (repA x y)))
  | .tup l => .tup l
def repH (x y : Ex) : H → H
  | [] => []
  | (b, .blk z) :: r => (b, .blk ⟨z.cells.map (repA x y), z.elem, z.full⟩) :: repH x y r
  | p :: r => p :: repH x y r
def named (k : IntKind) (e : Ex) (s : St) : St := ⟨s.t.map (repT e (.v s.n 0)), hput (repH e (.v s.n 0) s.h) s.n (.lst []), .is (.eq (.v s.n 0) e) true :: s.q, s.n + 1⟩
def nameChk (k : IntKind) (e : Ex) (s s2 : St) : Bool :=
  !(has s.h s.n) && !(Nat.beq s.n 0) && (has s2.h 0 || !(has s.h 0)) && s.h.all (fun p => has s2.h p.1) && e.bd s.h && mTs s.n [.ix k e] s.h 0 s2.t s.t && mH s.n [.ix k e] s.h s.h s2.h && mS s.n s2.h s.h [] [.ix k e]
def nameOne (k : IntKind) (e : Ex) (s : St) : St := bif nameChk k e s (named k e s) then named k e s else s
def nameD (s : St) (d : Nat) : St := match s.t[d]? with
  | some (.p (.v (.ix k e))) => bif Nat.ble 7 e.size then nameOne k e s else s
  | _ => s
def nameAll (ops : Array Oper) (s : St) : St := (ops.toList.filterMap (·.dst)).foldl nameD s
theorem nameOne_rel {T : Tab} {B : Bd} {E0 : Env} {h0 : H} {w0 : World} {s : St} {a : Act} {w : World} (k : IntKind) (e : Ex) (r : Rel T B E0 h0 w0 s a w) : Rel T B E0 h0 w0 (nameOne k e s) a w := by
  unfold nameOne
  generalize hs2 : named k e s = s2
  cases hc : nameChk k e s s2 with
  | false => exact r
  | true =>
    rw [cond_true]
    simp only [nameChk, Bool.and_eq_true, Bool.not_eq_true'] at hc
    obtain ⟨⟨⟨⟨⟨⟨⟨hid, hn0⟩, h00⟩, hsub0⟩, heb⟩, h1⟩, h2⟩, h3⟩ := hc
    obtain ⟨E, ko, st⟩ := r
    have hsub : Sub s.h s2.h := by
      intro n hn
      obtain ⟨x, hx⟩ := Option.isSome_iff_exists.1 hn
      exact List.all_eq_true.1 hsub0 _ (look_mem hx)
    have hlook : look s2.h s.n = some (.lst []) := by rw [← hs2]; exact look_same _ _ _
    have hq : s2.q = .is (.eq (.v s.n 0) e) true :: s.q := by rw [← hs2]; rfl
    have ag2 : Ag s.h E (E.setR s.n (recOf E [.ix k e] (fun j => ct E (s.t.getD j uv)))) := ag_setR hid E _
    obtain ⟨k2, st2⟩ := rebind (o := fun j => ct E (s.t.getD j uv)) (qd := s2.q) hid (fun e => by rw [e] at hn0; cases hn0) (fun h => by rw [h] at h00; simpa using h00) hsub hlook ko (Step.refl ko.hr) (fun j y hy => by simp [List.getD_eq_getElem?_getD, hy]) h1 h2 h3 (by
      rw [hq]
      simp only [bdQ, List.all_cons, Bool.and_eq_true, Fact.bd, Bx.bd, Ex.bd]
      exact ⟨⟨by simp [has, hlook], Ex.bd_sub hsub heb⟩, bdQ_sub hsub ko.qb⟩) (by
      rw [hq]
      refine ⟨?_, ko.qd.ag ag2 ko.qb⟩
      simp only [Fact.den, Bx.den, Ex.den, Env.setR_r]
      rw [← Ex.den_ag ag2 heb]
      exact decide_eq_true rfl)
    exact ⟨_, k2, st.trans st2⟩
theorem nameD_rel {T : Tab} {B : Bd} {E0 : Env} {h0 : H} {w0 : World} {s : St} {a : Act} {w : World} (d : Nat) (r : Rel T B E0 h0 w0 s a w) : Rel T B E0 h0 w0 (nameD s d) a w := by
  unfold nameD
  split
  · rename_i k e _
    cases Nat.ble 7 e.size with
    | true => exact nameOne_rel k e r
    | false => exact r
  · exact r
theorem nameAll_rel {T : Tab} {B : Bd} {E0 : Env} {h0 : H} {w0 : World} {a : Act} {w : World} (ops : Array Oper) {s : St} (r : Rel T B E0 h0 w0 s a w) : Rel T B E0 h0 w0 (nameAll ops s) a w := by
  unfold nameAll
  generalize ops.toList.filterMap (·.dst) = l
  induction l generalizing s with
  | nil => exact r
  | cons d l ih => exact ih (nameD_rel d r)
def findC : List LCon → Option Nat → Option LCon
  | [], _ => none
  | c :: r, o => match o with
    | some k => bif Nat.beq c.key k then some c else findC r o
    | none => none
/-- Of those that are told of a loop the first one whose circumstances are there. -/
def pickC (l : List LCon) (s : St) (d : LCon) : LCon := match l.find? (fun c => Nat.beq c.key d.key && (ctxVals s.t s.h c.ctx).isSome) with
  | some c => c
  | none => d
/-- Where it would panic for sure, or be refused, nothing is told. -/
def panics (ops : Array Oper) : Bool := ops.toList.any fun o => match o.op with | .panic _ => true | _ => false
def evalC (P : Program) (call : CallF) (lcs : List LCon) : Nat → Code → St → Option Out
  | 0, _, _ => none
  | n + 1, c, s => match c with
    | .skip => some (.one (.normal, s))
    | .ret => some (.one (.ret, s))
    | .exit id => some (.one (.exit id, s))
    | .seq a b => thenR (evalC P call lcs n a s) fun (p : X × St) => bif p.1.isN then evalC P call lcs n b p.2 else some (.one p)
    | .cond c x y => match opd s.t c with
      | some (.p (.v (.val (.bool true)))) => evalC P call lcs n x s
      | some (.p (.v (.val (.bool false)))) => evalC P call lcs n y s
      | some (.p (.v (.bx b))) => bindR (fun (p : Bool × List Fact) => evalC P call lcs n (bif p.1 then x else y) ⟨s.t, s.h, p.2, s.n⟩) (both s.q b)
      | _ => none
    | .block id b => match evalC P call lcs n b s with
      | some R => some ⟨R.ok.map fun p => bif p.1.isE id then (.normal, p.2) else p, R.bad⟩
      | none => none
    | .loop b => match findC lcs (regId b) with
      | some c => evalLoop (evalC P call lcs n b) (pickC lcs s c) b s
      | none => thenR (evalC P call lcs n b s) fun (p : X × St) => bif p.1.isN then evalC P call lcs n (.loop b) p.2 else some (.one p)
    | .region _ ops false => bif panics ops then some ⟨[], [s.q]⟩ else match evalOps P call ops (List.range ops.size) s with
      | some R => some ⟨(dd steq R.ok).map fun s' => (.normal, nameAll ops s'), R.bad⟩
      | none => none
    | .region _ ops true => bif panics ops then some ⟨[], [s.q]⟩ else bif P.follows .mixedOrders && Region.noSelect ops && tidy ops then match evalReg P call ops s with
        | some R => some ⟨(dd steq R.ok).map fun s' => (.normal, nameAll ops s'), R.bad⟩
        | none => none
      else none
    | _ => none
def Holds (T : Tab) (B : Bd) (E0 : Env) (h0 : H) (w0 : World) (L : List (X × St)) (e : Exit) (a : Act) (w : World) : Prop := ∃ p ∈ L, e = p.1.to ∧ Rel T B E0 h0 w0 p.2 a w
theorem holds_np {T : Tab} {B : Bd} {E0 : Env} {h0 : H} {w0 : World} {L : List (X × St)} {c : List PanicEntry} {a : Act} {w : World} : ¬ Holds T B E0 h0 w0 L (.panic c) a w := by
  rintro ⟨p, _, he, _⟩
  cases hp : p.1 <;> rw [hp] at he <;> cases he
theorem least {p : Nat → Prop} (h : ∃ n, p n) : ∃ n, p n ∧ ∀ m, p m → n ≤ m := by
  obtain ⟨n, hn⟩ := h
  induction n using Nat.strongRecOn with
  | ind n ih =>
    by_cases hx : ∃ m, m < n ∧ p m
    · obtain ⟨m, hm, hp⟩ := hx; exact ih m hm hp
    · exact ⟨n, hn, fun m hm => Nat.le_of_not_lt fun hl => hx ⟨m, hl, hm⟩⟩
theorem atHead_some {c : LCon} {s hd s' : St} {avs : List AV} {d : List DX} (h : atHead c s hd s' = some (avs, d)) :
    dxL avs = some d ∧ fitL (c.vars.map (·.kd)) avs = true ∧ mTs s.n avs s.h 0 hd.t s'.t = true ∧ mH s.n avs s.h s'.h hd.h = true ∧ mS s.n hd.h s'.h (c.vars.map (·.st)) avs = true ∧ s.n ≠ 0 ∧ (has s'.h 0 = true → has hd.h 0 = true) ∧ vals s'.t s'.h (c.vars.map (·.pos)) = some avs := by
  unfold atHead at h
  split at h
  · rename_i avs' hv
    split at h
    · rename_i d' hd'
      cases hc : ((has hd.h 0 || !(has s'.h 0)) && !(Nat.beq s.n 0) && fitL (c.vars.map (·.kd)) avs' && mTs s.n avs' s.h 0 hd.t s'.t && mH s.n avs' s.h s'.h hd.h && mS s.n hd.h s'.h (c.vars.map (·.st)) avs') with
      | false => rw [hc] at h; cases h
      | true =>
        rw [hc, cond_true, Option.some.injEq] at h
        obtain ⟨rfl, rfl⟩ := Prod.mk.inj h
        simp only [Bool.and_eq_true] at hc
        exact ⟨hd', hc.1.1.1.2, hc.1.1.2, hc.1.2, hc.2, (fun e => by have := hc.1.1.1.1.2; rw [e] at this; exact absurd this (by decide)), (fun h0 => by have := hc.1.1.1.1.1; rw [h0] at this; simpa using this), hv⟩
    · cases h
  · cases h
theorem evalLoop_wp {P : Program} {T : Tab} {B : Bd} {eb : St → Option Out} {c : LCon} {b : Code}
    (heb : ∀ s R, eb s = some R → ∀ (E0 : Env) (h0 : H) (w0 : World), NB T E0 h0 R.bad → ∀ a w, Rel T B E0 h0 w0 s a w → b.wp P (Holds T B E0 h0 w0 R.ok) a w)
    {s : St} {R : Out} (hR : evalLoop eb c b s = some R) {E0 : Env} {h0 : H} {w0 : World} (nb : NB T E0 h0 R.bad) {a : Act} {w : World} (k : Rel T B E0 h0 w0 s a w) : (Code.loop b).wp P (Holds T B E0 h0 w0 R.ok) a w := by
  unfold evalLoop at hR
  split at hR
  rotate_left
  · cases hR
  rename_i avs cx hav hcx
  split at hR
  rotate_left
  · cases hR
  rename_i d0 hd0
  simp only at hR
  generalize hins : cx ++ d0 = ins at hR
  generalize hhd : mkHead c ins avs b s = hd at hR
  cases hck : (!(has s.h s.n) && s.h.all (fun p => has hd.h p.1) && ins.all (DX.bd s.h)) with
  | false => rw [hck] at hR; cases hR
  | true =>
  rw [hck, cond_true] at hR
  simp only [Bool.and_eq_true, Bool.not_eq_true'] at hck
  obtain ⟨⟨hid, hsub0⟩, hib⟩ := hck
  split at hR
  rotate_left
  · cases hR
  rename_i z hz
  obtain ⟨avs0, d00⟩ := z
  split at hR
  rotate_left
  · cases hR
  rename_i R1 hR1
  split at hR
  rotate_left
  · cases hR
  rename_i R2 hR2
  obtain rfl := Option.some.inj hR
  obtain ⟨E, ko, st⟩ := k
  have hsub : Sub s.h hd.h := by
    intro n hn
    obtain ⟨x, hx⟩ := Option.isSome_iff_exists.1 hn
    exact List.all_eq_true.1 hsub0 _ (look_mem hx)
  have hlook : look hd.h s.n = some (.lst (c.vars.map (·.st))) := by rw [← hhd]; exact look_same _ _ _
  have hhi : has hd.h s.n = true := by simp [has, hlook]
  have hq : hd.q = .rel c.rel ins s.n (c.vars.map (·.kd)) :: s.q := by rw [← hhd]; rfl
  have nbE : NB T E s.h ((.nrel c.rel ins d0 :: s.q) :: (R1.bad ++ R2.bad)) := nb.sub st.ag st.sub fun _ h => h
  have hqb : bdQ hd.h hd.q = true := by
    rw [hq]
    simp only [bdQ, List.all_cons, Bool.and_eq_true, Fact.bd]
    exact ⟨⟨dxs_sub hsub hib, hhi⟩, bdQ_sub hsub ko.qb⟩
  -- what a state at the head becomes
  have again : ∀ {E' : Env} {s' : St} {avs' : List AV} {d' : List DX} {a' : Act} {w' : World}, atHead c s hd s' = some (avs', d') → Ok T E' s'.t s'.h s'.q B a' w' → Step E s.h B w E' s'.h w' → T.rel c.rel (ins.map (DX.den E')) (d'.map (DX.den E')) →
      ∃ E2, Ok T E2 hd.t hd.h hd.q B a' w' ∧ Step E s.h B w E2 hd.h w' ∧ dvs (E2.r s.n) (c.vars.map (·.kd)) 0 = d'.map (DX.den E') := by
    intro E' s' avs' d' a' w' hat k' st' hrel
    obtain ⟨h1, h2, h3, h4, h5, h6, h7, _⟩ := atHead_some hat
    have hdv : dvs (recOf E' avs' (fun j => ct E' (s'.t.getD j uv))) (c.vars.map (·.kd)) 0 = d'.map (DX.den E') := dxs_dvs avs' _ avs' d' 0 (fun j => by rw [Nat.zero_add]) h2 h1
    have ag2 : Ag s.h E (E'.setR s.n (recOf E' avs' (fun j => ct E' (s'.t.getD j uv)))) := st'.ag.trans (Sub.refl _) (ag_setR hid E' _)
    obtain ⟨k2, st2⟩ := rebind (o := fun j => ct E' (s'.t.getD j uv)) (qd := hd.q) hid h6 h7 hsub hlook k' st' (fun j y hy => by simp [List.getD_eq_getElem?_getD, hy]) h3 h4 h5 hqb (by
      rw [hq]
      refine ⟨?_, ko.qd.ag ag2 ko.qb⟩
      simp only [Fact.den, Env.setR_r]
      rw [hdv, ← dxs_ag ag2 hib, dxs_ag st'.ag hib]
      exact hrel)
    exact ⟨_, k2, st2, by rw [Env.setR_r]; exact hdv⟩
  have hav0 : avs0 = avs ∧ d00 = d0 := by
    obtain ⟨h1, _, _, _, _, _, _, h6⟩ := atHead_some hz
    rw [hav] at h6
    obtain rfl := Option.some.inj h6
    rw [hd0] at h1
    exact ⟨rfl, (Option.some.inj h1).symm⟩
  obtain ⟨rfl, rfl⟩ := hav0
  let I : Act → World → Prop := fun a' w' => ∃ m E2, Ok T E2 hd.t hd.h hd.q B a' w' ∧ Step E s.h B w E2 hd.h w' ∧ T.mu c.rel (ins.map (DX.den E)) (dvs (E2.r s.n) (c.vars.map (·.kd)) 0) = m
  classical
  let μ : Act → World → Nat := fun a' w' => if hx : I a' w' then Classical.choose (least hx) else 0
  have hI : I a w := by
    obtain ⟨E2, k2, st2, _⟩ := again hz ko (Step.refl ko.hr) (Classical.byContradiction fun hn => nbE.self (List.mem_cons_self) ⟨hn, ko.qd⟩)
    exact ⟨_, E2, k2, st2, rfl⟩
  refine wp_loop I μ hI ?_
  intro a1 w1 hx
  have hμ : μ a1 w1 = Classical.choose (least hx) := by simp only [μ]; rw [dif_pos hx]
  obtain ⟨E2, k2, st2, hm⟩ := (Classical.choose_spec (least hx)).1
  rw [← hμ] at hm
  refine wp_mono (heb hd R1 hR1 E2 hd.h w1 (nbE.sub st2.ag st2.sub fun y hy => List.mem_cons_of_mem _ (List.mem_append_left _ hy)) a1 w1 ⟨E2, k2, Step.refl k2.hr⟩) ?_
  rintro e a' w' ⟨p, hp, rfl, E', k', st'⟩
  obtain ⟨R3, h3, h4, h5⟩ := bindR_mem hR2 p hp
  have stE := st2.trans st'
  cases hn : p.1 with
  | normal =>
    rw [hn] at h3
    simp only [X.isN, cond_true] at h3
    split at h3
    · rename_i av' d' hat
      obtain rfl := Option.some.inj h3
      have nb' : ∀ q, q ∈ ([.nrel c.rel ins d' :: p.2.q, .ndec c.rel ins (oldDX s.n (c.vars.map (·.kd)) 0) d' :: p.2.q] : List (List Fact)) → ¬ PC T E' q := fun q hq =>
        nbE q (List.mem_cons_of_mem _ (List.mem_append_right _ (h5 q hq))) E' stE.ag
      have hrel : T.rel c.rel (ins.map (DX.den E')) (d'.map (DX.den E')) := Classical.byContradiction fun hn => nb' _ List.mem_cons_self ⟨hn, k'.qd⟩
      have hdec : T.mu c.rel (ins.map (DX.den E')) (d'.map (DX.den E')) < T.mu c.rel (ins.map (DX.den E')) ((oldDX s.n (c.vars.map (·.kd)) 0).map (DX.den E')) := Classical.byContradiction fun hn => nb' _ (List.mem_cons_of_mem _ List.mem_cons_self) ⟨hn, k'.qd⟩
      obtain ⟨E3, k3, st3, hdv⟩ := again hat k' stE hrel
      have hgood : I a' w' := ⟨_, E3, k3, st3, rfl⟩
      refine ⟨hgood, ?_⟩
      have hle : μ a' w' ≤ T.mu c.rel (ins.map (DX.den E)) (dvs (E3.r s.n) (c.vars.map (·.kd)) 0) := by
        have : μ a' w' = Classical.choose (least hgood) := by simp only [μ]; rw [dif_pos hgood]
        rw [this]
        exact (Classical.choose_spec (least hgood)).2 _ ⟨E3, k3, st3, rfl⟩
      rw [oldDX_eq, ← (st'.ag s.n hhi).2.2, ← dxs_ag stE.ag hib] at hdec
      rw [hdv, dxs_ag stE.ag hib] at hle
      rw [← dxs_ag stE.ag hib] at hle
      omega
    · cases h3
  | exit i =>
    rw [hn] at h3
    simp only [X.isN, cond_false, Option.some.injEq] at h3
    subst h3
    exact ⟨p, h4 p (by simp [Res.one]), by rw [hn], E', k', st.trans stE⟩
  | ret =>
    rw [hn] at h3
    simp only [X.isN, cond_false, Option.some.injEq] at h3
    subst h3
    exact ⟨p, h4 p (by simp [Res.one]), by rw [hn], E', k', st.trans stE⟩
theorem evalC_wp {P : Program} {T : Tab} {B : Bd} {call : CallF} (hcall : CallS P T B call) {lcs : List LCon} : ∀ (n : Nat) (c : Code) (s : St) (R : Out), evalC P call lcs n c s = some R → ∀ (E0 : Env) (h0 : H) (w0 : World), NB T E0 h0 R.bad → ∀ a w, Rel T B E0 h0 w0 s a w → c.wp P (Holds T B E0 h0 w0 R.ok) a w
  | 0, c, s, R, hR, E0, h0, w0, nb, a, w, k => by simp [evalC] at hR
  | n + 1, c, s, R, hR, E0, h0, w0, nb, a, w, k => by
    have thn : ∀ {x y : Code} {R1 : Out} {a w}, (∀ q ∈ R1.bad, q ∈ R.bad) → evalC P call lcs n x s = some R1 → Rel T B E0 h0 w0 s a w → (∀ p ∈ R1.ok, ∃ k, (bif p.1.isN then evalC P call lcs n y p.2 else some (.one p)) = some k ∧ (∀ z ∈ k.ok, z ∈ R.ok) ∧ ∀ z ∈ k.bad, z ∈ R.bad) → x.wp P (Exit.then (y.wp P (Holds T B E0 h0 w0 R.ok)) (Holds T B E0 h0 w0 R.ok)) a w := by
      intro x y R1 a w hb h1 k hx
      refine wp_mono (evalC_wp hcall n x s R1 h1 E0 h0 w0 (nb.sub (Ag.refl _ _) (Sub.refl _) hb) a w k) ?_
      rintro e a' w' ⟨p, hp, rfl, k'⟩
      obtain ⟨R2, h2, h3, h4⟩ := hx p hp
      cases hn : p.1 with
      | normal =>
        rw [hn] at h2
        refine wp_mono (evalC_wp hcall n y p.2 R2 h2 E0 h0 w0 (nb.sub (Ag.refl _ _) (Sub.refl _) h4) a' w' k') ?_
        rintro e a2 w2 ⟨q, hq, he, k2⟩
        exact ⟨q, h3 q hq, he, k2⟩
      | exit i =>
        rw [hn] at h2
        simp only [X.isN, cond_false, Option.some.injEq] at h2
        subst h2
        exact ⟨p, h3 p (by simp [Res.one]), by rw [hn], k'⟩
      | ret =>
        rw [hn] at h2
        simp only [X.isN, cond_false, Option.some.injEq] at h2
        subst h2
        exact ⟨p, h3 p (by simp [Res.one]), by rw [hn], k'⟩
    cases c with
    | skip =>
      simp only [evalC, Option.some.injEq] at hR
      subst hR
      exact wp_skip ⟨_, List.mem_singleton.2 rfl, rfl, k⟩
    | ret =>
      simp only [evalC, Option.some.injEq] at hR
      subst hR
      exact wp_ret ⟨_, List.mem_singleton.2 rfl, rfl, k⟩
    | exit id =>
      simp only [evalC, Option.some.injEq] at hR
      subst hR
      exact wp_exit ⟨_, List.mem_singleton.2 rfl, rfl, k⟩
    | seq x y =>
      simp only [evalC] at hR
      obtain ⟨R1, h1, h2, h3⟩ := thenR_some hR
      exact wp_seq (thn h2 h1 k h3)
    | cond c x y =>
      simp only [evalC] at hR
      obtain ⟨E, ko, st⟩ := k
      split at hR
      · rename_i hc
        exact wp_cond_true (ko.eval hc) (evalC_wp hcall n x s R hR E0 h0 w0 nb a w ⟨E, ko, st⟩)
      · rename_i hc
        exact wp_cond_false (ko.eval hc) (evalC_wp hcall n y s R hR E0 h0 w0 nb a w ⟨E, ko, st⟩)
      · rename_i b hc
        have hb : b.bd s.h = true := ko.bdo hc
        obtain ⟨q', h1, h2, h3⟩ := both_spec ko.qd ko.qb hb
        obtain ⟨R2, h4, h5, h6⟩ := bindR_mem hR _ h1
        have hev := ko.eval hc
        have fin : ∀ {z : Code}, evalC P call lcs n z ⟨s.t, s.h, q', s.n⟩ = some R2 → z.wp P (Holds T B E0 h0 w0 R.ok) a w := fun hz =>
          wp_mono (evalC_wp hcall n _ _ R2 hz E0 h0 w0 (nb.sub (Ag.refl _ _) (Sub.refl _) h6) a w ⟨E, ko.facts h3 h2, st⟩) (by
            rintro e a2 w2 ⟨q, hq, he, k2⟩
            exact ⟨q, h5 q hq, he, k2⟩)
        cases hd : b.den E with
        | true =>
          rw [hd] at h4
          exact wp_cond_true (by rw [hev]; simp only [ct, cp, cv, hd]) (fin h4)
        | false =>
          rw [hd] at h4
          exact wp_cond_false (by rw [hev]; simp only [ct, cp, cv, hd]) (fin h4)
      · cases hR
    | block id b =>
      simp only [evalC] at hR
      split at hR
      · rename_i R1 h1
        obtain rfl := Option.some.inj hR
        refine wp_block (wp_mono (evalC_wp hcall n b s R1 h1 E0 h0 w0 nb a w k) ?_)
        rintro e a' w' ⟨p, hp, rfl, k'⟩
        have hm : (bif p.1.isE id then (X.normal, p.2) else p) ∈ R1.ok.map fun p => bif p.1.isE id then (X.normal, p.2) else p := List.mem_map.2 ⟨p, hp, rfl⟩
        cases hn : p.1 with
        | normal =>
          rw [hn] at hm
          simp only [X.isE, cond_false] at hm
          exact ⟨p, hm, by rw [hn], k'⟩
        | ret =>
          rw [hn] at hm
          simp only [X.isE, cond_false] at hm
          exact ⟨p, hm, by rw [hn], k'⟩
        | exit i =>
          rw [hn] at hm
          simp only [X.isE] at hm
          simp only [X.to, Exit.inBlock]
          cases hi : Nat.beq i id with
          | true =>
            rw [hi, cond_true] at hm
            rw [if_pos (Nat.eq_of_beq_eq_true hi)]
            exact ⟨_, hm, rfl, k'⟩
          | false =>
            rw [hi, cond_false] at hm
            rw [if_neg (by rw [← Nat.beq_eq, hi]; simp)]
            exact ⟨p, hm, by rw [hn]; rfl, k'⟩
      · cases hR
    | loop b =>
      simp only [evalC] at hR
      split at hR
      · rename_i c hc
        exact evalLoop_wp (fun s R h E0 h0 w0 nb a w k => evalC_wp hcall n b s R h E0 h0 w0 nb a w k) hR nb k
      · -- all rounds that are still to come
        rename_i hc
        let Good : Nat → Act → World → Prop := fun m a w => ∃ s R', evalC P call lcs m (.loop b) s = some R' ∧ m ≤ n + 1 ∧ (∀ p ∈ R'.ok, p ∈ R.ok) ∧ (∀ p ∈ R'.bad, p ∈ R.bad) ∧ Rel T B E0 h0 w0 s a w
        have hg : Good (n + 1) a w := ⟨s, R, by simp only [evalC, hc]; exact hR, Nat.le_refl _, fun p hp => hp, fun p hp => hp, k⟩
        classical
        let μ : Act → World → Nat := fun a w => if hx : ∃ m, Good m a w then Classical.choose (least hx) else 0
        refine wp_loop (fun a w => ∃ m, Good m a w) μ ⟨n + 1, hg⟩ ?_
        intro a1 w1 hx
        have hμ : μ a1 w1 = Classical.choose (least hx) := by simp only [μ]; rw [dif_pos hx]
        obtain ⟨s1, R1, he, hle, hsub, hsubb, k1⟩ := (Classical.choose_spec (least hx)).1
        rw [← hμ] at he hle
        cases hm : μ a1 w1 with
        | zero => rw [hm] at he; simp [evalC] at he
        | succ m =>
          rw [hm] at he hle
          simp only [evalC, hc] at he
          obtain ⟨R2, h2, h2b, h2k⟩ := thenR_some he
          refine wp_mono (evalC_wp hcall m b s1 R2 h2 E0 h0 w0 (nb.sub (Ag.refl _ _) (Sub.refl _) fun q hq => hsubb q (h2b q hq)) a1 w1 k1) ?_
          rintro e a' w' ⟨p, hp, rfl, k'⟩
          obtain ⟨R3, h3, h4, h5⟩ := h2k p hp
          cases hn : p.1 with
          | normal =>
            rw [hn] at h3
            have hgood : Good m a' w' := ⟨p.2, R3, h3, by omega, fun q hq => hsub q (h4 q hq), fun q hq => hsubb q (h5 q hq), k'⟩
            refine ⟨⟨m, hgood⟩, ?_⟩
            have hle : μ a' w' ≤ m := by
              have hx' : ∃ m, Good m a' w' := ⟨m, hgood⟩
              have : μ a' w' = Classical.choose (least hx') := by simp only [μ]; rw [dif_pos hx']
              rw [this]; exact (Classical.choose_spec (least hx')).2 m hgood
            omega
          | exit i =>
            rw [hn] at h3
            simp only [X.isN, cond_false, Option.some.injEq] at h3
            subst h3
            exact ⟨p, hsub p (h4 p (by simp [Res.one])), by rw [hn], k'⟩
          | ret =>
            rw [hn] at h3
            simp only [X.isN, cond_false, Option.some.injEq] at h3
            subst h3
            exact ⟨p, hsub p (h4 p (by simp [Res.one])), by rw [hn], k'⟩
    | region id ops draw =>
      cases hpn : panics ops with
      | true =>
        exfalso
        obtain ⟨E, ko, st⟩ := k
        have hR : R = ⟨[], [s.q]⟩ := by
          cases draw <;> (simp only [evalC, hpn, cond_true, Option.some.injEq] at hR; exact hR.symm)
        subst hR
        exact nb s.q (by simp) E st.ag ko.qd
      | false =>
      cases draw with
      | false =>
        simp only [evalC, hpn, cond_false] at hR
        split at hR
        · rename_i R1 h1
          obtain rfl := Option.some.inj hR
          exact wp_region (evalOps_wp hcall _ s R1 h1 nb a w k fun s' hs a' w' k' => ⟨(.normal, nameAll ops s'), List.mem_map.2 ⟨s', mem_dd (fun _ _ => steq_eq) _ _ hs, rfl⟩, rfl, nameAll_rel ops k'⟩)
        · cases hR
      | true =>
        simp only [evalC, hpn, cond_false] at hR
        cases hf : (P.follows .mixedOrders && Region.noSelect ops && tidy ops) with
        | false => rw [hf] at hR; cases hR
        | true =>
          rw [hf, cond_true] at hR
          rw [Bool.and_eq_true, Bool.and_eq_true] at hf
          split at hR
          · rename_i R1 h1
            obtain rfl := Option.some.inj hR
            exact evalReg_wp hcall hf.2 hf.1.1 hf.1.2 (fun c a w => holds_np) h1 nb (fun s' hs a' w' k' => ⟨(.normal, nameAll ops s'), List.mem_map.2 ⟨s', mem_dd (fun _ _ => steq_eq) _ _ hs, rfl⟩, rfl, nameAll_rel ops k'⟩) k
          · cases hR
    | _ => simp [evalC] at hR
end Go.Proofs.Ytkepkjahbcddlaa.Sy
