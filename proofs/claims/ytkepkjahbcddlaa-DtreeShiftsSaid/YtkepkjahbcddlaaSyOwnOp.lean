/- Lists of the walk's own: the operations. -/
import Derived.Test.YtkepkjahbcddlaaSyOwn
namespace Go.Proofs.Ytkepkjahbcddlaa.Sy
open Go Go.RowKit
set_option linter.unusedVariables false
set_option linter.unusedSimpArgs false
set_option linter.unusedSectionVars false
variable [Kinds]
structure OO where
  v : TV
  h : H
  q : List Fact
  s : Option (Nat × Nat × Nat)
def lenX : DX → Ex
  | .lst b j => .len b j
  | .rows rs => .n rs.length
  | _ => .n 0
def appKs (h : H) (x y : AV) : Option (List CK) := match x with
  | .ls b j => ksOf (lk h b j)
  | _ => match y with
    | .ls c i => ksOf (lk h c i)
    | _ => none
/-- What is appended to: its rows, and which name is given up. -/
def appSrc (h : H) (ks : List CK) (e : Nat) : AV → Option (DX × Option (Nat × Nat))
  | .val (.slice none 0 0) => some (.rows [], none)
  | .sl b 0 0 (some 0) => some (.rows [], none)
  | .ls b j => match lk h b j with
    | .own ks' e' => bif leq ckeq ks ks' && Nat.beq e e' then some (.lst b j, some (b, j)) else none
    | _ => none
  | _ => none
/-- What is appended. -/
def appSec (h : H) (ks : List CK) : AV → Option DX
  | .val (.slice none 0 0) => some (.rows [])
  | .ls c i => match ksOf (lk h c i) with
    | some ks' => bif leq ckeq ks ks' then some (.lst c i) else none
    | none => none
  | .sl b o n _ => match hget h b with
    | some x => bif Nat.ble n 1000000 && Nat.ble (o + n * ks.length) x.cells.length then (rowsCells ks n (x.cells.drop o)).map .rows else none
    | none => none
  | _ => none
def giveUp (h : H) : Option (Nat × Nat) → H
  | some (b, j) => setLk h b j .gone
  | none => h
def eAppO (P : Program) (h : H) (q : List Fact) (id : Nat) (ty : TypeId) (x y : AV) : Option (Res OO) :=
  match P.underlying ty, appKs h x y with
  | some (.slice e), some (c :: ks) => match P.info? e, zeroOf P e, appSrc h (c :: ks) e x, appSec h (c :: ks) y with
    | some i, some z, some (dx, src), some dy =>
      bif Nat.beq z.cells.size i.size && Nat.beq i.size (ks.length + 1) && Nat.ble i.bytes 10000 && !(has h id) then
        some (need q (.le (lenX dx) (.n 1000000000)) true fun q => need q (.le (lenX dy) (.n 1000000000)) true fun q =>
          .one ⟨.p (.v (.ls id 0)), hput (giveUp h src) id (.lst [.own (c :: ks) e]), .lseq id (.app dx dy) :: q, none⟩)
      else none
    | _, _, _, _ => none
  | _, _ => none
def eMakeO (P : Program) (t : List TV) (h : H) (q : List Fact) (id : Nat) (ty : TypeId) (l c : Operand) : Option (Res OO) :=
  match P.underlying ty, opN t l, opN t c with
  | some (.slice e), some (_, x), some (_, y) => match P.info? e, zeroOf P e with
    | some i, some (.int k (.ofNat 0)) =>
      bif Nat.beq i.size 1 && Nat.ble i.bytes 10000 && Ex.eqb x y && !(has h id) then
        some (need q (.lt x (.n 0)) false fun q => need q (.le x (.n 1000000000)) true fun q =>
          .one ⟨.p (.v (.ls id 0)), hput h id (.lst [.own [.int k] e]), .lseq id (.rep x [0]) :: q, none⟩)
      else none
    | _, _ => none
  | _, _, _ => none
def optN (t : List TV) : Option Operand → Option (Option Ex)
  | none => some none
  | some o => (opN t o).map fun p => some p.2
def isZ : Option (Option Ex) → Bool
  | some (some (.n (.ofNat 0))) => true
  | _ => false
def oldLk : LK → Bool
  | .rd _ old => old
  | _ => false
def frzLk (h : H) (b j : Nat) : H := match lk h b j with
  | .own ks e => setLk h b j (.rd ks false)
  | _ => h
def sliceNeeds (b j : Nat) (q : List Fact) (lo hi : Option Ex) (k : List Fact → Res OO) : Res OO := match lo, hi with
  | none, none => k q
  | some l, none => need q (.lt l (.n 0)) false fun q => need q (.le l (.len b j)) true k
  | none, some u => need q (.lt u (.n 0)) false fun q => need q (.le u (.len b j)) true k
  | some l, some u => need q (.lt l (.n 0)) false fun q => need q (.le l u) true fun q => need q (.le u (.len b j)) true k
def eSliceO (P : Program) (t : List TV) (h : H) (q : List Fact) (id : Nat) (ty : TypeId) (x : Operand) (lo hi mx : Option Operand) : Option (Res OO) :=
  match opd t x, P.underlying ty with
  | some (.p (.v (.ls b j))), some (.slice e) => match P.info? e, ksOf (lk h b j), optN t lo, optN t hi with
    | some i, some (c :: ks), some l, some u => bif Nat.beq i.size (ks.length + 1) && !(has h id) then match mx with
        | some mo => match lo with
          | none => bif isZ (some u) && isZ (optN t (some mo)) then some (.one ⟨.p (.v (.ls id 0)), hput h id (.lst [.own (c :: ks) e]), .lseq id (.rep (.n 0) []) :: q, none⟩) else none
          | some _ => none
        | none => some (sliceNeeds b j q l u fun q => .one ⟨.p (.v (.ls id 0)), hput (frzLk h b j) id (.lst [.rd (c :: ks) (oldLk (lk h b j))]), .lseq id (.sub (.lst b j) (l.getD (.n 0)) (u.getD (.len b j))) :: q, none⟩)
      else none
    | _, _, _, _ => none
  | _, _ => none
def eStoreO (P : Program) (t : List TV) (h : H) (q : List Fact) (id : Nat) (ty : TypeId) (x y : Operand) : Option (Res OO) :=
  match opd t x, (opd t y).bind cellsT, P.info? ty with
  | some (.p (.v (.hp b j i z o))), some cs, some inf => match lk h b j with
    | .own ks e => match rowCells ((ks.drop o).take cs.length) cs with
      | some es => bif Nat.beq cs.length inf.size && Nat.ble (o + cs.length) ks.length && Nat.beq z ks.length && !(has h id) && cs.all one then
          some (need q (.lt i (.n 0)) false fun q => need q (.lt i (.len b j)) true fun q =>
            .one ⟨uv, hput (subH (b, j, id) (setLk h b j .gone)) id (.lst [.own ks e]), .lseq id (.set (.lst b j) i o es) :: q, some (b, j, id)⟩)
        else none
      | none => none
    | _ => none
  | _, _, _ => none
def eOwn0 (P : Program) (t : List TV) (h : H) (q : List Fact) (id : Nat) (o : Oper) : Option (Res OO) :=
  match o.op with
  | .call c => match c.callee with
    | .builtin .append => match c.args.toList, c.argTypes.toList with
      | [x, y], [ty, ty'] => if ty = ty' then match opd t x, opd t y with
          | some (.p (.v vs)), some (.p (.v vx)) => eAppO P h q id ty vs vx
          | _, _ => none
        else none
      | _, _ => none
    | _ => none
  | .makeSlice ty l c => eMakeO P t h q id ty l c
  | .slice ty x lo hi mx => eSliceO P t h q id ty x lo hi mx
  | .store ty x y => eStoreO P t h q id ty x y
  | _ => none
def eOwn (P : Program) (t : List TV) (h : H) (q : List Fact) (id : Nat) (o : Oper) : Option (Res OO) := bif noMp h then eOwn0 P t h q id o else none
/-! ### What they do -/
def OwnDoes (P : Program) (T : Tab) (o : Oper) (a : Act) (B : Bd) (E : Env) (h : H) (w : World) (R : Res OO) : Prop :=
  NB T E h R.bad → ∃ r ∈ R.ok, ∃ E' w' res, (execOp a.eval o).run P w = .ok res w' ∧ (res = .value (ct E' r.v) ∨ res = .skip ∧ r.v = uv) ∧ Step E h B w E' r.h w' ∧ bdT r.h r.v = true ∧ bdQ r.h r.q = true ∧ PC T E' r.q ∧ SubOk E' r.h r.s
def recL (L : List (List Int)) (a : Option Addr) (m : Nat) : Rec := ⟨fun _ => 0, fun _ => false, fun _ => L, fun _ => a, fun _ => m, fun _ => undef, fun _ => .leaf⟩
section
variable {P : Program} {T : Tab} {E : Env} {t : List TV} {h : H} {q : List Fact} {B : Bd} {a : Act} {w : World} {o : Oper} {R : Res OO}
theorem lenX_bd {d : DX} (hd : d.bd h = true) : (lenX d).bd h = true := by
  cases d <;> first | exact hd | rfl
theorem lenX_eq {d : DX} (hd : (∃ b j, d = .lst b j) ∨ ∃ rs, d = .rows rs) : (lenX d).den E = ((d.ls E).length : Int) := by
  rcases hd with ⟨b, j, rfl⟩ | ⟨rs, rfl⟩
  · rfl
  · simp [lenX, Ex.den, DX.ls, DX.den, DV.ls]
theorem appSrc_ok (r : HR E h B w) {ks : List CK} {e : Nat} {x : AV} {dx : DX} {src : Option (Nat × Nat)} (hs : appSrc h ks e x = some (dx, src)) (hb : bd h x = true) :
    dx.bd h = true ∧ ((∃ b j, dx = .lst b j) ∨ ∃ rs, dx = .rows rs) ∧ (∀ y ∈ dx.ls E, y.length = ks.length) ∧ ∃ a m, cv E x = .slice a (dx.ls E).length m ∧ OwnV w 0 e ks.length a (dx.ls E).length m (encL ks (dx.ls E)) ∧
      (∀ g, m ≠ 0 → a.map (·.block) = some g → ∃ b j, src = some (b, j) ∧ (lk h b j).occ (E.r b) j g ∧ ∃ ks e, lk h b j = .own ks e) := by
  unfold appSrc at hs
  split at hs
  · obtain ⟨rfl, rfl⟩ := Prod.mk.inj (Option.some.inj hs)
    exact ⟨rfl, .inr ⟨_, rfl⟩, by simp [DX.ls, DX.den, DV.ls], none, 0, rfl, .inl ⟨rfl, rfl, rfl⟩, fun g h0 => absurd rfl h0⟩
  · obtain ⟨rfl, rfl⟩ := Prod.mk.inj (Option.some.inj hs)
    exact ⟨rfl, .inr ⟨_, rfl⟩, by simp [DX.ls, DX.den, DV.ls], _, 0, rfl, .inl ⟨rfl, rfl, rfl⟩, fun g h0 => absurd rfl h0⟩
  · rename_i b j
    split at hs
    · rename_i ks' e' hl
      cases hk : (leq ckeq ks ks' && Nat.beq e e') with
      | false => rw [hk] at hs; cases hs
      | true =>
        rw [hk, cond_true] at hs
        simp only [Bool.and_eq_true, Nat.beq_eq] at hk
        obtain rfl := leq_eq ckeq_eq _ _ hk.1
        obtain rfl := hk.2
        obtain ⟨rfl, rfl⟩ := Prod.mk.inj (Option.some.inj hs)
        have ok := r.lst.ok b j
        rw [hl] at ok
        refine ⟨hb, .inl ⟨_, _, rfl⟩, ok.wf, (E.r b).a j, (E.r b).m j, rfl, ?_, fun g hm hg => ⟨b, j, rfl, by rw [hl]; exact ⟨hm, hg⟩, _, _, hl⟩⟩
        rcases ok.own with ⟨h1, h2⟩ | h1
        · exact .inl ⟨by simp [DX.ls, DX.den, DV.ls, h1], h2, by simp [DX.ls, DX.den, DV.ls, h1, encL]⟩
        · exact .inr h1
    · cases hs
  · cases hs
theorem rowsCells_one {ks : List CK} {n : Nat} {cs : List AV} {l : List (List Ex)} (hl : rowsCells ks n cs = some l) (hn : n * ks.length ≤ cs.length) : ∀ u ∈ (cs.take (n * ks.length)).map (cv E), u.oneCell' = true := by
  rw [← rowsCells_eq hl hn]
  exact encL_one _ _
theorem appSec_ok (r : HR E h B w) {ks : List CK} {x : AV} {dx : DX} (hs : appSec h ks x = some dx) (hb : bd h x = true) :
    dx.bd h = true ∧ ((∃ b j, dx = .lst b j) ∨ ∃ rs, dx = .rows rs) ∧ (∀ y ∈ dx.ls E, y.length = ks.length) ∧ ∃ a m, cv E x = .slice a (dx.ls E).length m ∧
      ∀ j u, (encL ks (dx.ls E))[j]? = some u → ∃ A, a = some A ∧ w.cell? (A.add j) = some u := by
  unfold appSec at hs
  split at hs
  · obtain rfl := Option.some.inj hs
    exact ⟨rfl, .inr ⟨_, rfl⟩, by simp [DX.ls, DX.den, DV.ls], none, 0, rfl, fun j u hu => by simp [DX.ls, DX.den, DV.ls, encL] at hu⟩
  · rename_i c i
    split at hs
    · rename_i ks' hl
      cases hk : leq ckeq ks ks' with
      | false => rw [hk] at hs; cases hs
      | true =>
        rw [hk, cond_true, Option.some.injEq] at hs
        subst hs
        obtain rfl := leq_eq ckeq_eq _ _ hk
        have ok := LK.rok hl (r.lst.ok c i)
        exact ⟨hb, .inl ⟨_, _, rfl⟩, ok.wf, (E.r c).a i, (E.r c).m i, rfl, fun j u hu => ok.read j u hu⟩
    · cases hs
  · rename_i b k n c
    split at hs
    · rename_i y hy
      cases hk : (Nat.ble n 1000000 && Nat.ble (k + n * ks.length) y.cells.length) with
      | false => rw [hk] at hs; cases hs
      | true =>
        rw [hk, cond_true] at hs
        simp only [Bool.and_eq_true, Nat.ble_eq] at hk
        obtain ⟨l, hl, rfl⟩ := Option.map_eq_some_iff.1 hs
        obtain ⟨l1, l2⟩ := rowsCells_len hl
        have hn : (DX.ls E (.rows l)).length = n := by simp [DX.ls, DX.den, DV.ls, l1]
        refine ⟨?_, .inr ⟨_, rfl⟩, fun z hz => ?_, some ⟨E.s b, k, none⟩, c.getD (E.k b), by rw [hn]; rfl, fun j u hu => ⟨_, rfl, ?_⟩⟩
        · simp only [DX.bd, List.all_eq_true]
          exact fun r' hr => rowsCells_bd hl (fun z hz => r.bnd b y hy z (List.mem_of_mem_drop hz)) r' hr
        · simp only [DX.ls, DX.den, DV.ls, List.mem_map] at hz
          obtain ⟨q, hq, rfl⟩ := hz
          rw [List.length_map]; exact l2 q hq
        · have he : encL ks (DX.ls E (.rows l)) = ((y.cells.drop k).take (n * ks.length)).map (cv E) := rowsCells_eq hl (by rw [List.length_drop]; omega)
          rw [he] at hu
          exact r.cellsAt hy (o := k) (n := n * ks.length) hk.2 j u hu
    · cases hs
  · cases hs
theorem giveUp_has (h : H) (s : Option (Nat × Nat)) (c : Nat) : has (giveUp h s) c = has h c := by
  unfold giveUp
  split
  · exact setLk_has _ _ _ _ _
  · rfl
theorem giveUp_get (h : H) (s : Option (Nat × Nat)) (c : Nat) : hget (giveUp h s) c = hget h c := by
  unfold giveUp
  split
  · exact setLk_get _ _ _ _ _
  · rfl
theorem giveUp_lk (h : H) (s : Option (Nat × Nat)) (b j : Nat) : lk (giveUp h s) b j = lk h b j ∨ lk (giveUp h s) b j = .gone := by
  unfold giveUp
  split
  · rename_i c i
    by_cases e : b = c ∧ j = i
    · obtain ⟨rfl, rfl⟩ := e
      by_cases hg : lk h b j = .gone
      · left
        unfold setLk
        split
        · rename_i l hl
          rw [lk_lst, hg]
          simp only [lk, hl] at hg
          by_cases hj : j < l.length
          · simp [List.getD_eq_getElem?_getD, hj]
          · simp [List.getD_eq_getElem?_getD, List.getElem?_eq_none (Nat.le_of_not_lt hj), hj]
        · rfl
      · right; exact setLk_same hg
    · left; exact setLk_ne e
  · exact .inl rfl
theorem giveUp_gone {h : H} {b j : Nat} : lk (giveUp h (some (b, j))) b j = .gone := by
  rcases giveUp_lk h (some (b, j)) b j with h1 | h1
  · by_cases hg : lk h b j = .gone
    · rw [h1, hg]
    · exact setLk_same hg
  · exact h1
theorem giveUp_mget (h : H) (s : Option (Nat × Nat)) (c : Nat) : mget (giveUp h s) c = mget h c := by
  unfold giveUp
  split
  · exact setLk_mget _ _ _ _ _
  · rfl
theorem own_step (hnm : noMp h = true) (r : HR E h B w) {id : Nat} (hid : has h id = false) {src : Option (Nat × Nat)} {ks : List CK} {e : Nat} {L : List (List Int)} {a' : Option Addr} {m' : Nat} {w' : World} {row : Option Nat}
    (hwf : ∀ x ∈ L, x.length = ks.length) (O : OwnV w' 0 e ks.length a' L.length m' (encL ks L)) (g : w.grownBy w' row)
    (hrow : ∀ k, row = some k → ∃ b j, src = some (b, j) ∧ (lk h b j).occ (E.r b) j k ∧ ∃ ks e, lk h b j = .own ks e) (hocc : ∀ k, m' ≠ 0 → a'.map (·.block) = some k → k < w'.heap.size ∧ (w.heap.size ≤ k ∨ row = some k)) :
    Step E h B w (E.setR id (recL L a' m')) (hput (giveUp h src) id (.lst [.own ks e])) w' := by
  have hid1 : has (giveUp h src) id = false := by rw [giveUp_has]; exact hid
  have sub : Sub h (hput (giveUp h src) id (.lst [.own ks e])) := fun c hc => by rw [has_put, giveUp_has, hc, Bool.or_true]
  have ag := ag_setR hid E (recL L a' m')
  have hB : ∀ k, row = some k → B.free k := by
    intro k hk
    obtain ⟨b, j, _, ho, ks', e', hl⟩ := hrow k hk
    exact r.lst.fre b j (by rw [hl]; trivial) k ho
  refine ⟨ag, sub, ?_, below_grown g r.low hB⟩
  refine r.own (fun c => by rw [giveUp_mget]; exact noMp_get hnm c) hid hid1 (row := row) (fun c x hx => ?_) (giveUp_lk h src) (fun c h0 => by rw [giveUp_has]; exact h0) (fun k hk => ?_) g ⟨hwf, ?_⟩ (fun k hk => hocc k hk.1 hk.2)
  · rw [giveUp_get] at hx
    exact ⟨x, hx, rfl, rfl, (cvs_ag ag (r.bnd c x hx)).symm, fun v hv => bd_sub sub (r.bnd c x hx v hv)⟩
  · obtain ⟨b, j, rfl, ho, ks', e', hl⟩ := hrow k hk
    refine ⟨hB k hk, (r.lst.lt b j k ho).2, fun b' j' ho' => ?_⟩
    obtain ⟨rfl, rfl⟩ := r.lst.sep b j ks' e' hl b' j' k ho ho'
    exact giveUp_gone
  · rcases O with ⟨h1, h2, _⟩ | h1
    · exact .inl ⟨List.eq_nil_of_length_eq_zero h1, h2⟩
    · exact .inr h1
/-- What is told of a list that is new. -/
theorem lseq_facts (hqb : bdQ h q = true) (hqd : PC T E q) {id : Nat} (hid : has h id = false) {h2 : H} (sub : Sub h h2) (hi : has h2 id = true) {x : LX} (hx : x.bd h = true) {L : List (List Int)} (hL : L = x.den E) (a' : Option Addr) (m' : Nat) :
    bdQ h2 (.lseq id x :: q) = true ∧ PC T (E.setR id (recL L a' m')) (.lseq id x :: q) := by
  have ag := ag_setR hid E (recL L a' m')
  refine ⟨?_, ?_, hqd.ag ag hqb⟩
  · simp only [bdQ, List.all_cons, Bool.and_eq_true, Fact.bd]
    exact ⟨⟨hi, LX.bd_sub sub hx⟩, bdQ_sub sub hqb⟩
  · simp only [Fact.den, Env.setR_r]
    rw [← LX.den_ag ag hx]
    exact hL
theorem eAppO_ok (hnm : noMp h = true) (k : Ok T E t h q B a w) {id : Nat} {ty : TypeId} {x y : AV} (bx : bd h x = true) (by_ : bd h y = true) (hR : eAppO P h q id ty x y = some R) (tt : TypeId) :
    NB T E h R.bad → ∃ r ∈ R.ok, ∃ E' w', (Builtin.append_ #[ty, ty] tt #[cv E x, cv E y]).run P w = .ok (ct E' r.v) w' ∧ Step E h B w E' r.h w' ∧ bdT r.h r.v = true ∧ bdQ r.h r.q = true ∧ PC T E' r.q ∧ SubOk E' r.h r.s := by
  unfold eAppO at hR
  split at hR
  rotate_left
  · cases hR
  rename_i e c ks hu hks
  split at hR
  rotate_left
  · cases hR
  rename_i i z dx src dy hi hz hsrc hsec
  cases hc : (Nat.beq z.cells.size i.size && Nat.beq i.size (ks.length + 1) && Nat.ble i.bytes 10000 && !(has h id)) with
  | false => rw [hc] at hR; cases hR
  | true =>
  rw [hc, cond_true] at hR
  obtain rfl := Option.some.inj hR
  simp only [Bool.and_eq_true, Nat.beq_eq, Nat.ble_eq, Bool.not_eq_true'] at hc
  obtain ⟨⟨⟨c1, c2⟩, c3⟩, hid⟩ := hc
  intro nb
  have hzi : i.zero = some z := by
    unfold zeroOf at hz
    rw [hi] at hz
    exact hz
  obtain ⟨d1, d2, d3, a0, m0, d4, d5, d6⟩ := appSrc_ok k.hr hsrc bx
  obtain ⟨s1, s2, s3, a1, m1, s4, s5⟩ := appSec_ok k.hr hsec by_
  obtain ⟨n1, q1, n2, n3, n4, n5⟩ := need_spec k.qd k.qb (by simpa [Bx.bd, Ex.bd] using lenX_bd d1) nb
  obtain ⟨n6, q2, n7, n8, n9, n10⟩ := need_spec n2 n3 (by simpa [Bx.bd, Ex.bd] using lenX_bd s1) n5
  have l1 : (dx.ls E).length ≤ 1000000000 := by
    have := of_decide_eq_true n1
    rw [lenX_eq d2] at this
    simp only [Ex.den] at this
    omega
  have l2 : (dy.ls E).length ≤ 1000000000 := by
    have := of_decide_eq_true n6
    rw [lenX_eq s2] at this
    simp only [Ex.den] at this
    omega
  have hel := encL_length (c :: ks) (dy.ls E) s3
  have c2' : i.size = (c :: ks).length := c2
  obtain ⟨a', m', w', row, h1, h2, h3, h4, h5⟩ := app_run (P := P) hu hi hzi c1 (by rw [c2]; omega) c3 (Nat.zero_le _) tt (O := by rw [c2']; exact d5) (news := encL (c :: ks) (dy.ls E)) (b := a1) (k := (dy.ls E).length) (c := m1) (by rw [hel, c2']) s5 (encL_one _ _) l1 l2
  have hlen : (dx.ls E ++ dy.ls E).length = (dx.ls E).length + (dy.ls E).length := List.length_append
  have henc : encL (c :: ks) (dx.ls E ++ dy.ls E) = encL (c :: ks) (dx.ls E) ++ encL (c :: ks) (dy.ls E) := by simp [encL]
  have st := own_step hnm k.hr hid (src := src) (ks := c :: ks) (e := e) (L := dx.ls E ++ dy.ls E) (a' := a') (m' := m') (w' := w') (row := row) (fun y hy => by
      rcases List.mem_append.1 hy with hy | hy
      · exact d3 y hy
      · exact s3 y hy) (by rw [hlen, henc, ← c2']; exact h2) h3 (fun g hg => d6 g (h4 g hg).1 (h4 g hg).2) (fun g hg hg2 => h5 g hg hg2)
  have hh : has (hput (giveUp h src) id (.lst [.own (c :: ks) e])) id = true := by simp [has_put]
  obtain ⟨f1, f2⟩ := lseq_facts (L := dx.ls E ++ dy.ls E) n8 n7 hid st.sub hh (x := .app dx dy) (by simp [LX.bd, d1, s1]) rfl a' m'
  refine ⟨_, n4 _ (n9 _ (List.mem_singleton.2 rfl)), _, w', ?_, st, hh, f1, f2, trivial⟩
  rw [d4, s4, h1]
  simp only [ct, cp, cv, Rec.lv, Env.setR_r, recL, hlen]
theorem madeCells_zero (k : IntKind) (n : Nat) : (madeCells (Value.int k 0).cells (n * 1)).toList = encL [.int k] (List.replicate n [0]) := by
  have : (Value.int k 0).cells = #[.int k 0] := rfl
  rw [this, toList_madeCells_one, Nat.mul_one]
  induction n with
  | zero => rfl
  | succ n ih => rw [List.replicate_succ, List.replicate_succ, ih]; rfl
theorem eMakeO_ok (hnm : noMp h = true) (k : Ok T E t h q B a w) {id : Nat} {ty : TypeId} {l c : Operand} (hR : eMakeO P t h q id ty l c = some R) :
    NB T E h R.bad → ∃ r ∈ R.ok, ∃ E' w', (Instr.makeSlice ty (a.eval l) (a.eval c)).run P w = .ok (ct E' r.v) w' ∧ Step E h B w E' r.h w' ∧ bdT r.h r.v = true ∧ bdQ r.h r.q = true ∧ PC T E' r.q ∧ SubOk E' r.h r.s := by
  unfold eMakeO at hR
  split at hR
  rotate_left
  · cases hR
  rename_i e kl x kc y hu hl hc
  split at hR
  rotate_left
  · cases hR
  rename_i i kd hi hz
  cases hck : (Nat.beq i.size 1 && Nat.ble i.bytes 10000 && Ex.eqb x y && !(has h id)) with
  | false => rw [hck] at hR; cases hR
  | true =>
  rw [hck, cond_true] at hR
  obtain rfl := Option.some.inj hR
  simp only [Bool.and_eq_true, Nat.beq_eq, Nat.ble_eq, Bool.not_eq_true'] at hck
  obtain ⟨⟨⟨c1, c2⟩, c3⟩, hid⟩ := hck
  obtain rfl := Ex.eqb_eq c3
  intro nb
  obtain ⟨el, bl⟩ := opN_eq k hl
  obtain ⟨ec, _⟩ := opN_eq k hc
  have hzi : i.zero = some (.int kd 0) := by
    unfold zeroOf at hz
    rw [hi] at hz
    exact hz
  obtain ⟨n1, q1, n2, n3, n4, n5⟩ := need_spec k.qd k.qb (by simpa [Bx.bd, Ex.bd] using bl) nb
  obtain ⟨n6, q2, n7, n8, n9, n10⟩ := need_spec n2 n3 (by simpa [Bx.bd, Ex.bd] using bl) n5
  have h0 : 0 ≤ x.den E := Int.not_lt.1 (of_decide_eq_false n1)
  have h1 : x.den E ≤ 1000000000 := of_decide_eq_true n6
  obtain ⟨n, hn⟩ := Int.eq_ofNat_of_zero_le h0
  rw [hn] at h1
  have hb : i.bytes * n ≤ 281474976710656 := by
    have : i.bytes * n ≤ 10000 * 1000000000 := Nat.mul_le_mul c2 (by omega)
    omega
  obtain ⟨w', r1, r2, r3⟩ := run_make_full (P := P) w 0 ty e i (.int kd 0) 1 hu hi hzi c1 kl kc n hb (by simp only [maxLen]; omega) (Nat.zero_le _)
  rw [madeCells_zero] at r2
  have hL : (List.replicate n [(0 : Int)]).length = n := by simp
  have st := own_step hnm k.hr hid (src := none) (ks := [.int kd]) (e := e) (L := List.replicate n [0]) (a' := some ⟨w.heap.size, 0, none⟩) (m' := n) (w' := w') (row := none) (fun y hy => by rw [(List.mem_replicate.1 hy).2]; rfl) (by rw [hL]; exact .inr r2) r3 (fun g hg => by cases hg) (fun g hg hg2 => by
      have : w.heap.size = g := by simpa using hg2
      subst this
      rcases r2.2 with ⟨hv, _⟩ | ⟨g', cap, cur, hv, _, hh, _⟩
      · simp at hv
      · simp only [Value.slice.injEq, Option.some.injEq, Addr.mk.injEq, and_true, true_and] at hv
        rw [← hv.1] at hh
        exact ⟨(Array.getElem?_eq_some_iff.1 hh).1, .inl (Nat.le_refl _)⟩)
  have hh : has (hput (giveUp h none) id (.lst [.own [.int kd] e])) id = true := by simp [has_put]
  obtain ⟨f1, f2⟩ := lseq_facts (L := List.replicate n [0]) n8 n7 hid st.sub hh (x := .rep x [0]) (by simpa [LX.bd] using bl) (by simp [LX.den, hn]) (some ⟨w.heap.size, 0, none⟩) n
  refine ⟨_, n4 _ (n9 _ (List.mem_singleton.2 rfl)), _, w', ?_, st, hh, f1, f2, trivial⟩
  rw [el, ec, hn]
  refine r1.trans ?_
  simp only [ct, cp, cv, Rec.lv, Env.setR_r, recL, hL]
theorem storeAt_hp {P : Program} {ty : TypeId} {inf : TypeInfo} (hi : P.info? ty = some inf) {v : Value} {news : List Value} (hv : v.cells = news.toArray) (hs : news.length = inf.size) {w : World} {g p e : Nat} {cur : Array Value} (hg : w.heap[g]? = some (.cells cur e (0, 0))) (hle : p + news.length ≤ cur.size) (h1 : ∀ u ∈ news, u.oneCell' = true) :
    (Instr.storeAt ty (.pointer (some ⟨g, p, none⟩)) v).run P w = .ok () (w.setRow g (cur.toList.take p ++ news ++ cur.toList.drop (p + news.length)).toArray) := by
  have hst := run_storeCells_at P g p e news 0 cur w hg (by simpa using hle) h1
  simp only [Instr.storeAt, Instr.sureAddr, Sem.run_bind, Sem.run_pure, Result.andThen_ok, storeVar, sizeOf, typeInfo, run_program, hi, hv]
  rw [Sem.run_ite, if_neg (by simp [hs])]
  simpa using hst
theorem eStoreO_ok (hnm : noMp h = true) (k : Ok T E t h q B a w) {id : Nat} {ty : TypeId} {x y : Operand} (hR : eStoreO P t h q id ty x y = some R) :
    NB T E h R.bad → ∃ r ∈ R.ok, ∃ E' w', (Instr.storeAt ty (a.eval x) (a.eval y)).run P w = .ok () w' ∧ r.v = uv ∧ Step E h B w E' r.h w' ∧ bdQ r.h r.q = true ∧ PC T E' r.q ∧ SubOk E' r.h r.s := by
  unfold eStoreO at hR
  split at hR
  rotate_left
  · cases hR
  rename_i b j i z o cs inf hx hy hinf
  split at hR
  rotate_left
  · cases hR
  rename_i ks e hl
  split at hR
  rotate_left
  · cases hR
  rename_i es hes
  cases hck : (Nat.beq cs.length inf.size && Nat.ble (o + cs.length) ks.length && Nat.beq z ks.length && !(has h id) && cs.all one) with
  | false => rw [hck] at hR; cases hR
  | true =>
  rw [hck, cond_true] at hR
  obtain rfl := Option.some.inj hR
  simp only [Bool.and_eq_true, Nat.beq_eq, Nat.ble_eq, Bool.not_eq_true'] at hck
  obtain ⟨⟨⟨⟨c1, c2⟩, rfl⟩, hid⟩, c4⟩ := hck
  intro nb
  have hbx := k.bdo hx
  simp only [bdT, bdP, bd, Bool.and_eq_true] at hbx
  obtain ⟨hb, bi⟩ := hbx
  obtain ⟨yv, hyv, hyc⟩ := Option.bind_eq_some_iff.1 hy
  obtain ⟨n1, q1, n2, n3, n4, n5⟩ := need_spec k.qd k.qb (by simpa [Bx.bd, Ex.bd] using bi) nb
  obtain ⟨n6, q2, n7, n8, n9, n10⟩ := need_spec n2 n3 (by simp [Bx.bd, Ex.bd, bi, hb]) n5
  have h0 : 0 ≤ i.den E := Int.not_lt.1 (of_decide_eq_false n1)
  have h1 : i.den E < ((E.r b).l j).length := of_decide_eq_true n6
  have ook := k.hr.lst.ok b j
  rw [hl] at ook
  have hlen := rowCells_len hes
  have hkl : ((ks.drop o).take cs.length).length = cs.length := by simp; omega
  have hesl : es.length = cs.length := by rw [hlen, hkl]
  have henc := rowCells_eq (E := E) hes
  rw [hkl, List.take_length] at henc
  have hnl : (cs.map (cv E)).length = cs.length := by simp
  have hone : ∀ u ∈ cs.map (cv E), u.oneCell' = true := by
    intro u hu
    obtain ⟨y, hy, rfl⟩ := List.mem_map.1 hu
    exact one_eq (List.all_eq_true.1 c4 y hy) E
  -- the row
  rcases ook.own with ⟨hnil, _⟩ | ho
  · rw [hnil] at h1; simp at h1; omega
  rcases ho.2 with ⟨_, hn⟩ | ⟨g, cap, cur, hv, hBg, hg, hnc, hcm, hcs, htake⟩
  · rw [hn] at h1; simp at h1; omega
  simp only [Rec.lv, Value.slice.injEq, true_and] at hv
  obtain ⟨ha, hm⟩ := hv
  have hm0 : (E.r b).m j ≠ 0 := by rw [hm]; omega
  have hBf : B.free g := k.hr.lst.fre b j (by rw [hl]; trivial) g (by rw [hl]; exact ⟨hm0, by rw [ha]; rfl⟩)
  have hsz : (i.den E).toNat * ks.length + ks.length ≤ ((E.r b).l j).length * ks.length := by
    have := Nat.mul_le_mul_right ks.length (show (i.den E).toNat + 1 ≤ ((E.r b).l j).length by omega)
    rwa [Nat.add_mul, Nat.one_mul] at this
  have hcap : ((E.r b).l j).length * ks.length ≤ cap * ks.length := Nat.mul_le_mul_right _ hnc
  have hset := encL_rowSet (ks := ks) (L := (E.r b).l j) (i := i.den E) (o := o) (xs := es.map (Ex.den E)) h0 h1 ook.wf (by rw [List.length_map, hesl]; omega)
  rw [List.length_map, hesl, henc] at hset
  have hst := storeAt_hp (P := P) (w := w) hinf (cellsT_eq hyc E) (by rw [hnl, c1]) hg (p := (i.den E).toNat * ks.length + o) (by rw [hnl, hcs]; omega) hone
  let L' := rowSet ((E.r b).l j) (i.den E) o (es.map (Ex.den E))
  have hL' : L'.length = ((E.r b).l j).length := rowSet_length _ _ _ _
  have hwf' : ∀ x ∈ L', x.length = ks.length := rowSet_wf ook.wf (by rw [List.length_map, hesl]; omega)
  have hne : lk h b j ≠ .gone := by rw [hl]; simp
  let rc := recL L' ((E.r b).a j) ((E.r b).m j)
  have hr : rc = recL L' ((E.r b).a j) ((E.r b).m j) := rfl
  let h1' := subH (b, j, id) (setLk h b j .gone)
  have hh1 : ∀ c, has h1' c = has h c := fun c => by rw [show h1' = subH (b, j, id) (setLk h b j .gone) from rfl, subH_has, setLk_has]
  have ag := ag_setR hid E rc
  have sub : Sub h (hput h1' id (.lst [.own ks e])) := fun c hc => by rw [has_put, hh1, hc, Bool.or_true]
  have hbid : b ≠ id := by rintro rfl; rw [hb] at hid; cases hid
  have hh : has (hput h1' id (.lst [.own ks e])) id = true := by simp [has_put]
  have so : SubOk (E.setR id rc) (hput h1' id (.lst [.own ks e])) (some (b, j, id)) := by
    refine ⟨?_, ?_, hh⟩
    · simp only [Env.setR_r, Env.setR_ne _ _ hbid, Rec.lv, hr, recL, hL']
    · simp only [Env.setR_r, Env.setR_ne _ _ hbid, hr, recL]
  have grow : w.grownBy (w.setRow g (cur.toList.take ((i.den E).toNat * ks.length + o) ++ cs.map (cv E) ++ cur.toList.drop ((i.den E).toNat * ks.length + o + (cs.map (cv E)).length)).toArray) (some g) :=
    ⟨rfl, rfl, rfl, by simp, fun k _ hk => setRow_other w g k _ (fun e => hk (by simp [e]))⟩
  have hHR : HR (E.setR id rc) (hput h1' id (.lst [.own ks e])) B (w.setRow g (cur.toList.take ((i.den E).toNat * ks.length + o) ++ cs.map (cv E) ++ cur.toList.drop ((i.den E).toNat * ks.length + o + (cs.map (cv E)).length)).toArray) := by
    refine k.hr.own (fun c => by rw [show h1' = subH (b, j, id) (setLk h b j .gone) from rfl, subH_mget, setLk_mget]; exact noMp_get hnm c) hid (by rw [hh1]; exact hid) (row := some g) (fun c x hx => ?_) (fun c i' => ?_) (fun c h0 => by rw [hh1]; exact h0) (fun k' hk' => ?_) grow ⟨hwf', .inr ⟨?_, .inr ⟨g, cap, _, ?_, hBg, setRow_heap w g cur _ e _ hg, ?_, hcm, ?_, ?_⟩⟩⟩ (fun k' hk' => ?_)
    · rw [show h1' = subH (b, j, id) (setLk h b j .gone) from rfl, subH_get, setLk_get] at hx
      obtain ⟨y, hy, rfl⟩ := Option.map_eq_some_iff.1 hx
      refine ⟨y, hy, rfl, rfl, ?_, fun v hv => ?_⟩
      · simp only [List.map_map]
        rw [cvs_ag ag (k.hr.bnd c y hy)]
        exact List.map_congr_left fun v _ => subA_eq so.1 so.2.1 v
      · obtain ⟨v', hv', rfl⟩ := List.mem_map.1 hv
        exact subA_bd hh (bd_sub sub (k.hr.bnd c y hy v' hv'))
    · rw [show h1' = subH (b, j, id) (setLk h b j .gone) from rfl, subH_lk]
      exact giveUp_lk h (some (b, j)) c i'
    · obtain rfl := Option.some.inj hk'
      have hocc : (lk h b j).occ (E.r b) j g := by rw [hl]; exact ⟨hm0, by rw [ha]; rfl⟩
      refine ⟨hBf, (k.hr.lst.lt b j g hocc).2, fun c i' ho' => ?_⟩
      obtain ⟨rfl, rfl⟩ := k.hr.lst.sep b j ks e hl c i' g hocc ho'
      rw [show h1' = subH (b, j, id) (setLk h b j .gone) from rfl, subH_lk]
      exact giveUp_gone
    · exact encL_length ks L' hwf'
    · show Value.slice ((E.r b).a j) L'.length ((E.r b).m j) = _
      rw [ha, hm]; rfl
    · rw [show rc.l 0 = L' from rfl, hL']; exact hnc
    · simp only [List.size_toArray, List.length_append, List.length_take, List.length_drop, Array.length_toList, hnl]
      omega
    · rw [show rc.l 0 = L' from rfl, show encL ks L' = encL ks (rowSet ((E.r b).l j) (i.den E) o (es.map (Ex.den E))) from rfl, hset, hL', hnl]
      have e1 : cur.toList.take ((i.den E).toNat * ks.length + o) = (encL ks ((E.r b).l j)).take ((i.den E).toNat * ks.length + o) := by
        rw [← htake, List.take_take, Nat.min_eq_left (by omega)]
      have e2 : (encL ks ((E.r b).l j)).drop ((i.den E).toNat * ks.length + o + cs.length) = (cur.toList.drop ((i.den E).toNat * ks.length + o + cs.length)).take (((E.r b).l j).length * ks.length - ((i.den E).toNat * ks.length + o + cs.length)) := by
        rw [← htake, List.drop_take]
      simp only [e1, e2]
      have e3 : ((encL ks ((E.r b).l j)).take ((i.den E).toNat * ks.length + o) ++ cs.map (cv E)).length = (i.den E).toNat * ks.length + o + cs.length := by
        rw [List.length_append, List.length_take, encL_length ks _ ook.wf, hnl]
        omega
      rw [List.take_append, e3, List.take_of_length_le (by rw [e3]; omega)]
    · have : g = k' := by
        have := hk'.2
        rw [show rc.a 0 = (E.r b).a j from rfl, ha] at this
        simpa using this
      subst this
      exact ⟨by rw [setRow_size]; exact (Array.getElem?_eq_some_iff.1 hg).1, .inr rfl⟩
  obtain ⟨f1, f2⟩ := lseq_facts (L := L') n8 n7 hid sub hh (x := .set (.lst b j) i o es) (by
    simp only [LX.bd, DX.bd, hb, bi, Bool.true_and, List.all_eq_true]
    have hcb := cellsT_bd hyc (k.bdo hyv)
    exact rowCells_bd hes hcb) rfl ((E.r b).a j) ((E.r b).m j)
  refine ⟨_, n4 _ (n9 _ (List.mem_singleton.2 rfl)), _, _, ?_, rfl, ⟨ag, sub, hHR, below_grown grow k.hr.low (fun k' hk' => by obtain rfl := Option.some.inj hk'; exact hBf)⟩, f1, f2, so⟩
  have ex := k.eval hx
  simp only [ct, cp, cv, ha, Option.getD_some, Addr.add_lit, Nat.zero_add] at ex
  rw [ex, k.eval hyv]
  exact hst
theorem optN_some (k : Ok T E t h q B a w) {lo : Option Operand} {l : Option Ex} (hl : optN t lo = some l) : (lo = none ∧ l = none) ∨ ∃ m kd e, lo = some m ∧ l = some e ∧ a.eval m = .int kd (e.den E) ∧ e.bd h = true := by
  unfold optN at hl
  split at hl
  · obtain rfl := Option.some.inj hl
    exact .inl ⟨rfl, rfl⟩
  · rename_i m
    obtain ⟨⟨kd, e⟩, h1, rfl⟩ := Option.map_eq_some_iff.1 hl
    obtain ⟨h2, h3⟩ := opN_eq k h1
    exact .inr ⟨m, kd, e, rfl, rfl, h2, h3⟩
theorem sliceNeeds_spec (hp : PC T E q) (hb : bdQ h q = true) {b j : Nat} (hbj : has h b = true) {lo hi : Option Ex} (hl : ∀ e, lo = some e → e.bd h = true) (hu : ∀ e, hi = some e → e.bd h = true) {kk : List Fact → Res OO} (nb : NB T E h (sliceNeeds b j q lo hi kk).bad) :
    ∃ q', PC T E q' ∧ bdQ h q' = true ∧ (∀ r ∈ (kk q').ok, r ∈ (sliceNeeds b j q lo hi kk).ok) ∧ NB T E h (kk q').bad ∧
      0 ≤ (lo.getD (.n 0)).den E ∧ (lo.getD (.n 0)).den E ≤ (hi.getD (.len b j)).den E ∧ (hi.getD (.len b j)).den E ≤ ((E.r b).l j).length := by
  unfold sliceNeeds at *
  split at nb
  · exact ⟨q, hp, hb, fun r hr => hr, nb, by simp [Ex.den], by simp [Ex.den], by simp [Ex.den]⟩
  · rename_i l
    have bl := hl l rfl
    obtain ⟨n1, q1, n2, n3, n4, n5⟩ := need_spec hp hb (by simpa [Bx.bd, Ex.bd] using bl) nb
    obtain ⟨n6, q2, n7, n8, n9, n10⟩ := need_spec n2 n3 (by simp [Bx.bd, Ex.bd, bl, hbj]) n5
    have h0 : 0 ≤ l.den E := Int.not_lt.1 (of_decide_eq_false n1)
    have h1 : l.den E ≤ ((E.r b).l j).length := of_decide_eq_true n6
    exact ⟨q2, n7, n8, fun r hr => n4 r (n9 r hr), n10, h0, by simpa [Ex.den] using h1, by simp [Ex.den]⟩
  · rename_i u
    have bl := hu u rfl
    obtain ⟨n1, q1, n2, n3, n4, n5⟩ := need_spec hp hb (by simpa [Bx.bd, Ex.bd] using bl) nb
    obtain ⟨n6, q2, n7, n8, n9, n10⟩ := need_spec n2 n3 (by simp [Bx.bd, Ex.bd, bl, hbj]) n5
    have h0 : 0 ≤ u.den E := Int.not_lt.1 (of_decide_eq_false n1)
    have h1 : u.den E ≤ ((E.r b).l j).length := of_decide_eq_true n6
    exact ⟨q2, n7, n8, fun r hr => n4 r (n9 r hr), n10, by simp [Ex.den], by simpa [Ex.den] using h0, by simpa using h1⟩
  · rename_i l u
    have bl := hl l rfl
    have bu := hu u rfl
    obtain ⟨n1, q1, n2, n3, n4, n5⟩ := need_spec hp hb (by simpa [Bx.bd, Ex.bd] using bl) nb
    obtain ⟨n6, q2, n7, n8, n9, n10⟩ := need_spec n2 n3 (by simp [Bx.bd, Ex.bd, bl, bu]) n5
    obtain ⟨m6, q3, m7, m8, m9, m10⟩ := need_spec n7 n8 (by simp [Bx.bd, Ex.bd, bu, hbj]) n10
    have h0 : 0 ≤ l.den E := Int.not_lt.1 (of_decide_eq_false n1)
    have h1 : l.den E ≤ u.den E := of_decide_eq_true n6
    have h2 : u.den E ≤ ((E.r b).l j).length := of_decide_eq_true m6
    exact ⟨q3, m7, m8, fun r hr => n4 r (n9 r (m9 r hr)), m10, h0, h1, h2⟩
theorem frzLk_has (h : H) (b j c : Nat) : has (frzLk h b j) c = has h c := by
  unfold frzLk
  split
  · exact setLk_has _ _ _ _ _
  · rfl
theorem frz_ok (r : HR E h B w) {b j : Nat} {ks : List CK} (hk : ksOf (lk h b j) = some ks) : HR E (frzLk h b j) B w ∧ lk (frzLk h b j) b j = .rd ks (oldLk (lk h b j)) := by
  unfold frzLk
  cases hl : lk h b j with
  | gone => rw [hl] at hk; cases hk
  | rd ks' old =>
    rw [hl] at hk
    obtain rfl := Option.some.inj hk
    exact ⟨r, hl⟩
  | own ks' e =>
    rw [hl] at hk
    obtain rfl := Option.some.inj hk
    exact ⟨r.frz hl, setLk_same (by rw [hl]; simp)⟩
  | obj k' ps os => rw [hl] at hk; cases hk
  | vw k' => rw [hl] at hk; cases hk
  | fb fs => rw [hl] at hk; cases hk
  | al x y => rw [hl] at hk; cases hk
  | ov k' => rw [hl] at hk; cases hk
theorem encL_sub {ks : List CK} {L : List (List Int)} (hw : ∀ x ∈ L, x.length = ks.length) (l u : Nat) : encL ks ((L.take u).drop l) = ((encL ks L).take (u * ks.length)).drop (l * ks.length) := by
  have tk : ∀ (L : List (List Int)) (u : Nat), (∀ x ∈ L, x.length = ks.length) → encL ks (L.take u) = (encL ks L).take (u * ks.length) := by
    intro L
    induction L with
    | nil => intro u _; simp [encL]
    | cons x L ih =>
      intro u hw
      cases u with
      | zero => simp [encL]
      | succ u =>
        have hx := encR_length ks x (hw x (by simp))
        have := ih u (fun y hy => hw y (by simp [hy]))
        simp only [encL, List.take_succ_cons, List.flatMap_cons] at this ⊢
        rw [this, Nat.add_mul, Nat.one_mul]
        have e := List.take_length_add_append (l₁ := encR ks x) (l₂ := List.flatMap (encR ks) L) (u * ks.length)
        rw [hx, Nat.add_comm] at e
        exact e.symm
  have dr : ∀ (L : List (List Int)) (u : Nat), (∀ x ∈ L, x.length = ks.length) → encL ks (L.drop u) = (encL ks L).drop (u * ks.length) := by
    intro L
    induction L with
    | nil => intro u _; simp [encL]
    | cons x L ih =>
      intro u hw
      cases u with
      | zero => simp [encL]
      | succ u =>
        have hx := encR_length ks x (hw x (by simp))
        have := ih u (fun y hy => hw y (by simp [hy]))
        simp only [encL, List.drop_succ_cons, List.flatMap_cons] at this ⊢
        rw [this, Nat.add_mul, Nat.one_mul]
        have e := List.drop_length_add_append (l₁ := encR ks x) (l₂ := List.flatMap (encR ks) L) (u * ks.length)
        rw [hx, Nat.add_comm] at e
        exact e.symm
  rw [dr _ _ (fun x hx => hw x (List.mem_of_mem_take hx)), tk _ _ hw]
theorem run_slice_opt {P : Program} {ty e : TypeId} {i : TypeInfo} (hu : P.underlying ty = some (.slice e)) (hi : P.info? e = some i) (w : World) (A : Option Addr) (len cap : Nat) (hlc : len ≤ cap) {lo hi' : Option Value} {l u : Int}
    (hl : (lo = none ∧ l = 0) ∨ ∃ k, lo = some (.int k l)) (hh : (hi' = none ∧ u = len) ∨ ∃ k, hi' = some (.int k u)) (h0 : 0 ≤ l) (h1 : l ≤ u) (h2 : u ≤ len) :
    (Instr.sliceAt ty (.slice A len cap) lo hi' none).run P w = .ok (.slice (if cap = l.toNat then A else A.map (·.add (l.toNat * i.size))) (u.toNat - l.toNat) (cap - l.toNat)) w := by
  have hel : P.elem ty = e := by simp [Program.elem, hu]
  have hu' : P.underlying ty = some (.slice (P.elem ty)) := by rw [hel]; exact hu
  rw [run_sliceAt_slice (h := hu')]
  rcases hl with ⟨rfl, rfl⟩ | ⟨kl, rfl⟩ <;> rcases hh with ⟨rfl, rfl⟩ | ⟨kh, rfl⟩
  · rw [run_slice_all (ht := hu')]
    simp [sizeOf, typeInfo, hel, hi, sliced]
  · rw [run_slice_h (ht := hu') (h0 := by omega) (h2 := by omega)]
    simp [sizeOf, typeInfo, hel, hi, sliced]
  · rw [run_slice_l (ht := hu') (h0 := h0) (h1 := by omega)]
    simp [sizeOf, typeInfo, hel, hi, sliced]
  · rw [run_slice_lh (ht := hu') (h0 := h0) (h1 := h1) (h2 := by omega)]
    simp [sizeOf, typeInfo, hel, hi, sliced]
theorem eSliceO_ok (hnm : noMp h = true) (k : Ok T E t h q B a w) {id : Nat} {ty : TypeId} {x : Operand} {lo hi mx : Option Operand} (hR : eSliceO P t h q id ty x lo hi mx = some R) :
    NB T E h R.bad → ∃ r ∈ R.ok, ∃ E' w', (Instr.sliceAt ty (a.eval x) (lo.map a.eval) (hi.map a.eval) (mx.map a.eval)).run P w = .ok (ct E' r.v) w' ∧ Step E h B w E' r.h w' ∧ bdT r.h r.v = true ∧ bdQ r.h r.q = true ∧ PC T E' r.q ∧ SubOk E' r.h r.s := by
  unfold eSliceO at hR
  split at hR
  rotate_left
  · cases hR
  rename_i b j e hx hu
  split at hR
  rotate_left
  · cases hR
  rename_i i c ks l u hi' hks hl hhi
  cases hck : (Nat.beq i.size (ks.length + 1) && !(has h id)) with
  | false => rw [hck] at hR; cases hR
  | true =>
  rw [hck, cond_true] at hR
  simp only [Bool.and_eq_true, Nat.beq_eq, Bool.not_eq_true'] at hck
  obtain ⟨hsz, hid⟩ := hck
  have hbx : has h b = true := k.bdo hx
  have ex := k.eval hx
  simp only [ct, cp, cv, Rec.lv] at ex
  have hel : P.elem ty = e := by simp [Program.elem, hu]
  have hu' : P.underlying ty = some (.slice (P.elem ty)) := by rw [hel]; exact hu
  split at hR
  · -- nothing of it
    rename_i mo
    split at hR
    rotate_left
    · cases hR
    cases hz : (isZ (some u) && isZ (optN t (some mo))) with
    | false => rw [hz] at hR; cases hR
    | true =>
      rw [hz, cond_true] at hR
      obtain rfl := Option.some.inj hR
      rw [Bool.and_eq_true] at hz
      intro nb
      have zz : ∀ {o : Option (Option Ex)}, isZ o = true → o = some (some (.n 0)) := by
        intro o ho
        unfold isZ at ho
        split at ho
        · rfl
        · cases ho
      have hu0 := Option.some.inj (zz hz.1)
      subst hu0
      rcases optN_some k hhi with ⟨_, h2⟩ | ⟨mh, kh, eh, rfl, h2, h3, _⟩
      · cases h2
      rcases optN_some k (zz hz.2) with ⟨h4, _⟩ | ⟨mm, km, em, h4, h5, h6, _⟩
      · cases h4
      obtain rfl := Option.some.inj h4
      obtain rfl := Option.some.inj h2
      obtain rfl := Option.some.inj h5
      have st := own_step hnm k.hr hid (src := none) (ks := c :: ks) (e := e) (L := []) (a' := (E.r b).a j) (m' := 0) (w' := w) (row := none) (by simp) (.inl ⟨rfl, rfl, rfl⟩) ⟨rfl, rfl, rfl, Nat.le_refl _, fun _ _ _ => rfl⟩ (fun g hg => by cases hg) (fun g hg => absurd rfl hg)
      have hh : has (hput (giveUp h none) id (.lst [.own (c :: ks) e])) id = true := by simp [has_put]
      obtain ⟨f1, f2⟩ := lseq_facts (L := []) k.qb k.qd hid st.sub hh (x := .rep (.n 0) []) rfl rfl ((E.r b).a j) 0
      refine ⟨_, List.mem_singleton.2 rfl, _, w, ?_, st, hh, f1, f2, trivial⟩
      simp only [Option.map_some, Option.map_none, ex, h3, h6, Ex.den]
      rw [run_sliceAt_slice (h := hu'), run_slice_hm (ht := hu') (h0 := Int.le_refl _) (h2 := Int.le_refl _) (h3 := by simp)]
      simp [sizeOf, typeInfo, hel, hi', sliced, ct, cp, cv, Rec.lv, Env.setR_r, recL]
  · obtain rfl := Option.some.inj hR
    intro nb
    have hlo := optN_some k hl
    have hhi2 := optN_some k hhi
    obtain ⟨q', p1, p2, p3, p4, p5, p6, p7⟩ := sliceNeeds_spec k.qd k.qb hbx (fun e he => by
      rcases hlo with ⟨_, h2⟩ | ⟨_, _, _, _, h2, _, h3⟩
      · rw [h2] at he; cases he
      · rw [h2] at he; obtain rfl := Option.some.inj he; exact h3) (fun e he => by
      rcases hhi2 with ⟨_, h2⟩ | ⟨_, _, _, _, h2, _, h3⟩
      · rw [h2] at he; cases he
      · rw [h2] at he; obtain rfl := Option.some.inj he; exact h3) nb
    obtain ⟨hf, hlf⟩ := frz_ok k.hr hks
    have rok : ROk w (E.r b) j (c :: ks) := LK.rok hks (k.hr.lst.ok b j)
    let l' : Ex := l.getD (.n 0)
    let u' : Ex := u.getD (.len b j)
    have hrun := run_slice_opt (P := P) hu hi' w ((E.r b).a j) ((E.r b).l j).length ((E.r b).m j) rok.cap (lo := lo.map a.eval) (hi' := hi.map a.eval) (l := l'.den E) (u := u'.den E) (by
      rcases hlo with ⟨h1, h2⟩ | ⟨m, kd, e', h1, h2, h3, _⟩
      · left; subst h1; subst h2; exact ⟨rfl, rfl⟩
      · right; subst h1; subst h2; exact ⟨kd, by rw [Option.map_some, h3]; rfl⟩) (by
      rcases hhi2 with ⟨h1, h2⟩ | ⟨m, kd, e', h1, h2, h3, _⟩
      · left; subst h1; subst h2; exact ⟨rfl, rfl⟩
      · right; subst h1; subst h2; exact ⟨kd, by rw [Option.map_some, h3]; rfl⟩) p5 p6 p7
    obtain ⟨ln, hln⟩ := Int.eq_ofNat_of_zero_le (show 0 ≤ l'.den E from p5)
    obtain ⟨un, hun⟩ := Int.eq_ofNat_of_zero_le (show 0 ≤ u'.den E from Int.le_trans p5 p6)
    have q6 : ln ≤ un := by have : l'.den E ≤ u'.den E := p6; omega
    have q7 : un ≤ ((E.r b).l j).length := by have : u'.den E ≤ _ := p7; omega
    rw [hln, hun, Int.toNat_natCast, Int.toNat_natCast] at hrun
    let L' := (((E.r b).l j).take un).drop ln
    have hL' : L'.length = un - ln := by simp only [L', List.length_drop, List.length_take]; omega
    let A' := if (E.r b).m j = ln then (E.r b).a j else ((E.r b).a j).map (·.add (ln * i.size))
    let rc := recL L' A' ((E.r b).m j - ln)
    have hid1 : has (frzLk h b j) id = false := by rw [frzLk_has]; exact hid
    have hm : ln ≤ (E.r b).m j := by have := rok.cap; omega
    have hwf : ∀ x ∈ L', x.length = (c :: ks).length := fun x hx => rok.wf x (List.mem_of_mem_take (List.mem_of_mem_drop hx))
    have hblk : ∀ n, (LK.rd (c :: ks) (oldLk (lk h b j))).occ rc 0 n → (LK.rd (c :: ks) (oldLk (lk h b j))).occ (E.r b) j n := by
      rintro n ⟨h1, h2⟩
      have hne : L' ≠ [] := h1
      have hpos : 0 < L'.length := List.length_pos_iff.2 hne
      refine ⟨fun hz => hne ?_, ?_⟩
      · simp only [L', hz]; simp
      · have hnm : (E.r b).m j ≠ ln := by have := rok.cap; omega
        have h2 : A'.map (·.block) = some n := h2
        simp only [A', if_neg hnm, Option.map_map] at h2
        rw [← h2]
        congr 1
        funext A
        exact (addr_add_block A _).symm
    have hrok : ROk w rc 0 (c :: ks) := by
      refine ⟨hwf, ?_, ?_, fun p v hv => ?_⟩
      · show L'.length ≤ (E.r b).m j - ln
        have := rok.cap
        omega
      · show (E.r b).m j - ln ≤ maxLen
        have := rok.max
        omega
      · have hv : (encL (c :: ks) L')[p]? = some v := hv
        rw [show L' = (((E.r b).l j).take un).drop ln from rfl, encL_sub rok.wf, List.getElem?_drop, List.getElem?_take] at hv
        split at hv
        · rename_i hlt
          obtain ⟨A, hA, hc⟩ := rok.read _ _ hv
          have hnm : (E.r b).m j ≠ ln := by
            intro e
            have hsz2 : (encL (c :: ks) ((E.r b).l j)).length = ((E.r b).l j).length * (c :: ks).length := encL_length _ _ rok.wf
            have h3 := (List.getElem?_eq_some_iff.1 hv).1
            rw [hsz2] at h3
            have h4 : ((E.r b).l j).length * (c :: ks).length ≤ ln * (c :: ks).length := Nat.mul_le_mul_right _ (by have := rok.cap; omega)
            omega
          refine ⟨A.add (ln * i.size), ?_, ?_⟩
          · show A' = _
            simp only [A', if_neg hnm, hA, Option.map_some]
          · rw [addr_add_add, hsz]
            exact hc
        · cases hv
    have hHR : HR (E.setR id rc) (hput (frzLk h b j) id (.lst [.rd (c :: ks) (oldLk (lk h b j))])) B w := by
      refine hf.lists hid1 rc _ (fun j' => ?_) (fun j' k' hk' => by
        cases j' with
        | zero => cases hk'
        | succ j' => cases hk') (fun j' k' hk' => by
        cases j' with
        | zero => cases hk'
        | succ j' => cases hk') (fun j' fs hk' => by
        cases j' with
        | zero => cases hk'
        | succ j' => cases hk') (fun j' ks' e' hk' => by
        cases j' with
        | zero => cases hk'
        | succ j' => cases hk') (fun j' k' hk' => by
        cases j' with
        | zero => cases hk'
        | succ j' => cases hk') (fun j' x' y' hk' => by
        cases j' with
        | zero => cases hk'
        | succ j' => cases hk')
      cases j' with
      | succ j' => exact .inl rfl
      | zero =>
        refine .inr (.inr (.inr (.inr (.inr (.inr ⟨c :: ks, oldLk (lk h b j), rfl, hrok, fun n hn => ?_⟩)))))
        have ho : (lk (frzLk h b j) b j).occ (E.r b) j n := by rw [hlf]; exact hblk n hn
        refine ⟨(hf.lst.lt b j n ho).1, (hf.lst.lt b j n ho).2, fun b' i' ks'' e' hl' ho' => ?_, ?_, fun b' i' k' ps' os' hl' ho' => ?_⟩
        · obtain ⟨rfl, rfl⟩ := hf.lst.sep b' i' ks'' e' hl' b j n (by rw [hl']; exact ho') ho
          rw [hlf] at hl'; cases hl'
        · rcases hf.lst.inn b j (c :: ks) _ hlf n ho with g7 | ⟨g7, g8, g9⟩
          · exact .inl g7
          · refine .inr ⟨g7, sub_put _ _ _ 0 g8, ?_⟩
            rw [Env.setR_ne _ _ (by rintro rfl; rw [hid1] at g8; cases g8)]
            exact g9
        · rcases hf.lst.alo b' i' k' ps' os' hl' b j n ho' ho with ⟨rfl, rfl⟩ | hv
          · rw [hlf] at hl'; cases hl'
          · rw [hlf] at hv; exact hv
    have sub : Sub h (hput (frzLk h b j) id (.lst [.rd (c :: ks) (oldLk (lk h b j))])) := fun c hc => by rw [has_put, frzLk_has, hc, Bool.or_true]
    have hh : has (hput (frzLk h b j) id (.lst [.rd (c :: ks) (oldLk (lk h b j))])) id = true := by simp [has_put]
    obtain ⟨f1, f2⟩ := lseq_facts (L := L') p2 p1 hid sub hh (x := .sub (.lst b j) l' u') (by
      have bl : l'.bd h = true := by
        rcases hlo with ⟨_, h2⟩ | ⟨_, _, _, _, h2, _, h3⟩
        · simp only [l', h2]; rfl
        · simp only [l', h2]; exact h3
      have bu : u'.bd h = true := by
        rcases hhi2 with ⟨_, h2⟩ | ⟨_, _, _, _, h2, _, h3⟩
        · simp only [u', h2]; exact hbx
        · simp only [u', h2]; exact h3
      simp only [LX.bd, DX.bd, hbx, bl, bu, Bool.and_self]) (by simp only [LX.den, DX.ls, DX.den, DV.ls, hln, hun, Int.toNat_natCast]; rfl) A' ((E.r b).m j - ln)
    refine ⟨_, p3 _ (List.mem_singleton.2 rfl), _, w, ?_, ⟨ag_setR hid E rc, sub, hHR, Bel.refl _ _⟩, hh, f1, f2, trivial⟩
    rw [ex, Option.map_none]
    refine hrun.trans ?_
    simp only [ct, cp, cv, Rec.lv, Env.setR_r, rc, recL, hL', A']
theorem eOwn_does (k : Ok T E t h q B a w) {id : Nat} (hR : eOwn P t h q id o = some R) : OwnDoes P T o a B E h w R := by
  obtain ⟨dst, op, ty0, pos, after, guard⟩ := o
  unfold eOwn at hR
  cases hnm : noMp h with
  | false => rw [hnm] at hR; cases hR
  | true =>
  rw [hnm, cond_true] at hR
  unfold eOwn0 at hR
  simp only at hR
  intro nb
  split at hR
  · rename_i c
    split at hR
    · rename_i hc
      split at hR
      · rename_i x y ty ty' hargs hats
        split at hR
        · rename_i hty
          subst hty
          split at hR
          · rename_i vs vx hx hy
            obtain ⟨r, hr, E', w', h1, h2, h3, h4, h5, h6⟩ := eAppO_ok hnm k (k.bdo hx) (k.bdo hy) hR ty0 nb
            refine ⟨r, hr, E', w', .value (ct E' r.v), ?_, .inl rfl, h2, h3, h4, h5, h6⟩
            have e1 : c.args = #[x, y] := by rw [← Array.toArray_toList (xs := c.args), hargs]
            have e2 : c.argTypes = #[ty, ty] := by rw [← Array.toArray_toList (xs := c.argTypes), hats]
            have ex := k.eval hx
            have ey := k.eval hy
            simp only [ct, cp] at ex ey
            unfold execOp
            simp only [resolve, hc, e1, e2, invoke, builtin, Sem.run_bind, Sem.run_pure, Result.andThen_ok, List.map_toArray, List.map_cons, List.map_nil, ex, ey, h1]
          · cases hR
        · cases hR
      · cases hR
    · cases hR
  · rename_i ty l c
    obtain ⟨r, hr, E', w', h1, h2, h3, h4, h5, h6⟩ := eMakeO_ok hnm k hR nb
    exact ⟨r, hr, E', w', .value (ct E' r.v), by simp only [execOp, Sem.run_bind, h1, Result.andThen_ok, Sem.run_pure], .inl rfl, h2, h3, h4, h5, h6⟩
  · rename_i ty x lo hi mx
    obtain ⟨r, hr, E', w', h1, h2, h3, h4, h5, h6⟩ := eSliceO_ok hnm k hR nb
    exact ⟨r, hr, E', w', .value (ct E' r.v), by simp only [execOp, Sem.run_bind, h1, Result.andThen_ok, Sem.run_pure], .inl rfl, h2, h3, h4, h5, h6⟩
  · rename_i ty x y
    obtain ⟨r, hr, E', w', h1, h2, h3, h4, h5, h6⟩ := eStoreO_ok hnm k hR nb
    exact ⟨r, hr, E', w', .skip, by simp only [execOp, Sem.run_bind, h1, Result.andThen_ok, Sem.run_pure], .inr ⟨rfl, h2⟩, h3, by rw [h2]; rfl, h4, h5, h6⟩
  · cases hR
end
end Go.Proofs.Ytkepkjahbcddlaa.Sy
