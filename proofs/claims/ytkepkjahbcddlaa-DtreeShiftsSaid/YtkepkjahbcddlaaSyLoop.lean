/- eighth part: what stands at a loop's head. -/
import Derived.Test.YtkepkjahbcddlaaSyReg
namespace Go.Proofs.Ytkepkjahbcddlaa.Sy
open Go Go.RowKit
set_option linter.unusedVariables false
set_option linter.unusedSimpArgs false
set_option linter.unusedSectionVars false
variable [Kinds]
/-- What is handed to a name: numbers, truths, lists. -/
def recOf (E : Env) (avs : List AV) (o : Nat → Value) : Rec where
  i j := match (avs[j]?).bind numA with | some (_, e) => e.den E | none => 0
  c j := match (avs[j]?).bind truA with | some b => b.den E | none => false
  l j := match avs[j]? with | some (.ls b i) => (E.r b).l i | _ => []
  a j := match avs[j]? with | some (.ls b i) => (E.r b).a i | _ => none
  m j := match avs[j]? with | some (.ls b i) => (E.r b).m i | _ => 0
  o := o
  t j := match avs[j]? with | some (.ob b i p) => ((E.r b).t i).sub p | _ => .leaf
def dxAV : AV → Option DX
  | .val (.int k n) => some (.num (.n n))
  | .ix _ e => some (.num e)
  | .val (.bool b) => some (.tru (litB b))
  | .bx x => some (.tru x)
  | .ls b j => some (.lst b j)
  | .val (.slice none 0 0) => some (.rows [])
  | .ob b j p => some (.obj (.at b j p))
  | .val (.pointer none) => some (.obj .nil)
  | _ => none
def dxL : List AV → Option (List DX)
  | [] => some []
  | x :: r => match dxAV x, dxL r with
    | some d, some l => some (d :: l)
    | _, _ => none
/-- Of which kind a value is. -/
def fitK : FK → AV → Bool
  | .int k, x => match numA x with | some (k', _) => keq k k' | none => false
  | .bool, x => (truA x).isSome
  | .list _, .ls _ _ => true
  | .list _, .val (.slice none 0 0) => true
  | .obj _, .ob _ _ _ => true
  | .obj _, .val (.pointer none) => true
  | .vw _, .ob _ _ _ => true
  | .vw _, .val (.pointer none) => true
  | _, _ => false
def fitL : List FK → List AV → Bool
  | [], [] => true
  | k :: ks, x :: xs => fitK k x && fitL ks xs
  | _, _ => false
theorem dxs_dvs {E : Env} {o : Nat → Value} (all : List AV) : ∀ (ks : List FK) (avs : List AV) (dxs : List DX) (s : Nat), (∀ j, all[s + j]? = avs[j]?) → fitL ks avs = true → dxL avs = some dxs → dvs (recOf E all o) ks s = dxs.map (DX.den E)
  | [], [], dxs, s, _, _, hd => by simp only [dxL, Option.some.injEq] at hd; subst hd; rfl
  | k :: ks, x :: xs, dxs, s, hs, hf, hd => by
    simp only [fitL, Bool.and_eq_true] at hf
    simp only [dxL] at hd
    split at hd
    · rename_i d l h1 h2
      obtain rfl := Option.some.inj hd
      have ih := dxs_dvs (E := E) (o := o) all ks xs l (s + 1) (fun j => by have := hs (j + 1); simpa [Nat.add_assoc, Nat.add_comm 1 j] using this) hf.2 h2
      have h0 : all[s]? = some x := by simpa using hs 0
      have hfk := hf.1
      cases k with
      | int k =>
        simp only [fitK] at hfk
        split at hfk
        · rename_i k' e hn
          simp only [dvs, ih, List.map_cons, List.cons.injEq, and_true]
          have : d = .num e := by
            cases x <;> simp only [numA] at hn <;> try (cases hn; done)
            · rename_i v; cases v <;> simp only [numA] at hn <;> try (cases hn; done)
              obtain ⟨rfl, rfl⟩ := Prod.mk.inj (Option.some.inj hn)
              exact (Option.some.inj h1).symm
            · obtain ⟨rfl, rfl⟩ := Prod.mk.inj (Option.some.inj hn)
              exact (Option.some.inj h1).symm
          subst this
          simp [recOf, h0, hn, DX.den]
        · cases hfk
      | bool =>
        simp only [fitK] at hfk
        obtain ⟨b, hb⟩ := Option.isSome_iff_exists.1 hfk
        simp only [dvs, ih, List.map_cons, List.cons.injEq, and_true]
        have : d = .tru b := by
          cases x <;> simp only [truA] at hb <;> try (cases hb; done)
          · rename_i v; cases v <;> simp only [truA] at hb <;> try (cases hb; done)
            obtain rfl := Option.some.inj hb
            exact (Option.some.inj h1).symm
          · obtain rfl := Option.some.inj hb
            exact (Option.some.inj h1).symm
        subst this
        simp [recOf, h0, hb, DX.den]
      | list ks' =>
        simp only [dvs, ih, List.map_cons, List.cons.injEq, and_true]
        unfold fitK at hfk
        split at hfk <;> first | (rename_i h; cases h; done) | (cases hfk; done) | skip
        all_goals
          obtain rfl := Option.some.inj h1
          simp [recOf, h0, DX.den]
      | obj k' =>
        simp only [dvs, ih, List.map_cons, List.cons.injEq, and_true]
        unfold fitK at hfk
        split at hfk <;> first | (rename_i h; cases h; done) | (cases hfk; done) | skip
        all_goals
          obtain rfl := Option.some.inj h1
          simp [recOf, h0, DX.den, DE.den]
      | vw k' =>
        simp only [dvs, ih, List.map_cons, List.cons.injEq, and_true]
        unfold fitK at hfk
        split at hfk <;> first | (rename_i h; cases h; done) | (cases hfk; done) | skip
        all_goals
          obtain rfl := Option.some.inj h1
          simp [recOf, h0, DX.den, DE.den]
      | fb fs =>
        unfold fitK at hfk
        split at hfk <;> first | (rename_i h; cases h; done) | (cases hfk; done)
      | own ks' e' =>
        unfold fitK at hfk
        split at hfk <;> first | (rename_i h; cases h; done) | (cases hfk; done)
      | io k' =>
        unfold fitK at hfk
        split at hfk <;> first | (rename_i h; cases h; done) | (cases hfk; done)
      | fn k' =>
        unfold fitK at hfk
        split at hfk <;> first | (rename_i h; cases h; done) | (cases hfk; done)
    · cases hd
  | [], _ :: _, _, _, _, hf, _ => by simp [fitL] at hf
  | _ :: _, [], _, _, _, hf, _ => by simp [fitL] at hf
theorem dxAV_bd {h : H} {x : AV} {d : DX} (hd : dxAV x = some d) (hb : bd h x = true) : d.bd h = true := by
  unfold dxAV at hd
  split at hd <;> first | (cases hd; done) | (obtain rfl := Option.some.inj hd; first | exact hb | rfl | exact litB_bd h _)
theorem dxL_bd {h : H} : ∀ {l : List AV} {ds : List DX}, dxL l = some ds → (∀ x ∈ l, bd h x = true) → ds.all (DX.bd h) = true
  | [], ds, hd, _ => by simp only [dxL, Option.some.injEq] at hd; subst hd; rfl
  | x :: r, ds, hd, hb => by
    simp only [dxL] at hd
    split at hd
    · rename_i d l h1 h2
      obtain rfl := Option.some.inj hd
      simp only [List.all_cons, Bool.and_eq_true]
      exact ⟨dxAV_bd h1 (hb x (by simp)), dxL_bd h2 (fun y hy => hb y (by simp [hy]))⟩
    · cases hd
/-! ### What stands there is what stood, but for what is told anew -/
/-- A number told with the new names, and the number told without. -/
def mX (id : Nat) (avs : List AV) (h0 : H) : Ex → Ex → Bool
  | .v b j, y => bif Nat.beq b id then (match avs[j]? with
      | some z => (match numA z with | some (_, e) => Ex.eqb e y | none => false)
      | none => false) else Ex.eqb (.v b j) y && has h0 b
  | .n x, y => Ex.eqb (.n x) y
  | .bin o a b, .bin p c d => EO.eqb o p && mX id avs h0 a c && mX id avs h0 b d
  | .wrap k a, .wrap l b => keq k l && mX id avs h0 a b
  | .len b j, y => Ex.eqb (.len b j) y && has h0 b
  | .at b j i c, .at b' j' i' c' => Nat.beq b b' && Nat.beq j j' && mX id avs h0 i i' && Nat.beq c c' && has h0 b
  | .fld b j p i, y => Ex.eqb (.fld b j p i) y && has h0 b
  | _, _ => false
def mY (id : Nat) (avs : List AV) (h0 : H) : Bx → Bx → Bool
  | .lt a b, .lt c d => mX id avs h0 a c && mX id avs h0 b d
  | .le a b, .le c d => mX id avs h0 a c && mX id avs h0 b d
  | .eq a b, .eq c d => mX id avs h0 a c && mX id avs h0 b d
  | .nz a, .nz c => mX id avs h0 a c
  | .beq a b, .beq c d => mY id avs h0 a c && mY id avs h0 b d
  | .and a b, .and c d => mY id avs h0 a c && mY id avs h0 b d
  | .not a, .not c => mY id avs h0 a c
  | .v b j, y => Bx.eqb (.v b j) y && has h0 b
  | .fld b j p i, y => Bx.eqb (.fld b j p i) y && has h0 b
  | .nil b j p, y => Bx.eqb (.nil b j p) y && has h0 b
  | _, _ => false
def mC (id : Nat) (avs : List AV) (h0 : H) (x y : AV) : Bool := match x with
  | .ix k (.v b j) => bif Nat.beq b id then (match avs[j]? with
      | some z => aeq z y && (match numA z with | some (k', _) => keq k k' | none => false)
      | none => false) else aeq x y && bd h0 x
  | .bx (.v b j) => bif Nat.beq b id then (match avs[j]? with
      | some z => aeq z y && (truA z).isSome
      | none => false) else aeq x y && bd h0 x
  | .ls b j => bif Nat.beq b id then (match avs[j]? with
      | some z => aeq z y && (match z with | .ls _ _ => true | .val (.slice none 0 0) => true | _ => false)
      | none => false) else aeq x y && bd h0 x
  | .ob b j [] => bif Nat.beq b id then (match avs[j]? with
      | some z => aeq z y && (match z with | .ob _ _ _ => true | .val (.pointer none) => true | _ => false)
      | none => false) else aeq x y && bd h0 x
  | .ix k e => (match y with | .ix l f => keq k l && mX id avs h0 e f | _ => false)
  | .bx e => (match y with | .bx f => mY id avs h0 e f | _ => false)
  | _ => aeq x y && bd h0 x
def mT (id : Nat) (avs : List AV) (h0 : H) (i : Nat) (x y : TV) : Bool := match x with
  | .p (.v (.any b j)) => (Nat.beq b id && Nat.beq j i) || (teq (.p (.v (.any b j))) y && bdT h0 (.p (.v (.any b j))))
  | .p (.v x) => match y with | .p (.v y) => mC id avs h0 x y | _ => false
  | .p (.agg l) => (match y with | .p (.agg _) => true | .p (.v (.val (.agg _))) => true | _ => false) && (match cellsT y with | some m => leq (mC id avs h0) l m | none => false)
  | .tup _ => teq x y && bdT h0 x
def mTs (id : Nat) (avs : List AV) (h0 : H) : Nat → List TV → List TV → Bool
  | _, [], [] => true
  | i, x :: r, y :: s => mT id avs h0 i x y && mTs id avs h0 (i + 1) r s
  | _, _, _ => false
def lkSub : List LK → List LK → Bool
  | [], _ => true
  | .gone :: r, l => lkSub r l.tail
  | x :: r, y :: l => lkeq x y && lkSub r l
  | _ :: _, [] => false
def mE (id : Nat) (avs : List AV) (h0 : H) (x : Ent) (y : Option Ent) : Bool := match x, y with
  | .dead, some _ => true
  | .blk x, some (.blk y) => Nat.beq x.elem y.elem && oeqN x.full y.full && leq (mC id avs h0) x.cells y.cells
  | .lst l, some (.lst m) => lkSub l m
  | _, _ => false
def mH (id : Nat) (avs : List AV) (h0 h' hd : H) : Bool := hd.all fun p => Nat.beq p.1 id || mE id avs h0 p.2 (look h' p.1)
def okS (h' : H) (st : LK) (y : AV) : Bool := match st with
  | .gone => true
  | .obj k ps os => lkeq st (.obj k [[]] []) && (match y with
    | .ob c i [] => lkeq (lk h' c i) (.obj k [[]] [])
    | .val (.pointer none) => true
    | _ => false)
  | .vw k => match y with
    | .ob c i p => (match readK (lk h' c i) p with
      | some k' => Nat.beq k k'
      | none => false)
    | .val (.pointer none) => true
    | _ => false
  | .fb _ => false
  | .al _ _ => false
  | .ov k => match y with
    | .ob c i p => (match lk h' c i with
      | .ov k' => Nat.beq k (kat k' p)
      | _ => false)
    | .val (.pointer none) => true
    | _ => false
  | st => match y with
    | .ls c i => lkeq (lk h' c i) st
    | .val (.slice none 0 0) => true
    | _ => false
def okSs (h' : H) : List LK → List AV → Bool
  | [], _ => true
  | st :: r, y :: l => okS h' st y && okSs h' r l
  | _ :: _, [] => false
/-- Where the walk's own lists come from: no two from one; none that goes on under its elder name. -/
def srcs : List LK → List AV → List (Nat × Nat)
  | .own _ _ :: r, .ls c i :: l => (c, i) :: srcs r l
  | .obj _ _ _ :: r, .ob c i [] :: l => (c, i) :: srcs r l
  | _ :: r, _ :: l => srcs r l
  | _, _ => []
def apart2 : List (Nat × Nat) → Bool
  | [] => true
  | p :: r => !(r.any (neq2 p)) && apart2 r
def isGone : LK → Bool
  | .gone => true
  | _ => false
def without (id : Nat) (h : H) : H := h.filter fun p => !(Nat.beq p.1 id)
theorem without_look {id : Nat} : ∀ {h : H} {b : Nat}, b ≠ id → look (without id h) b = look h b
  | [], b, hb => rfl
  | (k, x) :: r, b, hb => by
    have ih := without_look (id := id) (h := r) hb
    unfold without at ih ⊢
    rw [List.filter_cons]
    cases hk : Nat.beq k id with
    | true =>
      have := Nat.eq_of_beq_eq_true hk
      subst this
      simp only [Bool.not_true, if_neg (show ¬ (false = true) by simp)]
      rw [ih, look_cons, if_neg (fun e => hb e.symm)]
    | false =>
      simp only [Bool.not_false, if_true]
      rw [look_cons, look_cons, ih]
theorem without_id (id : Nat) : ∀ h : H, has (without id h) id = false
  | [] => rfl
  | (k, x) :: r => by
    have ih := without_id id r
    unfold without at ih ⊢
    rw [List.filter_cons]
    cases hk : Nat.beq k id with
    | true => simpa using ih
    | false =>
      simp only [Bool.not_false, if_true]
      unfold has at ih ⊢
      rw [look_cons, if_neg]
      · exact ih
      · rintro rfl; simp at hk
theorem without_sub (id : Nat) (h : H) : Sub (without id h) h := fun c hc => by
  by_cases e : c = id
  · subst e; rw [without_id] at hc; cases hc
  · unfold has at hc ⊢
    rw [without_look e] at hc; exact hc
def opnOk (id : Nat) (hd : H) : Bool := hd.all fun p => match p.2 with
  | .lst l => l.all fun s => match s with
    | .obj _ _ os => os.all fun q => has hd q.2
    | .al x y => bd (without id hd) x && bd (without id hd) y
    | _ => true
  | _ => true
def mS (id : Nat) (hd h' : H) (sts : List LK) (avs : List AV) : Bool :=
  opnOk id hd && (okSs h' sts avs && apart2 (srcs sts avs) && (srcs sts avs).all fun p => Nat.beq p.1 id || isGone (lk hd p.1 p.2))
theorem look_mem : ∀ {h : H} {b : Nat} {x : Ent}, look h b = some x → (b, x) ∈ h
  | [], b, x, hx => by simp [look] at hx
  | (k, y) :: r, b, x, hx => by
    rw [look_cons] at hx
    split at hx
    · rename_i e; subst e; obtain rfl := Option.some.inj hx; exact List.mem_cons_self
    · exact List.mem_cons_of_mem _ (look_mem hx)
section
variable {id : Nat} {avs : List AV} {h0 h' hd : H} {E E' : Env} {o : Nat → Value}
theorem mX_eq (ag : Ag h0 E E') (hid : has h0 id = false) : ∀ {x y : Ex}, mX id avs h0 x y = true → x.den (E'.setR id (recOf E' avs o)) = y.den E' := by
  have plain : ∀ {x y : Ex}, Ex.eqb x y = true → x.bd h0 = true → x.den (E'.setR id (recOf E' avs o)) = y.den E' := by
    intro x y h1 h2
    rw [← Ex.eqb_eq h1, ← Ex.den_ag (ag_setR hid E' (recOf E' avs o)) h2]
  intro x
  induction x with
  | v b j =>
    intro y hm
    unfold mX at hm
    cases hb : Nat.beq b id with
    | false =>
      rw [hb, cond_false, Bool.and_eq_true] at hm
      exact plain hm.1 hm.2
    | true =>
      rw [hb, cond_true] at hm
      have := Nat.eq_of_beq_eq_true hb
      subst this
      split at hm
      · rename_i z hz
        split at hm
        · rename_i k' e hn
          rw [← Ex.eqb_eq hm]
          simp [Ex.den, Env.setR_r, recOf, hz, hn]
        · cases hm
      · cases hm
  | n x => intro y hm; unfold mX at hm; exact plain hm rfl
  | bin o a b iha ihb =>
    intro y hm
    cases y with
    | bin p c d =>
      unfold mX at hm
      rw [Bool.and_eq_true, Bool.and_eq_true] at hm
      simp only [Ex.den, EO.eqb_eq hm.1.1, iha hm.1.2, ihb hm.2]
    | _ => unfold mX at hm; cases hm
  | wrap k a iha =>
    intro y hm
    cases y with
    | wrap l c =>
      unfold mX at hm
      rw [Bool.and_eq_true] at hm
      simp only [Ex.den, keq_eq hm.1, iha hm.2]
    | _ => unfold mX at hm; cases hm
  | len b j => intro y hm; unfold mX at hm; rw [Bool.and_eq_true] at hm; exact plain hm.1 hm.2
  | fld b j p i => intro y hm; unfold mX at hm; rw [Bool.and_eq_true] at hm; exact plain hm.1 hm.2
  | «at» b j i c ih =>
    intro y hm
    cases y with
    | «at» b' j' i' c' =>
      unfold mX at hm
      simp only [Bool.and_eq_true] at hm
      obtain ⟨⟨⟨⟨e1, e2⟩, e3⟩, e4⟩, e5⟩ := hm
      have h1 := Nat.eq_of_beq_eq_true e1
      have h2 := Nat.eq_of_beq_eq_true e2
      have h4 := Nat.eq_of_beq_eq_true e4
      subst h1; subst h2; subst h4
      simp only [Ex.den, ← (ag_setR hid E' (recOf E' avs o) b e5).2.2, ih e3]
    | _ => unfold mX at hm; cases hm
theorem mX_bd (hs : Sub h0 hd) (hi : has hd id = true) : ∀ {x y : Ex}, mX id avs h0 x y = true → x.bd hd = true := by
  intro x
  induction x with
  | v b j =>
    intro y hm
    unfold mX at hm
    cases hb : Nat.beq b id with
    | false =>
      rw [hb, cond_false, Bool.and_eq_true] at hm
      exact hs b hm.2
    | true => rw [← Nat.eq_of_beq_eq_true hb] at hi; exact hi
  | n x => intro y hm; rfl
  | bin o a b iha ihb =>
    intro y hm
    cases y with
    | bin p c d =>
      unfold mX at hm
      rw [Bool.and_eq_true, Bool.and_eq_true] at hm
      simp only [Ex.bd, iha hm.1.2, ihb hm.2, Bool.and_self]
    | _ => unfold mX at hm; cases hm
  | wrap k a iha =>
    intro y hm
    cases y with
    | wrap l c =>
      unfold mX at hm
      rw [Bool.and_eq_true] at hm
      exact iha hm.2
    | _ => unfold mX at hm; cases hm
  | len b j => intro y hm; unfold mX at hm; rw [Bool.and_eq_true] at hm; exact hs b hm.2
  | fld b j p i => intro y hm; unfold mX at hm; rw [Bool.and_eq_true] at hm; exact hs b hm.2
  | «at» b j i c ih =>
    intro y hm
    cases y with
    | «at» b' j' i' c' =>
      unfold mX at hm
      simp only [Bool.and_eq_true] at hm
      simp only [Ex.bd, ih hm.1.1.2, hs b hm.2, Bool.and_self]
    | _ => unfold mX at hm; cases hm
theorem mY_eq (ag : Ag h0 E E') (hid : has h0 id = false) : ∀ {x y : Bx}, mY id avs h0 x y = true → x.den (E'.setR id (recOf E' avs o)) = y.den E' := by
  intro x
  induction x with
  | v b j =>
    intro y hm
    cases y with
    | v c l =>
      unfold mY at hm
      rw [Bool.and_eq_true] at hm
      rw [← Bx.eqb_eq hm.1]
      simp only [Bx.den, ← (ag_setR hid E' (recOf E' avs o) b hm.2).2.2]
    | _ => unfold mY at hm; rw [Bool.and_eq_true] at hm; cases hm.1
  | lt a b =>
    intro y hm
    cases y with
    | lt c d => unfold mY at hm; rw [Bool.and_eq_true] at hm; simp only [Bx.den, mX_eq (o := o) ag hid hm.1, mX_eq (o := o) ag hid hm.2]
    | _ => unfold mY at hm; cases hm
  | le a b =>
    intro y hm
    cases y with
    | le c d => unfold mY at hm; rw [Bool.and_eq_true] at hm; simp only [Bx.den, mX_eq (o := o) ag hid hm.1, mX_eq (o := o) ag hid hm.2]
    | _ => unfold mY at hm; cases hm
  | eq a b =>
    intro y hm
    cases y with
    | eq c d => unfold mY at hm; rw [Bool.and_eq_true] at hm; simp only [Bx.den, mX_eq (o := o) ag hid hm.1, mX_eq (o := o) ag hid hm.2]
    | _ => unfold mY at hm; cases hm
  | nz a =>
    intro y hm
    cases y with
    | nz c => unfold mY at hm; simp only [Bx.den, mX_eq (o := o) ag hid hm]
    | _ => unfold mY at hm; cases hm
  | beq a b iha ihb =>
    intro y hm
    cases y with
    | beq c d => unfold mY at hm; rw [Bool.and_eq_true] at hm; simp only [Bx.den, iha hm.1, ihb hm.2]
    | _ => unfold mY at hm; cases hm
  | and a b iha ihb =>
    intro y hm
    cases y with
    | and c d => unfold mY at hm; rw [Bool.and_eq_true] at hm; simp only [Bx.den, iha hm.1, ihb hm.2]
    | _ => unfold mY at hm; cases hm
  | not a iha =>
    intro y hm
    cases y with
    | not c => unfold mY at hm; simp only [Bx.den, iha hm]
    | _ => unfold mY at hm; cases hm
  | fld b j p i =>
    intro y hm
    have h2 : Bx.eqb (.fld b j p i) y = true ∧ has h0 b = true := by
      cases y <;> (unfold mY at hm; rw [Bool.and_eq_true] at hm; exact hm)
    rw [← Bx.eqb_eq h2.1]
    simp only [Bx.den, ← (ag_setR hid E' (recOf E' avs o) b h2.2).2.2]
  | nil b j p =>
    intro y hm
    have h2 : Bx.eqb (.nil b j p) y = true ∧ has h0 b = true := by
      cases y <;> (unfold mY at hm; rw [Bool.and_eq_true] at hm; exact hm)
    rw [← Bx.eqb_eq h2.1]
    simp only [Bx.den, ← (ag_setR hid E' (recOf E' avs o) b h2.2).2.2]
theorem mY_bd (hs : Sub h0 hd) (hi : has hd id = true) : ∀ {x y : Bx}, mY id avs h0 x y = true → x.bd hd = true := by
  intro x
  induction x with
  | v b j =>
    intro y hm
    have : has h0 b = true := by
      cases y <;> (unfold mY at hm; rw [Bool.and_eq_true] at hm; exact hm.2)
    exact hs b this
  | fld b j p i =>
    intro y hm
    have : has h0 b = true := by
      cases y <;> (unfold mY at hm; rw [Bool.and_eq_true] at hm; exact hm.2)
    exact hs b this
  | nil b j p =>
    intro y hm
    have : has h0 b = true := by
      cases y <;> (unfold mY at hm; rw [Bool.and_eq_true] at hm; exact hm.2)
    exact hs b this
  | lt a b =>
    intro y hm
    cases y with
    | lt c d => unfold mY at hm; rw [Bool.and_eq_true] at hm; simp only [Bx.bd, mX_bd hs hi hm.1, mX_bd hs hi hm.2, Bool.and_self]
    | _ => unfold mY at hm; cases hm
  | le a b =>
    intro y hm
    cases y with
    | le c d => unfold mY at hm; rw [Bool.and_eq_true] at hm; simp only [Bx.bd, mX_bd hs hi hm.1, mX_bd hs hi hm.2, Bool.and_self]
    | _ => unfold mY at hm; cases hm
  | eq a b =>
    intro y hm
    cases y with
    | eq c d => unfold mY at hm; rw [Bool.and_eq_true] at hm; simp only [Bx.bd, mX_bd hs hi hm.1, mX_bd hs hi hm.2, Bool.and_self]
    | _ => unfold mY at hm; cases hm
  | nz a =>
    intro y hm
    cases y with
    | nz c => unfold mY at hm; simp only [Bx.bd, mX_bd hs hi hm]
    | _ => unfold mY at hm; cases hm
  | beq a b iha ihb =>
    intro y hm
    cases y with
    | beq c d => unfold mY at hm; rw [Bool.and_eq_true] at hm; simp only [Bx.bd, iha hm.1, ihb hm.2, Bool.and_self]
    | _ => unfold mY at hm; cases hm
  | and a b iha ihb =>
    intro y hm
    cases y with
    | and c d => unfold mY at hm; rw [Bool.and_eq_true] at hm; simp only [Bx.bd, iha hm.1, ihb hm.2, Bool.and_self]
    | _ => unfold mY at hm; cases hm
  | not a iha =>
    intro y hm
    cases y with
    | not c => unfold mY at hm; exact iha hm
    | _ => unfold mY at hm; cases hm
theorem mC_eq (ag : Ag h0 E E') (hid : has h0 id = false) {x y : AV} (hm : mC id avs h0 x y = true) : cv (E'.setR id (recOf E' avs o)) x = cv E' y := by
  have plain : (aeq x y && bd h0 x) = true → cv (E'.setR id (recOf E' avs o)) x = cv E' y := by
    intro h
    rw [Bool.and_eq_true] at h
    rw [← aeq_eq h.1, ← cv_ag (ag.trans (Sub.refl _) (ag_setR hid E' (recOf E' avs o) |> fun g => g)) h.2, cv_ag ag h.2]
  unfold mC at hm
  split at hm
  · rename_i k b j
    cases hb : Nat.beq b id with
    | false => rw [hb] at hm; exact plain hm
    | true =>
      rw [hb, cond_true] at hm
      have := Nat.eq_of_beq_eq_true hb
      subst this
      split at hm
      · rename_i z hz
        rw [Bool.and_eq_true] at hm
        rw [← aeq_eq hm.1]
        have h2 := hm.2
        split at h2
        · rename_i k' e hn
          rw [numA_eq hn, ← keq_eq h2]
          simp [cv, Ex.den, Env.setR_r, recOf, hz, hn]
        · cases h2
      · cases hm
  · rename_i b j
    cases hb : Nat.beq b id with
    | false => rw [hb] at hm; exact plain hm
    | true =>
      rw [hb, cond_true] at hm
      have := Nat.eq_of_beq_eq_true hb
      subst this
      split at hm
      · rename_i z hz
        rw [Bool.and_eq_true] at hm
        rw [← aeq_eq hm.1]
        obtain ⟨e, hn⟩ := Option.isSome_iff_exists.1 hm.2
        rw [truA_eq hn]
        simp [cv, Bx.den, Env.setR_r, recOf, hz, hn]
      · cases hm
  · rename_i b j
    cases hb : Nat.beq b id with
    | false => rw [hb] at hm; exact plain hm
    | true =>
      rw [hb, cond_true] at hm
      have := Nat.eq_of_beq_eq_true hb
      subst this
      split at hm
      · rename_i z hz
        rw [Bool.and_eq_true] at hm
        rw [← aeq_eq hm.1]
        have h2 := hm.2
        split at h2
        · simp [cv, Rec.lv, Env.setR_r, recOf, hz]
        · simp [cv, Rec.lv, Env.setR_r, recOf, hz]
        · cases h2
      · cases hm
  · rename_i b j
    cases hb : Nat.beq b id with
    | false => rw [hb] at hm; exact plain hm
    | true =>
      rw [hb, cond_true] at hm
      have := Nat.eq_of_beq_eq_true hb
      subst this
      split at hm
      · rename_i z hz
        rw [Bool.and_eq_true] at hm
        rw [← aeq_eq hm.1]
        have h2 := hm.2
        split at h2
        · simp [cv, Env.setR_r, recOf, hz, Dat.sub]
        · simp [cv, Env.setR_r, recOf, hz, Dat.sub, Dat.addr]
        · cases h2
      · cases hm
  · split at hm
    · rw [Bool.and_eq_true] at hm
      simp only [cv, keq_eq hm.1, mX_eq (o := o) ag hid hm.2]
    · cases hm
  · split at hm
    · simp only [cv, mY_eq (o := o) ag hid hm]
    · cases hm
  · exact plain hm
theorem mC_bd (hs : Sub h0 hd) (hi : has hd id = true) {x y : AV} (hm : mC id avs h0 x y = true) : bd hd x = true := by
  have plain : (aeq x y && bd h0 x) = true → bd hd x = true := by
    intro h
    rw [Bool.and_eq_true] at h
    exact bd_sub hs h.2
  unfold mC at hm
  split at hm
  · rename_i k b j
    cases hb : Nat.beq b id with
    | false => rw [hb] at hm; exact plain hm
    | true => rw [← Nat.eq_of_beq_eq_true hb] at hi; exact hi
  · rename_i b j
    cases hb : Nat.beq b id with
    | false => rw [hb] at hm; exact plain hm
    | true => rw [← Nat.eq_of_beq_eq_true hb] at hi; exact hi
  · rename_i b j
    cases hb : Nat.beq b id with
    | false => rw [hb] at hm; exact plain hm
    | true => rw [← Nat.eq_of_beq_eq_true hb] at hi; exact hi
  · rename_i b j
    cases hb : Nat.beq b id with
    | false => rw [hb] at hm; exact plain hm
    | true => rw [← Nat.eq_of_beq_eq_true hb] at hi; exact hi
  · split at hm
    · rw [Bool.and_eq_true] at hm
      exact mX_bd hs hi hm.2
    · cases hm
  · split at hm
    · exact mY_bd hs hi hm
    · cases hm
  · exact plain hm
theorem mCs_eq (ag : Ag h0 E E') (hid : has h0 id = false) : ∀ {l m : List AV}, leq (mC id avs h0) l m = true → l.map (cv (E'.setR id (recOf E' avs o))) = m.map (cv E')
  | [], [], _ => rfl
  | x :: l, y :: m, h => by
    simp only [leq, Bool.and_eq_true] at h
    rw [List.map_cons, List.map_cons, mC_eq ag hid h.1, mCs_eq ag hid h.2]
  | [], _ :: _, h => by simp [leq] at h
  | _ :: _, [], h => by simp [leq] at h
theorem mCs_bd (hs : Sub h0 hd) (hi : has hd id = true) : ∀ {l m : List AV}, leq (mC id avs h0) l m = true → ∀ x ∈ l, bd hd x = true
  | [], [], _, x, hx => by simp at hx
  | x :: l, y :: m, h, z, hz => by
    simp only [leq, Bool.and_eq_true] at h
    rcases List.mem_cons.1 hz with rfl | hz
    · exact mC_bd hs hi h.1
    · exact mCs_bd hs hi h.2 z hz
  | [], _ :: _, h, _, _ => by simp [leq] at h
  | _ :: _, [], h, _, _ => by simp [leq] at h
theorem mCs_len : ∀ {l m : List AV}, leq (mC id avs h0) l m = true → l.length = m.length
  | [], [], _ => rfl
  | x :: l, y :: m, h => by
    simp only [leq, Bool.and_eq_true] at h
    rw [List.length_cons, List.length_cons, mCs_len h.2]
  | [], _ :: _, h => by simp [leq] at h
  | _ :: _, [], h => by simp [leq] at h
theorem mT_eq (ag : Ag h0 E E') (hid : has h0 id = false) {i : Nat} {x y : TV} (hm : mT id avs h0 i x y = true) (ho : o i = ct E' y) : ct (E'.setR id (recOf E' avs o)) x = ct E' y := by
  unfold mT at hm
  split at hm
  · rename_i b j
    simp only [Bool.or_eq_true, Bool.and_eq_true, Nat.beq_eq] at hm
    rcases hm with ⟨rfl, rfl⟩ | ⟨h1, h2⟩
    · simp only [ct, cp, cv, Env.setR_r, recOf]
      exact ho
    · rw [← teq_eq h1, ← ct_ag (ag.trans (Sub.refl _) (ag_setR hid E' (recOf E' avs o) |> fun g => g)) h2, ct_ag ag h2]
  · split at hm
    · exact mC_eq ag hid hm
    · cases hm
  · rename_i l
    rw [Bool.and_eq_true] at hm
    have h2 := hm.2
    split at h2
    · rename_i m hc
      rw [agg_of hc (by
        have h1 := hm.1
        split at h1
        · exact .inl ⟨_, rfl⟩
        · exact .inr ⟨_, rfl⟩
        · cases h1) E', ← mCs_eq (o := o) ag hid h2]
      rfl
    · cases h2
  · rw [Bool.and_eq_true] at hm
    rw [← teq_eq hm.1, ← ct_ag (ag.trans (Sub.refl _) (ag_setR hid E' (recOf E' avs o) |> fun g => g)) hm.2, ct_ag ag hm.2]
theorem mT_bd (hs : Sub h0 hd) (hi : has hd id = true) {i : Nat} {x y : TV} (hm : mT id avs h0 i x y = true) : bdT hd x = true := by
  unfold mT at hm
  split at hm
  · rename_i b j
    simp only [Bool.or_eq_true, Bool.and_eq_true, Nat.beq_eq] at hm
    rcases hm with ⟨rfl, rfl⟩ | ⟨_, h2⟩
    · exact hi
    · exact bdT_sub hs h2
  · split at hm
    · exact mC_bd hs hi hm
    · cases hm
  · rename_i l
    rw [Bool.and_eq_true] at hm
    have h2 := hm.2
    split at h2
    · simp only [bdT, bdP, List.all_eq_true]
      exact mCs_bd hs hi h2
    · cases h2
  · rw [Bool.and_eq_true] at hm
    exact bdT_sub hs hm.2
theorem mTs_eq (ag : Ag h0 E E') (hid : has h0 id = false) : ∀ {l m : List TV} {i : Nat}, mTs id avs h0 i l m = true → (∀ j y, m[j]? = some y → o (i + j) = ct E' y) → l.map (ct (E'.setR id (recOf E' avs o))) = m.map (ct E')
  | [], [], i, _, _ => rfl
  | x :: l, y :: m, i, h, ho => by
    simp only [mTs, Bool.and_eq_true] at h
    rw [List.map_cons, List.map_cons, mT_eq ag hid h.1 (by simpa using ho 0 y rfl), mTs_eq ag hid h.2 (fun j z hz => by have := ho (j + 1) z (by simpa using hz); rwa [show i + 1 + j = i + (j + 1) by omega])]
  | [], _ :: _, _, h, _ => by simp [mTs] at h
  | _ :: _, [], _, h, _ => by simp [mTs] at h
theorem mTs_bd (hs : Sub h0 hd) (hi : has hd id = true) : ∀ {l m : List TV} {i : Nat}, mTs id avs h0 i l m = true → ∀ x ∈ l, bdT hd x = true
  | [], [], i, _, x, hx => by simp at hx
  | x :: l, y :: m, i, h, z, hz => by
    simp only [mTs, Bool.and_eq_true] at h
    rcases List.mem_cons.1 hz with rfl | hz
    · exact mT_bd hs hi h.1
    · exact mTs_bd hs hi h.2 z hz
  | [], _ :: _, _, h, _, _ => by simp [mTs] at h
  | _ :: _, [], _, h, _, _ => by simp [mTs] at h
end
theorem lkSub_get : ∀ {l m : List LK}, lkSub l m = true → ∀ j, l.getD j .gone = .gone ∨ l.getD j .gone = m.getD j .gone
  | [], m, _, j => .inl rfl
  | x :: r, m, h, j => by
    cases x with
    | gone =>
      simp only [lkSub] at h
      cases j with
      | zero => exact .inl rfl
      | succ j =>
        have := lkSub_get h j
        cases m with
        | nil => simpa using this
        | cons y m => simpa using this
    | rd ks old =>
      cases m with
      | nil => simp [lkSub] at h
      | cons y m =>
        simp only [lkSub, Bool.and_eq_true] at h
        cases j with
        | zero => right; simp [lkeq_eq _ _ h.1]
        | succ j => simpa using lkSub_get h.2 j
    | own ks e =>
      cases m with
      | nil => simp [lkSub] at h
      | cons y m =>
        simp only [lkSub, Bool.and_eq_true] at h
        cases j with
        | zero => right; simp [lkeq_eq _ _ h.1]
        | succ j => simpa using lkSub_get h.2 j
    | obj k ps os =>
      cases m with
      | nil => simp [lkSub] at h
      | cons y m =>
        simp only [lkSub, Bool.and_eq_true] at h
        cases j with
        | zero => right; simp [lkeq_eq _ _ h.1]
        | succ j => simpa using lkSub_get h.2 j
    | vw k =>
      cases m with
      | nil => simp [lkSub] at h
      | cons y m =>
        simp only [lkSub, Bool.and_eq_true] at h
        cases j with
        | zero => right; simp [lkeq_eq _ _ h.1]
        | succ j => simpa using lkSub_get h.2 j
    | fb fs =>
      cases m with
      | nil => simp [lkSub] at h
      | cons y m =>
        simp only [lkSub, Bool.and_eq_true] at h
        cases j with
        | zero => right; simp [lkeq_eq _ _ h.1]
        | succ j => simpa using lkSub_get h.2 j
    | ov k =>
      cases m with
      | nil => simp [lkSub] at h
      | cons y m =>
        simp only [lkSub, Bool.and_eq_true] at h
        cases j with
        | zero => right; simp [lkeq_eq _ _ h.1]
        | succ j => simpa using lkSub_get h.2 j
    | al x' y' =>
      cases m with
      | nil => simp [lkSub] at h
      | cons y m =>
        simp only [lkSub, Bool.and_eq_true] at h
        cases j with
        | zero => right; simp [lkeq_eq _ _ h.1]
        | succ j => simpa using lkSub_get h.2 j
theorem okSs_get {h' : H} : ∀ {sts : List LK} {avs : List AV}, okSs h' sts avs = true → ∀ j, sts.getD j .gone = .gone ∨ ∃ y, avs[j]? = some y ∧ okS h' (sts.getD j .gone) y = true
  | [], avs, _, j => .inl rfl
  | st :: r, [], h, j => by simp [okSs] at h
  | st :: r, y :: l, h, j => by
    simp only [okSs, Bool.and_eq_true] at h
    cases j with
    | zero => exact .inr ⟨y, rfl, h.1⟩
    | succ j => simpa using okSs_get h.2 j
/-- What a source of the walk's own is told by. -/
def srcAV : LK → Nat → Nat → Option AV
  | .own _ _, c, i => some (.ls c i)
  | .obj _ _ _, c, i => some (.ob c i [])
  | _, _, _ => none
theorem srcs_cons (st : LK) (y : AV) (r : List LK) (l : List AV) : (∃ c i, srcAV st c i = some y ∧ srcs (st :: r) (y :: l) = (c, i) :: srcs r l) ∨ srcs (st :: r) (y :: l) = srcs r l := by
  cases st <;> cases y <;> first | exact .inr rfl | exact .inl ⟨_, _, rfl, rfl⟩ | skip
  rename_i p
  cases p with
  | nil => exact .inl ⟨_, _, rfl, rfl⟩
  | cons x p => exact .inr rfl
theorem srcs_hit {st : LK} {y : AV} {c i : Nat} (h : srcAV st c i = some y) (r : List LK) (l : List AV) : srcs (st :: r) (y :: l) = (c, i) :: srcs r l := by
  cases st <;> simp only [srcAV, Option.some.injEq] at h <;> first | (cases h; done) | (subst h; rfl)
theorem srcs_mem : ∀ {sts : List LK} {avs : List AV} {j c i : Nat} {y : AV}, srcAV (sts.getD j .gone) c i = some y → avs[j]? = some y → (c, i) ∈ srcs sts avs
  | [], avs, j, c, i, y, h, _ => by simp [srcAV] at h
  | st :: r, [], j, c, i, y, _, h => by simp at h
  | st :: r, z :: l, 0, c, i, y, h, h2 => by
    simp only [List.getD_cons_zero] at h
    simp only [List.getElem?_cons_zero, Option.some.injEq] at h2
    subst h2
    rw [srcs_hit h]
    exact List.mem_cons_self
  | st :: r, z :: l, j + 1, c, i, y, h, h2 => by
    have ih := srcs_mem (sts := r) (avs := l) (j := j) (c := c) (i := i) (y := y) (by simpa using h) (by simpa using h2)
    rcases srcs_cons st z r l with ⟨c', i', _, e⟩ | e
    · rw [e]; exact List.mem_cons_of_mem _ ih
    · rw [e]; exact ih
theorem srcs_inj : ∀ {sts : List LK} {avs : List AV} {j j' c i : Nat} {y y' : AV}, apart2 (srcs sts avs) = true → srcAV (sts.getD j .gone) c i = some y → avs[j]? = some y → srcAV (sts.getD j' .gone) c i = some y' → avs[j']? = some y' → j = j'
  | [], avs, j, j', c, i, y, y', _, h, _, _, _ => by simp [srcAV] at h
  | st :: r, [], j, j', c, i, y, y', _, _, h, _, _ => by simp at h
  | st :: r, z :: l, 0, 0, _, _, _, _, _, _, _, _, _ => rfl
  | st :: r, z :: l, 0, j' + 1, c, i, y, y', ha, h1, h2, h3, h4 => by
    exfalso
    simp only [List.getD_cons_zero] at h1
    simp only [List.getElem?_cons_zero, Option.some.injEq] at h2
    subst h2
    have := srcs_mem (sts := r) (avs := l) (j := j') (c := c) (i := i) (y := y') (by simpa using h3) (by simpa using h4)
    rw [srcs_hit h1] at ha
    simp only [apart2, Bool.and_eq_true, Bool.not_eq_true'] at ha
    have h5 := List.any_eq_false.1 ha.1 _ this
    simp [neq2] at h5
  | st :: r, z :: l, j + 1, 0, c, i, y, y', ha, h1, h2, h3, h4 => by
    exfalso
    simp only [List.getD_cons_zero] at h3
    simp only [List.getElem?_cons_zero, Option.some.injEq] at h4
    subst h4
    have := srcs_mem (sts := r) (avs := l) (j := j) (c := c) (i := i) (y := y) (by simpa using h1) (by simpa using h2)
    rw [srcs_hit h3] at ha
    simp only [apart2, Bool.and_eq_true, Bool.not_eq_true'] at ha
    have h5 := List.any_eq_false.1 ha.1 _ this
    simp [neq2] at h5
  | st :: r, z :: l, j + 1, j' + 1, c, i, y, y', ha, h1, h2, h3, h4 => by
    have ha' : apart2 (srcs r l) = true := by
      rcases srcs_cons st z r l with ⟨c', i', _, e⟩ | e
      · rw [e] at ha
        simp only [apart2, Bool.and_eq_true] at ha
        exact ha.2
      · rw [e] at ha; exact ha
    rw [srcs_inj (sts := r) (avs := l) (j := j) (j' := j') ha' (by simpa using h1) (by simpa using h2) (by simpa using h3) (by simpa using h4)]
/-- At a loop's head: what stood there, but for what is told anew. -/
theorem rebind {T : Tab} {E0 E' : Env} {h0 h' hd : H} {B : Bd} {w0 w : World} {t' td : List TV} {q' qd : List Fact} {a : Act} {id : Nat} {avs : List AV} {sts : List LK} {o : Nat → Value}
    (hid : has h0 id = false) (hid0 : id ≠ 0) (h00 : has h' 0 = true → has hd 0 = true) (hsub : Sub h0 hd) (hlook : look hd id = some (.lst sts)) (k : Ok T E' t' h' q' B a w) (st : Step E0 h0 B w0 E' h' w)
    (ho : ∀ j y, t'[j]? = some y → o j = ct E' y) (h1 : mTs id avs h0 0 td t' = true) (h2 : mH id avs h0 h' hd = true) (h3 : mS id hd h' sts avs = true)
    (hqb : bdQ hd qd = true) (hqd : PC T (E'.setR id (recOf E' avs o)) qd) :
    Ok T (E'.setR id (recOf E' avs o)) td hd qd B a w ∧ Step E0 h0 B w0 (E'.setR id (recOf E' avs o)) hd w := by
  have hi : has hd id = true := by simp [has, hlook]
  have ag := st.ag
  have ag2 : Ag h0 E0 (E'.setR id (recOf E' avs o)) := ag.trans (Sub.refl _) (ag_setR hid E' _)
  have ent : ∀ b x, b ≠ id → look hd b = some x → mE id avs h0 x (look h' b) = true := by
    intro b x hb hx
    have := List.all_eq_true.1 h2 _ (look_mem hx)
    rw [Bool.or_eq_true, Nat.beq_eq] at this
    exact this.resolve_left hb
  have blk : ∀ b x, hget hd b = some x → b ≠ id ∧ ∃ y, hget h' b = some y ∧ x.elem = y.elem ∧ x.full = y.full ∧ leq (mC id avs h0) x.cells y.cells = true := by
    intro b x hx
    have hl : look hd b = some (.blk x) := by
      unfold hget at hx
      split at hx
      · rename_i y hy; obtain rfl := Option.some.inj hx; exact hy
      · cases hx
    have hne : b ≠ id := by rintro rfl; rw [hlook] at hl; cases hl
    refine ⟨hne, ?_⟩
    have := ent b _ hne hl
    unfold mE at this
    split at this
    · rename_i e _; cases e
    · rename_i x' y e1 e2
      cases e1
      simp only [Bool.and_eq_true, Nat.beq_eq] at this
      exact ⟨y, by simp [hget, e2], this.1.1, oeqN_eq this.1.2, this.2⟩
    · rename_i e _; cases e
    · cases this
  have lks : ∀ b j, b ≠ id → lk hd b j = .gone ∨ (lk hd b j = lk h' b j) := by
    intro b j hb
    unfold lk
    cases hl : look hd b with
    | none => exact .inl rfl
    | some x => cases x with
      | dead => exact .inl rfl
      | blk x => exact .inl rfl
      | mp es n => exact .inl rfl
      | lst l =>
        have := ent b _ hb hl
        unfold mE at this
        split at this
        · rename_i e _; cases e
        · rename_i e _; cases e
        · rename_i l' m e1 e2
          cases e1
          rw [e2]
          exact lkSub_get this j
        · cases this
  have lid : ∀ j, lk hd id j = sts.getD j .gone := fun j => by simp [lk, hlook]
  unfold mS at h3
  rw [Bool.and_eq_true, Bool.and_eq_true, Bool.and_eq_true] at h3
  obtain ⟨s0, ⟨s1, s2⟩, s3⟩ := h3
  have k0 := k
  have hopn : ∀ b j k ps os, lk hd b j = .obj k ps os → ∀ q ∈ os, has hd q.2 = true := by
    intro b j k ps os hl q hq
    unfold lk at hl
    split at hl
    · rename_i l hl'
      have g1 := List.all_eq_true.1 s0 _ (look_mem hl')
      have g2 : LK.obj k ps os ∈ l := by
        rw [List.getD_eq_getElem?_getD] at hl
        cases hx : l[j]? with
        | none => rw [hx] at hl; cases hl
        | some z => rw [hx] at hl; rw [← show z = LK.obj k ps os from hl]; exact List.mem_of_getElem? hx
      exact List.all_eq_true.1 (List.all_eq_true.1 g1 _ g2) q hq
    · cases hl
  have hali : ∀ b j x y, lk hd b j = .al x y → bd (without id hd) x = true ∧ bd (without id hd) y = true := by
    intro b j x y hl
    unfold lk at hl
    split at hl
    · rename_i l hl'
      have g1 := List.all_eq_true.1 s0 _ (look_mem hl')
      have g2 : LK.al x y ∈ l := by
        rw [List.getD_eq_getElem?_getD] at hl
        cases hx : l[j]? with
        | none => rw [hx] at hl; cases hl
        | some z => rw [hx] at hl; rw [← show z = LK.al x y from hl]; exact List.mem_of_getElem? hx
      have := List.all_eq_true.1 g1 _ g2
      simpa only [Bool.and_eq_true] using this
    · cases hl
  have hal : ∀ j x y, sts.getD j .gone ≠ .al x y := by
    intro j x y e
    rcases okSs_get s1 j with h | ⟨z, hz, hs⟩
    · rw [e] at h; cases h
    · rw [e] at hs; cases hs
  have hfb : ∀ j fs, sts.getD j .gone ≠ .fb fs := by
    intro j fs e
    rcases okSs_get s1 j with h | ⟨y, hy, hs⟩
    · rw [e] at h; cases h
    · rw [e] at hs; cases hs
  -- what there is of the head's name: none, or one that was
  have lsrc : ∀ j, sts.getD j .gone ≠ .gone →
      (avs[j]? = some (.val (.slice none 0 0)) ∧ (∀ k ps os, sts.getD j .gone ≠ .obj k ps os) ∧ ∀ k, sts.getD j .gone ≠ .vw k ∧ sts.getD j .gone ≠ .ov k) ∨
      (∃ c i, avs[j]? = some (.ls c i) ∧ ((∀ k ps os, sts.getD j .gone ≠ .obj k ps os) ∧ ∀ k, sts.getD j .gone ≠ .vw k ∧ sts.getD j .gone ≠ .ov k) ∧ lk h' c i = sts.getD j .gone) ∨
      (∃ k, avs[j]? = some (.val (.pointer none)) ∧ (sts.getD j .gone = .obj k [[]] [] ∨ sts.getD j .gone = .vw k ∨ sts.getD j .gone = .ov k)) ∨
      (∃ k c i, avs[j]? = some (.ob c i []) ∧ sts.getD j .gone = .obj k [[]] [] ∧ lk h' c i = .obj k [[]] []) ∨
      (∃ k c i p, avs[j]? = some (.ob c i p) ∧ sts.getD j .gone = .vw k ∧ readK (lk h' c i) p = some k) ∨
      (∃ k k' c i p, avs[j]? = some (.ob c i p) ∧ sts.getD j .gone = .ov k ∧ lk h' c i = .ov k' ∧ k = kat k' p) := by
    intro j hj
    rcases okSs_get s1 j with h | ⟨y, hy, hs⟩
    · exact absurd h hj
    · unfold okS at hs
      split at hs
      · rename_i h; exact absurd h hj
      · rename_i k ps os hk
        rw [Bool.and_eq_true] at hs
        have e := lkeq_eq _ _ hs.1
        have hs2 := hs.2
        split at hs2
        · exact .inr (.inr (.inr (.inl ⟨k, _, _, hy, e, lkeq_eq _ _ hs2⟩)))
        · exact .inr (.inr (.inl ⟨k, hy, .inl e⟩))
        · cases hs2
      · rename_i k hk
        split at hs
        · split at hs
          · rename_i k' hr
            rw [← Nat.eq_of_beq_eq_true hs] at hr
            exact .inr (.inr (.inr (.inr (.inl ⟨k, _, _, _, hy, hk, hr⟩))))
          · cases hs
        · exact .inr (.inr (.inl ⟨k, hy, .inr (.inl hk)⟩))
        · cases hs
      · cases hs
      · cases hs
      · rename_i k hk
        split at hs
        · split at hs
          · rename_i c i p k' hl
            exact .inr (.inr (.inr (.inr (.inr ⟨k, k', _, _, _, hy, hk, hl, Nat.eq_of_beq_eq_true hs⟩))))
          · cases hs
        · exact .inr (.inr (.inl ⟨k, hy, .inr (.inr hk)⟩))
        · cases hs
      · rename_i hn hn2 _ _ hn3
        split at hs
        · exact .inr (.inl ⟨_, _, hy, ⟨hn, fun k => ⟨hn2 k, hn3 k⟩⟩, lkeq_eq _ _ hs⟩)
        · exact .inl ⟨hy, hn, fun k => ⟨hn2 k, hn3 k⟩⟩
        · cases hs
  have occ0 : ∀ b j k', (lk hd b j).occ ((E'.setR id (recOf E' avs o)).r b) j k' → ∃ c i, (lk h' c i).occ (E'.r c) i k' ∧ ((lk h' c i = lk hd b j ∧ (b = id → ∀ y, srcAV (lk hd b j) c i = some y → avs[j]? = some y) ∧ (b ≠ id → c = b ∧ i = j)) ∨ (((lk hd b j).isVw ∨ ∃ k, lk hd b j = .ov k) ∧ (∀ ks e, lk h' c i ≠ .own ks e) ∧ ((lk hd b j).isVw ∨ ∃ k', lk h' c i = .ov k'))) := by
    intro b j k' hk
    by_cases hb : b = id
    · subst hb
      rw [Env.setR_r, lid] at hk
      have hne : sts.getD j .gone ≠ .gone := fun e => by rw [e] at hk; exact hk
      rw [lid]
      rcases lsrc j hne with ⟨hz, hn, hn2⟩ | ⟨c, i, hc, ⟨hn, hn2⟩, hl⟩ | ⟨k, hc, hs⟩ | ⟨k, c, i, hc, hs, hl⟩ | ⟨k, c, i, p, hc, hs, hl⟩ | ⟨k, ko, c, i, p, hc, hs, hl, hkk⟩
      · exfalso
        cases hs : sts.getD j .gone with
        | gone => exact hne hs
        | rd ks old => rw [hs] at hk; simp [LK.occ, recOf, hz] at hk
        | own ks e => rw [hs] at hk; simp [LK.occ, recOf, hz] at hk
        | obj k ps os => exact hn k ps os hs
        | vw k => exact (hn2 k).1 hs
        | ov k => exact (hn2 k).2 hs
        | fb fs => exact hfb j fs hs
        | al x y => exact hal j x y hs
      · refine ⟨c, i, ?_, .inl ⟨hl, fun _ y hy => ?_, fun h => absurd rfl h⟩⟩
        · rw [hl]
          cases hs : sts.getD j .gone with
          | gone => exact absurd hs hne
          | rd ks old => rw [hs] at hk; simpa [LK.occ, recOf, hc] using hk
          | own ks e => rw [hs] at hk; simpa [LK.occ, recOf, hc] using hk
          | obj k ps os => exact absurd hs (hn k ps os)
          | vw k => exact absurd hs (hn2 k).1
          | ov k => exact absurd hs (hn2 k).2
          | fb fs => exact absurd hs (hfb j fs)
          | al x y => exact absurd hs (hal j x y)
        · cases hs : sts.getD j .gone with
          | gone => exact absurd hs hne
          | rd ks old => rw [hs] at hy; cases hy
          | own ks e => rw [hs] at hy; obtain rfl := Option.some.inj hy; exact hc
          | obj k ps os => exact absurd hs (hn k ps os)
          | vw k => exact absurd hs (hn2 k).1
          | ov k => exact absurd hs (hn2 k).2
          | fb fs => exact absurd hs (hfb j fs)
          | al x y => exact absurd hs (hal j x y)
      · exfalso
        have et : (recOf E' avs o).t j = .leaf := by simp [recOf, hc]
        rcases hs with hs | hs | hs
        · rw [hs] at hk
          have hk : k' ∈ fps ((recOf E' avs o).t j) [[]] := hk
          rw [fps_one, et] at hk; cases hk
        · rw [hs] at hk
          have hk : k' ∈ ((recOf E' avs o).t j).fp := hk
          rw [et] at hk; cases hk
        · rw [hs] at hk
          have hk : k' ∈ ((recOf E' avs o).t j).fp := hk
          rw [et] at hk; cases hk
      · have et : (recOf E' avs o).t j = (E'.r c).t i := by simp [recOf, hc, Dat.sub]
        refine ⟨c, i, ?_, .inl ⟨by rw [hl, hs], fun _ y hy => ?_, fun h => absurd rfl h⟩⟩
        · rw [hs] at hk
          rw [hl]
          have hk : k' ∈ fps ((recOf E' avs o).t j) [[]] := hk
          rw [et] at hk; exact hk
        · rw [hs] at hy; obtain rfl := Option.some.inj hy; exact hc
      · have et : (recOf E' avs o).t j = ((E'.r c).t i).sub p := by simp [recOf, hc]
        obtain ⟨_, g2, g3⟩ := readK_ok hl (k0.hr.lst.ok c i)
        refine ⟨c, i, g2 k' ?_, .inr ⟨by rw [hs]; exact .inl trivial, g3, by rw [hs]; exact .inl trivial⟩⟩
        rw [hs] at hk
        have hk : k' ∈ ((recOf E' avs o).t j).fp := hk
        rw [et] at hk; exact hk
      · have et : (recOf E' avs o).t j = ((E'.r c).t i).sub p := by simp [recOf, hc]
        refine ⟨c, i, ?_, .inr ⟨.inr ⟨k, hs⟩, fun ks e q => (by rw [hl] at q; cases q), .inr ⟨ko, hl⟩⟩⟩
        rw [hs] at hk
        have hk : k' ∈ ((recOf E' avs o).t j).fp := hk
        rw [et] at hk
        rw [hl]
        exact Dat.sub_fp hk
    · rw [Env.setR_ne _ _ hb] at hk
      rcases lks b j hb with h | h
      · rw [h] at hk; exact hk.elim
      · exact ⟨b, j, by rw [← h]; exact hk, .inl ⟨h.symm, fun e => absurd e hb, fun _ => ⟨rfl, rfl⟩⟩⟩
  have one : ∀ {b j b' j' c i : Nat} {y : AV}, srcAV (lk hd b j) c i = some y → srcAV (lk hd b' j') c i = some y → (b = id → ∀ y, srcAV (lk hd b j) c i = some y → avs[j]? = some y) → (b' = id → ∀ y, srcAV (lk hd b' j') c i = some y → avs[j']? = some y) → (b ≠ id → c = b ∧ i = j) → (b' ≠ id → c = b' ∧ i = j') → lk hd b j ≠ .gone → lk hd b' j' ≠ .gone → b = b' ∧ j = j' := by
    intro b j b' j' c i y q1 q2 h6 h6' h7 h7' n1 n2
    by_cases hb : b = id <;> by_cases hb' : b' = id
    · have g1 := h6 hb _ q1
      have g2 := h6' hb' _ q2
      rw [hb, lid] at q1
      rw [hb', lid] at q2
      exact ⟨by rw [hb, hb'], srcs_inj s2 q1 g1 q2 g2⟩
    · exfalso
      obtain ⟨rfl, rfl⟩ := h7' hb'
      have g1 := h6 hb _ q1
      rw [hb, lid] at q1
      have := List.all_eq_true.1 s3 _ (srcs_mem q1 g1)
      rw [Bool.or_eq_true, Nat.beq_eq] at this
      have hg := this.resolve_left hb'
      cases hx : lk hd c i <;> first | exact n2 hx | (rw [hx] at hg; cases hg)
    · exfalso
      obtain ⟨rfl, rfl⟩ := h7 hb
      have g2 := h6' hb' _ q2
      rw [hb', lid] at q2
      have := List.all_eq_true.1 s3 _ (srcs_mem q2 g2)
      rw [Bool.or_eq_true, Nat.beq_eq] at this
      have hg := this.resolve_left hb
      cases hx : lk hd c i <;> first | exact n1 hx | (rw [hx] at hg; cases hg)
    · obtain ⟨rfl, rfl⟩ := h7 hb
      obtain ⟨e1, e2⟩ := h7' hb'
      exact ⟨e1, e2⟩
  have hr : HR (E'.setR id (recOf E' avs o)) hd B w := by
    refine ⟨k.hr.low, fun b x hx => ?_, fun b c x y hx hy he => ?_, fun b x hx v hv => ?_, fun b m hm => ?mps, ⟨fun b j => ?_, fun b j k' hk => ?_, fun b j ks e ho' b' j' k' hk hk' => ?_, fun b j ks old ho' k' hk => ?_, fun b j ho' x hx => ?_, fun b j k0 ps os ho' b' j' k' hk hk' => ?_, fun b j k0 ps os ho' q hq => ?_, fun b j x y ho' => ?_, fun b j ko ho' x hx => ?_⟩⟩
    case mps =>
      exfalso
      unfold mget at hm
      split at hm
      · rename_i es n hl
        have hne : b ≠ id := by rintro rfl; rw [hlook] at hl; cases hl
        have := ent b _ hne hl
        cases this
      · cases hm
    · obtain ⟨hne, y, hy, e1, e2, e3⟩ := blk b x hx
      obtain ⟨h4, sp, h5, h6⟩ := k.hr.blk b y hy
      refine ⟨h4, sp, ?_, ?_⟩
      · show w.heap[E'.s b]? = _
        rw [mCs_eq ag hid e3, e1]; exact h5
      · show SpOk x.full x.cells.length sp.length (E'.k b)
        rw [mCs_len e3, e2]; exact h6
    · obtain ⟨_, x', hx', _⟩ := blk b x hx
      obtain ⟨_, y', hy', _⟩ := blk c y hy
      exact k.hr.inj b c x' y' hx' hy' he
    · obtain ⟨_, y, hy, _, _, e3⟩ := blk b x hx
      exact mCs_bd hsub hi e3 v hv
    · by_cases hb : b = id
      · subst hb
        rw [Env.setR_r, lid]
        by_cases hg : sts.getD j .gone = .gone
        · rw [hg]; trivial
        · rcases lsrc j hg with ⟨hz, hn, hn2⟩ | ⟨c, i, hc, ⟨hn, hn2⟩, hl⟩ | ⟨k0, hc, hs⟩ | ⟨k0, c, i, hc, hs, hl⟩ | ⟨k0, c, i, p, hc, hs, hl⟩ | ⟨k0, ko, c, i, p, hc, hs, hl, hkk⟩
          · have el : (recOf E' avs o).l j = [] := by simp [recOf, hz]
            have ea : (recOf E' avs o).a j = none := by simp [recOf, hz]
            have em : (recOf E' avs o).m j = 0 := by simp [recOf, hz]
            cases hs : sts.getD j .gone with
            | gone => trivial
            | rd ks old => exact ⟨fun x hx => by rw [el] at hx; simp at hx, by rw [el]; simp, by rw [em]; exact Nat.zero_le _, fun i u hu => by rw [el] at hu; simp [encL] at hu⟩
            | own ks e =>
              exact ⟨fun x hx => by rw [el] at hx; simp at hx, .inl ⟨el, em⟩⟩
            | obj k ps os => exact absurd hs (hn k ps os)
            | vw k => exact absurd hs (hn2 k).1
            | ov k => exact absurd hs (hn2 k).2
            | fb fs => exact absurd hs (hfb j fs)
            | al x y => exact absurd hs (hal j x y)
          · have el : (recOf E' avs o).l j = (E'.r c).l i := by simp [recOf, hc]
            have ea : (recOf E' avs o).a j = (E'.r c).a i := by simp [recOf, hc]
            have em : (recOf E' avs o).m j = (E'.r c).m i := by simp [recOf, hc]
            have hok := k.hr.lst.ok c i
            rw [hl] at hok
            cases hs : sts.getD j .gone with
            | gone => trivial
            | rd ks old =>
              rw [hs] at hok
              exact ⟨by rw [el]; exact hok.wf, by rw [el, em]; exact hok.cap, by rw [em]; exact hok.max, by rw [el, ea]; exact hok.read⟩
            | own ks e =>
              rw [hs] at hok
              exact ⟨by rw [el]; exact hok.wf, by simp only [Rec.lv, el, ea, em]; exact hok.own⟩
            | obj k ps os => exact absurd hs (hn k ps os)
            | vw k => exact absurd hs (hn2 k).1
            | ov k => exact absurd hs (hn2 k).2
            | fb fs => exact absurd hs (hfb j fs)
            | al x y => exact absurd hs (hal j x y)
          · have et : (recOf E' avs o).t j = .leaf := by simp [recOf, hc]
            rcases hs with hs | hs | hs
            · rw [hs]
              refine ⟨fun p hp => ?_, by rw [fps_one, et]; exact List.nodup_nil⟩
              obtain rfl := List.mem_singleton.1 hp
              rw [et]; trivial
            · rw [hs]
              show ((recOf E' avs o).t j).holds w k0
              rw [et]; trivial
            · rw [hs]
              show ((recOf E' avs o).t j).holds w k0
              rw [et]; trivial
          · have hok := k.hr.lst.ok c i
            rw [hl] at hok
            rw [hs]
            have et : (recOf E' avs o).t j = (E'.r c).t i := by simp [recOf, hc, Dat.sub]
            simp only [LK.ok, et]
            exact hok
          · have et : (recOf E' avs o).t j = ((E'.r c).t i).sub p := by simp [recOf, hc]
            rw [hs]
            show ((recOf E' avs o).t j).holds w k0
            rw [et]
            exact (readK_ok hl (k.hr.lst.ok c i)).1
          · have et : (recOf E' avs o).t j = ((E'.r c).t i).sub p := by simp [recOf, hc]
            have hok := k.hr.lst.ok c i
            rw [hl] at hok
            rw [hs]
            show ((recOf E' avs o).t j).holds w k0
            rw [et, hkk]
            exact Dat.holds.sub p hok
      · rw [Env.setR_ne _ _ hb]
        rcases lks b j hb with h | h
        · rw [h]; trivial
        · rw [h]; exact k.hr.lst.ok b j
    · obtain ⟨c, i, h4, _⟩ := occ0 b j k' hk
      obtain ⟨h5, h6⟩ := k.hr.lst.lt c i k' h4
      refine ⟨h5, fun d x hx he => ?_⟩
      obtain ⟨_, y, hy, _⟩ := blk d x hx
      exact h6 d y hy he
    · obtain ⟨c, i, h4, ⟨h5, h6, h7⟩ | ⟨hv, _⟩⟩ := occ0 b j k' hk
      rotate_left
      · rw [ho'] at hv; rcases hv with hv | ⟨_, hv⟩ <;> cases hv
      obtain ⟨c', i', h4', ⟨h5', h6', h7'⟩ | ⟨_, hv, _⟩⟩ := occ0 b' j' k' hk'
      rotate_left
      · exfalso
        obtain ⟨rfl, rfl⟩ := k.hr.lst.sep c i ks e (h5.trans ho') c' i' k' h4 h4'
        exact hv ks e (h5.trans ho')
      obtain ⟨rfl, rfl⟩ := k.hr.lst.sep c i ks e (h5.trans ho') c' i' k' h4 h4'
      have q1 : srcAV (lk hd b j) c i = some (.ls c i) := by rw [ho']; rfl
      have q2 : srcAV (lk hd b' j') c i = some (.ls c i) := by rw [← h5', h5]; exact q1
      exact one q1 q2 h6 h6' h7 h7' (by rw [ho']; simp) (by rw [← h5', h5, ho']; simp)
    · obtain ⟨c, i, h4, ⟨h5, _, _⟩ | ⟨hv, _⟩⟩ := occ0 b j k' hk
      rotate_left
      · rw [ho'] at hv; rcases hv with hv | ⟨_, hv⟩ <;> cases hv
      rcases k.hr.lst.inn c i ks old (h5.trans ho') k' h4 with h | ⟨h8, h9, h10⟩
      · exact .inl h
      · refine .inr ⟨h8, h00 h9, ?_⟩
        rw [Env.setR_ne _ _ (Ne.symm hid0)]
        exact h10
    · obtain ⟨c, i, h4, ⟨h5, _, _⟩ | ⟨hv, _⟩⟩ := occ0 b j x hx
      · exact k.hr.lst.fre c i (by rw [h5]; exact ho') x h4
      · exfalso
        rcases hv with hv | ⟨_, hv⟩
        · cases hx : lk hd b j <;> rw [hx] at hv ho' <;> first | exact hv | exact ho'
        · rw [hv] at ho'; exact ho'
    · obtain ⟨c, i, h4, ⟨h5, h6, h7⟩ | ⟨hv, _⟩⟩ := occ0 b j k' (by rw [ho']; exact hk)
      rotate_left
      · rw [ho'] at hv; rcases hv with hv | ⟨_, hv⟩ <;> cases hv
      obtain ⟨c', i', h4', ⟨h5', h6', h7'⟩ | ⟨_, _, hv⟩⟩ := occ0 b' j' k' hk'
      rotate_left
      · rcases hv with hv | ⟨k2, hv⟩
        · exact .inr hv
        · exact absurd (k.hr.lst.fre c i (by rw [h5, ho']; trivial) k' h4) (k.hr.lst.old c' i' k2 hv k' h4')
      have h4o : k' ∈ fps ((E'.r c).t i) ps := by rw [h5, ho'] at h4; exact h4
      rcases k.hr.lst.alo c i k0 ps os (h5.trans ho') c' i' k' h4o h4' with ⟨rfl, rfl⟩ | hv
      · have q1 : srcAV (lk hd b j) c i = some (.ob c i []) := by rw [ho']; rfl
        have q2 : srcAV (lk hd b' j') c i = some (.ob c i []) := by rw [← h5', h5]; exact q1
        exact .inl (one q1 q2 h6 h6' h7 h7' (by rw [ho']; simp) (by rw [← h5', h5, ho']; simp))
      · rw [h5'] at hv; exact .inr hv
    · by_cases hb : b = id
      · subst hb
        rw [lid] at ho'
        rcases lsrc j (by rw [ho']; simp) with ⟨_, hn, _⟩ | ⟨_, _, _, ⟨hn, _⟩, _⟩ | ⟨_, _, hs | hs | hs⟩ | ⟨_, _, _, _, hs, _⟩ | ⟨_, _, _, _, _, hs, _⟩ | ⟨_, _, _, _, _, _, hs, _⟩
        · exact absurd ho' (hn _ _ _)
        · exact absurd ho' (hn _ _ _)
        all_goals
          rw [hs] at ho'
          cases ho'
          try cases hq
      · rcases lks b j hb with h | h
        · rw [h] at ho'; cases ho'
        · obtain ⟨g1, g2, _⟩ := k.hr.lst.opn b j k0 ps os (h.symm.trans ho') q hq
          rw [Env.setR_ne _ _ hb]
          exact ⟨g1, g2, hopn b j k0 ps os ho' q hq⟩
    · by_cases hb : b = id
      · subst hb
        rw [lid] at ho'
        exact absurd ho' (hal j x y)
      · rcases lks b j hb with h | h
        · rw [h] at ho'; cases ho'
        · obtain ⟨g1, g2⟩ := hali b j x y ho'
          obtain ⟨_, _, g3⟩ := k.hr.lst.ali b j x y (h.symm.trans ho')
          have agw := ag_setR (without_id id hd) E' (recOf E' avs o)
          exact ⟨bd_sub (without_sub id hd) g1, bd_sub (without_sub id hd) g2, by rw [← cv_ag agw g1, ← cv_ag agw g2]; exact g3⟩
    · obtain ⟨c, i, h4, ⟨h5, _, _⟩ | ⟨_, _, hv | ⟨k2, hv⟩⟩⟩ := occ0 b j x hx
      · exact k.hr.lst.old c i ko (h5.trans ho') x h4
      · rw [ho'] at hv; exact hv.elim
      · exact k.hr.lst.old c i k2 hv x h4
  refine ⟨⟨?_, k.defs, mTs_bd hsub hi h1, hr, hqb, hqd⟩, ⟨ag2, hsub, hr, st.bel⟩⟩
  rw [k.tmps, mTs_eq (o := o) ag hid h1 (fun j y hy => by rw [Nat.zero_add]; exact ho j y hy)]
end Go.Proofs.Ytkepkjahbcddlaa.Sy
