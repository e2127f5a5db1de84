/- part between: objects told by what they are made of; what is eaten. -/
import Derived.Test.YtkepkjahbcddlaaSyObj
namespace Go.Proofs.Ytkepkjahbcddlaa.Sy
open Go Go.RowKit
set_option linter.unusedVariables false
set_option linter.unusedSimpArgs false
set_option linter.unusedSectionVars false
variable [Kinds]
/-! ### A block that is a node -/
def numsOf : List CD → List AV → List Ex
  | .num _ _ :: cs, x :: xs => (match numA x with | some (_, e) => e | none => .n 0) :: numsOf cs xs
  | _ :: cs, _ :: xs => numsOf cs xs
  | _, _ => []
def trusOf : List CD → List AV → List Bx
  | .tru _ :: cs, x :: xs => (match truA x with | some e => e | none => litB false) :: trusOf cs xs
  | _ :: cs, _ :: xs => trusOf cs xs
  | _, _ => []
def kidOf (y : Bool) : List CD → List AV → Option AV
  | .kid z :: cs, x :: xs => bif beqB z y then some x else kidOf y cs xs
  | _ :: cs, _ :: xs => kidOf y cs xs
  | _, _ => none
def isFn (f : Nat) : AV → Bool
  | .fn g [] => Nat.beq f g
  | .val (.func (.func g) ⟨[]⟩ ⟨[]⟩) => Nat.beq f g
  | _ => false
theorem isFn_eq {E : Env} {f : Nat} {x : AV} (h : isFn f x = true) : cv E x = .func (.func f) #[] #[] := by
  unfold isFn at h
  split at h
  · rw [Nat.eq_of_beq_eq_true h]; rfl
  · rw [Nat.eq_of_beq_eq_true h]; rfl
  · cases h
/-- A child; nothing, where there is no such one. -/
def kidN (y : Bool) (cs : List CD) (xs : List AV) : AV := match kidOf y cs xs with
  | some x => x
  | none => .val (.pointer none)
def fit1 (es : List Ex) (xs : List Bx) (l r : AV) : CD → AV → Bool
  | .num k i, x => match numA x, es[i]? with
    | some (k', e), some e' => keq k k' && Ex.eqb e e'
    | _, _ => false
  | .tru i, x => match truA x, xs[i]? with
    | some e, some e' => Bx.eqb e e'
    | _, _ => false
  | .kid y, x => aeq x (bif y then r else l)
  | .fn f, x => isFn f x
def fits (es : List Ex) (xs : List Bx) (l r : AV) : List CD → List AV → Bool
  | [], [] => true
  | c :: cs, y :: ys => fit1 es xs l r c y && fits es xs l r cs ys
  | _, _ => false
theorem fit1_eq {E : Env} {es : List Ex} {xs : List Bx} {l r : AV} {g : Nat} {L R : Dat} (hl : cv E l = .pointer L.addr) (hr : cv E r = .pointer R.addr) {c : CD} {x : AV} (h : fit1 es xs l r c x = true) :
    cv E x = c.val (.nd g (es.map (Ex.den E)) (xs.map (Bx.den E)) L R) := by
  cases c with
  | num k i =>
    simp only [fit1] at h
    split at h
    · rename_i k' e e' hn he
      rw [Bool.and_eq_true] at h
      have h1 := keq_eq h.1
      have h2 := Ex.eqb_eq h.2
      subst h1; subst h2
      simp only [CD.val, Dat.num, List.getD_eq_getElem?_getD, List.getElem?_map, he, Option.map_some, Option.getD_some]
      exact numA_eq hn E
    · cases h
  | tru i =>
    simp only [fit1] at h
    split at h
    · rename_i e e' hn he
      have h2 := Bx.eqb_eq h
      subst h2
      simp only [CD.val, Dat.tru, List.getD_eq_getElem?_getD, List.getElem?_map, he, Option.map_some, Option.getD_some]
      exact truA_eq hn E
    · cases h
  | kid y =>
    simp only [fit1] at h
    rw [aeq_eq h]
    cases y
    · exact hl
    · exact hr
  | fn f => exact isFn_eq h
theorem fits_eq {E : Env} {es : List Ex} {xs : List Bx} {l r : AV} {g : Nat} {L R : Dat} (hl : cv E l = .pointer L.addr) (hr : cv E r = .pointer R.addr) : ∀ {cs : List CD} {ys : List AV}, fits es xs l r cs ys = true → ys.map (cv E) = cs.map (CD.val (.nd g (es.map (Ex.den E)) (xs.map (Bx.den E)) L R))
  | [], [], _ => rfl
  | c :: cs, y :: ys, h => by
    simp only [fits, Bool.and_eq_true] at h
    rw [List.map_cons, List.map_cons, fit1_eq hl hr h.1, fits_eq hl hr h.2]
  | [], _ :: _, h => by simp [fits] at h
  | _ :: _, [], h => by simp [fits] at h
theorem numsOf_bd {h : H} : ∀ {cs : List CD} {ys : List AV}, (∀ y ∈ ys, bd h y = true) → ∀ e ∈ numsOf cs ys, e.bd h = true
  | [], ys, _, e, he => by cases ys <;> simp [numsOf] at he
  | c :: cs, [], _, e, he => by cases c <;> simp [numsOf] at he
  | .num k i :: cs, y :: ys, hb, e, he => by
    simp only [numsOf, List.mem_cons] at he
    rcases he with rfl | he
    · split
      · rename_i k' e' hn; exact numA_bd hn (hb y (by simp))
      · rfl
    · exact numsOf_bd (fun z hz => hb z (by simp [hz])) e he
  | .tru i :: cs, y :: ys, hb, e, he => numsOf_bd (cs := cs) (ys := ys) (fun z hz => hb z (by simp [hz])) e he
  | .kid z :: cs, y :: ys, hb, e, he => numsOf_bd (cs := cs) (ys := ys) (fun z hz => hb z (by simp [hz])) e he
  | .fn f :: cs, y :: ys, hb, e, he => numsOf_bd (cs := cs) (ys := ys) (fun z hz => hb z (by simp [hz])) e he
theorem trusOf_bd {h : H} : ∀ {cs : List CD} {ys : List AV}, (∀ y ∈ ys, bd h y = true) → ∀ e ∈ trusOf cs ys, e.bd h = true
  | [], ys, _, e, he => by cases ys <;> simp [trusOf] at he
  | c :: cs, [], _, e, he => by cases c <;> simp [trusOf] at he
  | .tru i :: cs, y :: ys, hb, e, he => by
    simp only [trusOf, List.mem_cons] at he
    rcases he with rfl | he
    · split
      · rename_i e' hn; exact truA_bd hn (hb y (by simp))
      · exact litB_bd h _
    · exact trusOf_bd (fun z hz => hb z (by simp [hz])) e he
  | .num k i :: cs, y :: ys, hb, e, he => trusOf_bd (cs := cs) (ys := ys) (fun z hz => hb z (by simp [hz])) e he
  | .kid z :: cs, y :: ys, hb, e, he => trusOf_bd (cs := cs) (ys := ys) (fun z hz => hb z (by simp [hz])) e he
  | .fn f :: cs, y :: ys, hb, e, he => trusOf_bd (cs := cs) (ys := ys) (fun z hz => hb z (by simp [hz])) e he
theorem kidOf_bd {h : H} {y : Bool} : ∀ {cs : List CD} {ys : List AV} {x : AV}, (∀ z ∈ ys, bd h z = true) → kidOf y cs ys = some x → bd h x = true
  | [], ys, x, _, he => by cases ys <;> simp [kidOf] at he
  | c :: cs, [], x, _, he => by cases c <;> simp [kidOf] at he
  | .kid z :: cs, a :: ys, x, hb, he => by
    simp only [kidOf] at he
    cases hz : beqB z y with
    | true => rw [hz, cond_true, Option.some.injEq] at he; subst he; exact hb _ (by simp)
    | false => rw [hz, cond_false] at he; exact kidOf_bd (fun z hz => hb z (by simp [hz])) he
  | .num k i :: cs, a :: ys, x, hb, he => kidOf_bd (cs := cs) (ys := ys) (fun z hz => hb z (by simp [hz])) he
  | .tru i :: cs, a :: ys, x, hb, he => kidOf_bd (cs := cs) (ys := ys) (fun z hz => hb z (by simp [hz])) he
  | .fn f :: cs, a :: ys, x, hb, he => kidOf_bd (cs := cs) (ys := ys) (fun z hz => hb z (by simp [hz])) he
theorem kidN_bd {h : H} {y : Bool} {cs : List CD} {ys : List AV} (hb : ∀ z ∈ ys, bd h z = true) : bd h (kidN y cs ys) = true := by
  unfold kidN
  split
  · rename_i x hx; exact kidOf_bd hb hx
  · rfl
/-- An object, told by what it is made of. -/
def objOf (h : H) (k : Nat) : Nat → AV → Option DE
  | 0, _ => none
  | n + 1, x => match x with
    | .val (.pointer none) => some .nil
    | .ob b j p => match lk h b j with
      | .obj kd ps _ => bif Nat.beq (kat kd p) k && ps.any (fun a => pthq a p) then some (.at b j p) else none
      | _ => none
    | .ptr id 0 => match hget h id with
      | some y => match objOf h (Kinds.kid k false) n (kidN false (Kinds.lay k).cells y.cells), objOf h (Kinds.kid k true) n (kidN true (Kinds.lay k).cells y.cells) with
        | some L, some R => bif Nat.beq y.elem (Kinds.lay k).elem && oeqN y.full none && fits (numsOf (Kinds.lay k).cells y.cells) (trusOf (Kinds.lay k).cells y.cells) (kidN false (Kinds.lay k).cells y.cells) (kidN true (Kinds.lay k).cells y.cells) (Kinds.lay k).cells y.cells then
              some (.nd id (numsOf (Kinds.lay k).cells y.cells) (trusOf (Kinds.lay k).cells y.cells) L R) else none
        | _, _ => none
      | none => none
    | _ => none
/-- What it is made of. -/
inductive Rs where
  | at (b j : Nat) (p : List Bool)
  | nd (id : Nat)
  | ls (b j : Nat)
/-- The block of an own list. -/
def ownFp (r : Rec) (j : Nat) : List Nat := match r.m j, r.a j with
  | 0, _ => []
  | _, none => []
  | _, some A => [A.block]
theorem ownFp_occ {r : Rec} {j n : Nat} {ks : List CK} {e : Nat} : n ∈ ownFp r j ↔ (LK.own ks e).occ r j n := by
  show _ ↔ r.m j ≠ 0 ∧ (r.a j).map (·.block) = some n
  unfold ownFp
  split
  · rename_i h1; simp [h1]
  · rename_i h1 h2; simp [h1]
  · rename_i A h1 h2
    simp only [h1, Option.map_some, Option.some.injEq, List.mem_singleton]
    exact ⟨fun e => ⟨fun q => h2 q, e.symm⟩, fun e => e.2.symm⟩
theorem ownFp_nodup (r : Rec) (j : Nat) : (ownFp r j).Nodup := by
  unfold ownFp
  split <;> simp
def rsOf : DE → List Rs
  | .at b j p => [.at b j p]
  | .nil => []
  | .nd id _ _ l r => .nd id :: (rsOf l ++ rsOf r)
def Rs.fp (E : Env) : Rs → List Nat
  | .at b j p => (((E.r b).t j).sub p).fp
  | .nd id => [E.s id]
  | .ls b j => ownFp (E.r b) j
def Rs.ok (h : H) : Rs → Prop
  | .at b j p => ∃ k ps os, lk h b j = .obj k ps os ∧ p ∈ ps
  | .nd id => ∃ x, hget h id = some x
  | .ls b j => ∃ ks e, lk h b j = .own ks e
theorem rsOf_fp (E : Env) : ∀ d : DE, (d.den E).fp = (rsOf d).flatMap (Rs.fp E)
  | .at b j p => by simp [rsOf, DE.den, Rs.fp]
  | .nil => rfl
  | .nd id es xs l r => by
    simp only [rsOf, DE.den, Dat.fp, List.flatMap_cons, List.flatMap_append, Rs.fp, rsOf_fp E l, rsOf_fp E r, List.singleton_append]
theorem objOf_ok {E : Env} {h : H} {B : Bd} {w : World} (r : HR E h B w) : ∀ {n : Nat} {k : Nat} {x : AV} {d : DE}, objOf h k n x = some d → (d.den E).holds w k ∧ cv E x = .pointer (d.den E).addr ∧ (∀ s ∈ rsOf d, s.ok h) ∧ (bd h x = true → d.bd h = true)
  | 0, k, x, d, hd => by simp [objOf] at hd
  | n + 1, k, x, d, hd => by
    simp only [objOf] at hd
    split at hd
    · obtain rfl := Option.some.inj hd
      exact ⟨trivial, rfl, fun s hs => (by cases hs), fun _ => rfl⟩
    · rename_i b j p
      split at hd
      · rename_i kd ps os hl
        cases hc : (Nat.beq (kat kd p) k && ps.any (fun a => pthq a p)) with
        | false => rw [hc] at hd; cases hd
        | true =>
          rw [hc, cond_true, Option.some.injEq] at hd
          subst hd
          simp only [Bool.and_eq_true, Nat.beq_eq] at hc
          obtain ⟨a, ha, e⟩ := List.any_eq_true.1 hc.2
          have e := pthq_eq e
          subst e
          have ok := r.lst.ok b j
          rw [hl] at ok
          refine ⟨?_, rfl, fun s hs => ?_, fun hb => hb⟩
          · rw [← hc.1]; exact ok.1 a ha
          · obtain rfl := List.mem_singleton.1 hs
            exact ⟨kd, ps, os, hl, ha⟩
      · cases hd
    · rename_i id
      split at hd
      · rename_i y hy
        split at hd
        · rename_i L R h3 h4
          cases hc : (Nat.beq y.elem (Kinds.lay k).elem && oeqN y.full none && fits (numsOf (Kinds.lay k).cells y.cells) (trusOf (Kinds.lay k).cells y.cells) (kidN false (Kinds.lay k).cells y.cells) (kidN true (Kinds.lay k).cells y.cells) (Kinds.lay k).cells y.cells) with
          | false => rw [hc] at hd; cases hd
          | true =>
            rw [hc, cond_true, Option.some.injEq] at hd
            subst hd
            simp only [Bool.and_eq_true, Nat.beq_eq] at hc
            obtain ⟨⟨c1, c2⟩, c3⟩ := hc
            have bc := r.bnd id y hy
            obtain ⟨l1, l2, l3, l4⟩ := objOf_ok r h3
            obtain ⟨r1, r2, r3, r4⟩ := objOf_ok r h4
            have l4 := l4 (kidN_bd bc)
            have r4 := r4 (kidN_bd bc)
            obtain ⟨_, sp, hh, hs⟩ := r.blk id y hy
            rw [oeqN_eq c2] at hs
            have hsp : sp = [] := List.eq_nil_of_length_eq_zero hs
            subst hsp
            refine ⟨⟨?_, l1, r1⟩, rfl, fun s hs => ?_, fun _ => ?_⟩
            · show w.heap[E.s id]? = _
              rw [hh, c1, List.append_nil, fits_eq (g := E.s id) l2 r2 c3]
            · simp only [rsOf, List.mem_cons, List.mem_append] at hs
              rcases hs with rfl | hs | hs
              · exact ⟨y, hy⟩
              · exact l3 s hs
              · exact r3 s hs
            · simp only [DE.bd, Bool.and_eq_true, List.all_eq_true]
              exact ⟨⟨⟨⟨has_of_get hy, numsOf_bd bc⟩, trusOf_bd bc⟩, l4⟩, r4⟩
        · cases hd
      · cases hd
    · cases hd
/-! ### Parts that are not one another share nothing -/
def rseq : Rs → Rs → Bool
  | .at b j p, .at c i q => Nat.beq b c && Nat.beq j i && pthq p q
  | .nd a, .nd b => Nat.beq a b
  | .ls b j, .ls c i => Nat.beq b c && Nat.beq j i
  | _, _ => false
theorem pthq_refl : ∀ p : List Bool, pthq p p = true
  | [] => rfl
  | true :: p => pthq_refl p
  | false :: p => pthq_refl p
theorem rseq_refl (a : Rs) : rseq a a = true := by
  cases a with
  | «at» b j p => simp [rseq, pthq_refl]
  | nd a => simp [rseq]
  | ls b j => simp [rseq]
theorem flat_nodup {α β : Type} {f : α → List β} : ∀ {l : List α}, (l.flatMap f).Nodup → ∀ x ∈ l, (f x).Nodup ∧ ∀ y ∈ l, x ≠ y → ∀ n ∈ f x, n ∉ f y
  | [], _, x, hx => by cases hx
  | a :: l, h, x, hx => by
    rw [List.flatMap_cons, List.nodup_append] at h
    obtain ⟨h1, h2, h3⟩ := h
    have ih := flat_nodup h2
    have cross : ∀ y ∈ l, ∀ n ∈ f a, n ∉ f y := fun y hy n hn hn' => h3 n hn n (List.mem_flatMap.2 ⟨y, hy, hn'⟩) rfl
    rcases List.mem_cons.1 hx with rfl | hx2
    · refine ⟨h1, fun y hy hne n hn => ?_⟩
      rcases List.mem_cons.1 hy with rfl | hy
      · exact absurd rfl hne
      · exact cross y hy n hn
    · refine ⟨(ih x hx2).1, fun y hy hne n hn hn' => ?_⟩
      rcases List.mem_cons.1 hy with e | hy
      · subst e; exact cross x hx2 n hn' hn
      · exact (ih x hx2).2 y hy hne n hn hn'
theorem Rs.sep {E : Env} {h : H} {B : Bd} {w : World} (r : HR E h B w) {a c : Rs} (ha : a.ok h) (hc : c.ok h) (hne : a ≠ c) : ∀ n ∈ a.fp E, n ∉ c.fp E := by
  intro n hn hn'
  cases a with
  | «at» b j p =>
    obtain ⟨k, ps, os, hl, hp⟩ := ha
    have ho : n ∈ fps ((E.r b).t j) ps := List.mem_flatMap.2 ⟨p, hp, hn⟩
    cases c with
    | «at» b' j' p' =>
      obtain ⟨k', ps', os', hl', hp'⟩ := hc
      have ho' : (lk h b' j').occ (E.r b') j' n := by rw [hl']; exact List.mem_flatMap.2 ⟨p', hp', hn'⟩
      rcases r.lst.alo b j k ps os hl b' j' n ho ho' with ⟨rfl, rfl⟩ | hv
      · rw [hl] at hl'
        obtain ⟨_, rfl, _⟩ := LK.obj.inj hl'
        have ok := r.lst.ok b j
        rw [hl] at ok
        exact (flat_nodup ok.2 p hp).2 p' hp' (fun e => hne (by rw [e])) n hn hn'
      · rw [hl'] at hv; exact hv
    | nd id =>
      obtain ⟨x, hx⟩ := hc
      have e : n = E.s id := List.mem_singleton.1 hn'
      exact (r.lst.lt b j n (by rw [hl]; exact ho)).2 id x hx e.symm
    | ls b' j' =>
      obtain ⟨ks, e, hl'⟩ := hc
      have ho' : (lk h b' j').occ (E.r b') j' n := by rw [hl']; exact ownFp_occ.1 hn'
      obtain ⟨rfl, rfl⟩ := r.lst.sep b' j' ks e hl' b j n ho' (by rw [hl]; exact ho)
      rw [hl] at hl'; cases hl'
  | ls b j =>
    obtain ⟨ks, e, hl⟩ := ha
    have ho : (lk h b j).occ (E.r b) j n := by rw [hl]; exact ownFp_occ.1 hn
    cases c with
    | «at» b' j' p' =>
      obtain ⟨k', ps', os', hl', hp'⟩ := hc
      have ho' : (lk h b' j').occ (E.r b') j' n := by rw [hl']; exact List.mem_flatMap.2 ⟨p', hp', hn'⟩
      obtain ⟨rfl, rfl⟩ := r.lst.sep b j ks e hl b' j' n ho ho'
      rw [hl] at hl'; cases hl'
    | nd id =>
      obtain ⟨x, hx⟩ := hc
      have e' : n = E.s id := List.mem_singleton.1 hn'
      exact (r.lst.lt b j n ho).2 id x hx e'.symm
    | ls b' j' =>
      obtain ⟨ks', e', hl'⟩ := hc
      have ho' : (lk h b' j').occ (E.r b') j' n := by rw [hl']; exact ownFp_occ.1 hn'
      obtain ⟨rfl, rfl⟩ := r.lst.sep b j ks e hl b' j' n ho ho'
      exact hne rfl
  | nd id =>
    obtain ⟨x, hx⟩ := ha
    have e : n = E.s id := List.mem_singleton.1 hn
    cases c with
    | «at» b j p =>
      obtain ⟨k, ps, os, hl, hp⟩ := hc
      exact (r.lst.lt b j n (by rw [hl]; exact List.mem_flatMap.2 ⟨p, hp, hn'⟩)).2 id x hx e.symm
    | nd id' =>
      obtain ⟨y, hy⟩ := hc
      have e' : n = E.s id' := List.mem_singleton.1 hn'
      exact hne (by rw [r.inj id id' x y hx hy (e.symm.trans e')])
    | ls b' j' =>
      obtain ⟨ks', e', hl'⟩ := hc
      have ho' : (lk h b' j').occ (E.r b') j' n := by rw [hl']; exact ownFp_occ.1 hn'
      exact (r.lst.lt b' j' n ho').2 id x hx e.symm
theorem Rs.nodup {E : Env} {h : H} {B : Bd} {w : World} (r : HR E h B w) {a : Rs} (ha : a.ok h) : (a.fp E).Nodup := by
  cases a with
  | «at» b j p =>
    obtain ⟨k, ps, os, hl, hp⟩ := ha
    have ok := r.lst.ok b j
    rw [hl] at ok
    exact (flat_nodup ok.2 p hp).1
  | nd id => simp [Rs.fp]
  | ls b j => exact ownFp_nodup _ _
def apartR : List Rs → Bool
  | [] => true
  | a :: l => !(l.any (rseq a)) && apartR l
theorem rs_nodup {E : Env} {h : H} {B : Bd} {w : World} (r : HR E h B w) : ∀ {l : List Rs}, apartR l = true → (∀ a ∈ l, a.ok h) → (l.flatMap (Rs.fp E)).Nodup
  | [], _, _ => List.nodup_nil
  | a :: l, hl, ho => by
    simp only [apartR, Bool.and_eq_true, Bool.not_eq_true'] at hl
    rw [List.flatMap_cons, List.nodup_append]
    refine ⟨Rs.nodup r (ho a (by simp)), rs_nodup r hl.2 (fun x hx => ho x (by simp [hx])), fun n hn m hm e => ?_⟩
    subst e
    obtain ⟨c, hc, hm⟩ := List.mem_flatMap.1 hm
    refine Rs.sep r (ho a (by simp)) (ho c (by simp [hc])) (fun e => ?_) n hn hm
    subst e
    have := List.any_eq_false.1 hl.1 a hc
    exact this (rseq_refl a)
/-! ### Less is known -/
structure Less (h h' : H) : Prop where
  get : ∀ c x, hget h' c = some x → hget h c = some x
  mget : ∀ c m, mget h' c = some m → mget h c = some m
  has : ∀ c, has h' c = has h c
  lk : ∀ c i, lk h' c i = lk h c i ∨ lk h' c i = .gone ∨ ∃ k ps os ps', lk h c i = .obj k ps os ∧ lk h' c i = .obj k ps' os ∧ ps'.Sublist ps
theorem fps_sub {d : Dat} {ps ps' : List (List Bool)} (s : ps'.Sublist ps) : (fps d ps').Sublist (fps d ps) := by
  induction s with
  | slnil => exact List.Sublist.refl _
  | cons a s ih => rw [fps_cons]; exact ih.trans (List.sublist_append_right _ _)
  | cons_cons a s ih => rw [fps_cons, fps_cons]; exact List.Sublist.append (List.Sublist.refl _) ih
theorem Less.occ {h h' : H} (l : Less h h') {r : Rec} {c i n : Nat} (ho : (Sy.lk h' c i).occ r i n) : (Sy.lk h c i).occ r i n := by
  rcases l.lk c i with e | e | ⟨k, ps, os, ps', e1, e2, e3⟩
  · rw [e] at ho; exact ho
  · rw [e] at ho; exact ho.elim
  · rw [e2] at ho
    rw [e1]
    exact (fps_sub e3).subset ho
theorem Less.hr {E : Env} {h h' : H} {B : Bd} {w : World} (l : Less h h') (r : HR E h B w) : HR E h' B w := by
  have obj : ∀ {c i k ps os}, Sy.lk h' c i = .obj k ps os → ∃ ps0, Sy.lk h c i = .obj k ps0 os ∧ ps.Sublist ps0 := by
    intro c i k ps os e
    rcases l.lk c i with e' | e' | ⟨k', ps0, os', ps', e1, e2, e3⟩
    · exact ⟨ps, by rw [← e', e], List.Sublist.refl _⟩
    · rw [e'] at e; cases e
    · rw [e2] at e
      obtain ⟨rfl, rfl, rfl⟩ := LK.obj.inj e
      exact ⟨ps0, e1, e3⟩
  have same : ∀ {c i}, (∀ k ps os, Sy.lk h' c i ≠ .obj k ps os) → Sy.lk h' c i ≠ .gone → Sy.lk h c i = Sy.lk h' c i := by
    intro c i n1 n2
    rcases l.lk c i with e' | e' | ⟨k', ps0, os', ps', e1, e2, e3⟩
    · exact e'.symm
    · exact absurd e' n2
    · exact absurd e2 (n1 _ _ _)
  refine ⟨r.low, fun c x hx => r.blk c x (l.get c x hx), fun c d x y hx hy he => r.inj c d x y (l.get c x hx) (l.get d y hy) he, fun c x hx v hv => bd_sub (fun b hb => by rw [l.has]; exact hb) (r.bnd c x (l.get c x hx) v hv), fun c m hm => r.mps c m (l.mget c m hm), ⟨fun c i => ?_, fun c i n ho => ?_, fun c i ks e ho c' i' n hn hn' => ?_, fun c i ks old ho n hn => ?_, fun c i ho x hx => ?_, fun c i k ps os ho c' i' x hx hx' => ?_, fun c i k ps os ho q hq => ?_, fun c i x y ho => ?_, fun c i k ho x hx => ?_⟩⟩
  · rcases l.lk c i with e' | e' | ⟨k', ps0, os', ps', e1, e2, e3⟩
    · rw [e']; exact r.lst.ok c i
    · rw [e']; trivial
    · have ok := r.lst.ok c i
      rw [e1] at ok
      rw [e2]
      exact ⟨fun p hp => ok.1 p (e3.subset hp), ok.2.sublist (fps_sub e3)⟩
  · have h1 := r.lst.lt c i n (l.occ ho)
    exact ⟨h1.1, fun d x hx => h1.2 d x (l.get d x hx)⟩
  · exact r.lst.sep c i ks e ((same (by rw [ho]; simp) (by rw [ho]; simp)).trans ho) c' i' n (l.occ hn) (l.occ hn')
  · rcases r.lst.inn c i ks old ((same (by rw [ho]; simp) (by rw [ho]; simp)).trans ho) n (l.occ hn) with h1 | ⟨h1, h2, h3⟩
    · exact .inl h1
    · exact .inr ⟨h1, by rw [l.has]; exact h2, h3⟩
  · have h1 := l.occ hx
    refine r.lst.fre c i ?_ x h1
    rcases l.lk c i with e' | e' | ⟨k', ps0, os', ps', e1, e2, e3⟩
    · rw [← e']; exact ho
    · rw [e'] at ho; exact ho.elim
    · rw [e1]; trivial
  · obtain ⟨ps0, e1, e2⟩ := obj ho
    rcases r.lst.alo c i k ps0 os e1 c' i' x ((fps_sub e2).subset hx) (l.occ hx') with h1 | h1
    · exact .inl h1
    · right
      rcases l.lk c' i' with e' | e' | ⟨k', ps1, os', ps', e3, e4, e5⟩
      · rw [e']; exact h1
      · rw [e'] at hx'; exact hx'.elim
      · rw [e3] at h1; exact h1.elim
  · obtain ⟨ps0, e1, e2⟩ := obj ho
    obtain ⟨h1, h2, h3⟩ := r.lst.opn c i k ps0 os e1 q hq
    exact ⟨h1, h2, by rw [l.has]; exact h3⟩
  · obtain ⟨h1, h2, h3⟩ := r.lst.ali c i x y ((same (by rw [ho]; simp) (by rw [ho]; simp)).trans ho)
    have sub : Sub h h' := fun b hb => by rw [l.has]; exact hb
    exact ⟨bd_sub sub h1, bd_sub sub h2, h3⟩
  · exact r.lst.old c i k ((same (by rw [ho]; simp) (by rw [ho]; simp)).trans ho) x (l.occ hx)
theorem Less.trans {a b c : H} (x : Less a b) (y : Less b c) : Less a c :=
  ⟨fun n z hz => x.get n z (y.get n z hz), fun n m hm => x.mget n m (y.mget n m hm), fun n => (y.has n).trans (x.has n), fun n i => by
    rcases y.lk n i with e | e | ⟨k, ps, os, ps', e1, e2, e3⟩
    · rw [e]; exact x.lk n i
    · exact .inr (.inl e)
    · rcases x.lk n i with f | f | ⟨k', qs, os', qs', f1, f2, f3⟩
      · exact .inr (.inr ⟨k, ps, os, ps', by rw [← f, e1], e2, e3⟩)
      · rw [f] at e1; cases e1
      · rw [f2] at e1
        obtain ⟨rfl, rfl, rfl⟩ := LK.obj.inj e1
        exact .inr (.inr ⟨k', qs, os', ps', f1, e2, e3.trans f3⟩)⟩
theorem Less.refl (h : H) : Less h h := ⟨fun _ _ h => h, fun _ _ h => h, fun _ => rfl, fun _ _ => .inl rfl⟩
theorem less_dropVw (h : H) : Less h (dropVw h) :=
  ⟨fun c x hx => by rw [dropVw_get] at hx; exact hx, fun c m hm => by rw [dropVw_mget] at hm; exact hm, fun c => dropVw_has h c, fun c i => by
    rw [dropVw_lk]
    cases lk h c i with
    | vw k => exact .inr (.inl rfl)
    | _ => exact .inl rfl⟩
def erase1 (p : List Bool) : List (List Bool) → List (List Bool)
  | [] => []
  | a :: r => bif pthq a p then r else a :: erase1 p r
theorem erase1_sub (p : List Bool) : ∀ ps : List (List Bool), (erase1 p ps).Sublist ps
  | [] => List.Sublist.refl _
  | a :: r => by
    simp only [erase1]
    cases pthq a p with
    | true => exact List.sublist_cons_self _ _
    | false => exact (erase1_sub p r).cons_cons _
theorem erase1_mem {p q : List Bool} (hne : q ≠ p) : ∀ {ps : List (List Bool)}, q ∈ ps → q ∈ erase1 p ps
  | [], h => by cases h
  | a :: r, h => by
    simp only [erase1]
    cases hc : pthq a p with
    | true =>
      rcases List.mem_cons.1 h with rfl | h
      · exact absurd (pthq_eq hc) hne
      · exact h
    | false =>
      rcases List.mem_cons.1 h with rfl | h
      · exact List.mem_cons_self
      · exact List.mem_cons_of_mem _ (erase1_mem hne h)
theorem erase1_fps {d : Dat} {p : List Bool} : ∀ {ps : List (List Bool)}, p ∈ ps → (fps d ps).Nodup → ∀ n ∈ (d.sub p).fp, n ∉ fps d (erase1 p ps)
  | [], h, _, _, _ => by cases h
  | a :: r, h, hn, n, hm => by
    rw [fps_cons, List.nodup_append] at hn
    obtain ⟨h1, h2, h3⟩ := hn
    simp only [erase1]
    cases hc : pthq a p with
    | true =>
      have e := pthq_eq hc
      subst e
      exact fun hm' => h3 n hm n hm' rfl
    | false =>
      have hp : p ∈ r := by
        rcases List.mem_cons.1 h with rfl | h
        · rw [pthq_refl] at hc; cases hc
        · exact h
      rw [cond_false, fps_cons, List.mem_append]
      rintro (h4 | h4)
      · exact h3 n h4 n (List.mem_flatMap.2 ⟨p, hp, hm⟩) rfl
      · exact erase1_fps hp h2 n hm h4
def eat1 (h : H) : Rs → H
  | .at b j p => match lk h b j with
    | .obj k ps os => setLk h b j (.obj k (erase1 p ps) os)
    | _ => h
  | .nd id => match hget h id with
    | some _ => hput h id .dead
    | none => h
  | .ls b j => match lk h b j with
    | .own _ _ => setLk h b j .gone
    | _ => h
theorem less_eat1 (h : H) (a : Rs) : Less h (eat1 h a) := by
  cases a with
  | «at» b j p =>
    simp only [eat1]
    split
    · rename_i k ps os hl
      refine ⟨fun c x hx => by rw [setLk_get] at hx; exact hx, fun c m hm => by rw [setLk_mget] at hm; exact hm, fun c => setLk_has _ _ _ _ _, fun c i => ?_⟩
      by_cases e : c = b ∧ i = j
      · obtain ⟨rfl, rfl⟩ := e
        exact .inr (.inr ⟨k, ps, os, erase1 p ps, hl, setLk_same (by rw [hl]; simp), erase1_sub p ps⟩)
      · exact .inl (setLk_ne e)
    · exact Less.refl h
  | nd id =>
    simp only [eat1]
    split
    · rename_i x hx
      refine ⟨fun c y hy => ?_, fun c m hm => (mget_put (fun es n => by simp) hm).2, fun c => ?_, fun c i => lk_put_dead h id c i |>.elim .inl (fun e => .inr (.inl e))⟩
      · by_cases e : id = c
        · subst e; rw [hget_dead] at hy; cases hy
        · rw [hget_ne _ e] at hy; exact hy
      · rw [has_put]
        by_cases e : id = c
        · subst e; rw [has_of_get hx]; simp
        · simp [e]
    · exact Less.refl h
  | ls b j =>
    simp only [eat1]
    split
    · rename_i ks e hl
      refine ⟨fun c x hx => by rw [setLk_get] at hx; exact hx, fun c m hm => by rw [setLk_mget] at hm; exact hm, fun c => setLk_has _ _ _ _ _, fun c i => ?_⟩
      by_cases e : c = b ∧ i = j
      · obtain ⟨rfl, rfl⟩ := e
        exact .inr (.inl (setLk_same (by rw [hl]; simp)))
      · exact .inl (setLk_ne e)
    · exact Less.refl h
/-- Nothing that is known is there. -/
def Free (E : Env) (h : H) (n : Nat) : Prop := (∀ c x, hget h c = some x → E.s c ≠ n) ∧ ∀ c i, ¬ (lk h c i).occ (E.r c) i n
theorem Free.less {E : Env} {h h' : H} {n : Nat} (l : Less h h') (f : Free E h n) : Free E h' n :=
  ⟨fun c x hx => f.1 c x (l.get c x hx), fun c i ho => f.2 c i (l.occ ho)⟩
def NoVw (h : H) : Prop := ∀ b j, ¬ (lk h b j).isVw
theorem NoVw.less {h h' : H} (l : Less h h') (n : NoVw h) : NoVw h' := fun b j hv => by
  rcases l.lk b j with e | e | ⟨k, ps, os, ps', _, e2, _⟩
  · rw [e] at hv; exact n b j hv
  · rw [e] at hv; exact hv
  · rw [e2] at hv; exact hv
theorem noVw_drop (h : H) : NoVw (dropVw h) := fun b j hv => by
  rw [dropVw_lk] at hv
  cases hx : lk h b j <;> rw [hx] at hv <;> exact hv
def Rs.isLs : Rs → Bool
  | .ls _ _ => true
  | _ => false
theorem eat1_free {E : Env} {h : H} {B : Bd} {w : World} (r : HR E h B w) {a : Rs} (nv : a.isLs = false → NoVw h) (ha : a.ok h) : ∀ n ∈ a.fp E, Free E (eat1 h a) n := by
  intro n hn
  have l := less_eat1 h a
  cases a with
  | «at» b j p =>
    obtain ⟨k, ps, os, hl, hp⟩ := ha
    have hn0 : n ∈ fps ((E.r b).t j) ps := List.mem_flatMap.2 ⟨p, hp, hn⟩
    have ok := r.lst.ok b j
    rw [hl] at ok
    refine ⟨fun c x hx => (r.lst.lt b j n (by rw [hl]; exact hn0)).2 c x (l.get c x hx), fun c i ho => ?_⟩
    rcases r.lst.alo b j k ps os hl c i n hn0 (l.occ ho) with ⟨rfl, rfl⟩ | hv
    · simp only [eat1, hl] at ho
      rw [setLk_same (by rw [hl]; simp)] at ho
      exact erase1_fps hp ok.2 n hn ho
    · exact nv rfl c i hv
  | ls b j =>
    obtain ⟨ks, e, hl⟩ := ha
    have ho0 : (lk h b j).occ (E.r b) j n := by rw [hl]; exact ownFp_occ.1 hn
    refine ⟨fun c x hx => (r.lst.lt b j n ho0).2 c x (l.get c x hx), fun c i ho => ?_⟩
    obtain ⟨rfl, rfl⟩ := r.lst.sep b j ks e hl c i n ho0 (l.occ ho)
    simp only [eat1, hl] at ho
    rw [setLk_same (by rw [hl]; simp)] at ho
    exact ho
  | nd id =>
    obtain ⟨x, hx⟩ := ha
    have e : n = E.s id := List.mem_singleton.1 hn
    subst e
    refine ⟨fun c y hy he => ?_, fun c i ho => (r.lst.lt c i _ (l.occ ho)).2 id x hx rfl⟩
    have h1 := r.inj c id y x (l.get c y hy) hx he
    subst h1
    simp only [eat1, hx] at hy
    rw [hget_dead] at hy; cases hy
theorem eat1_ok {h : H} {a c : Rs} (hne : a ≠ c) (hc : c.ok h) : c.ok (eat1 h a) := by
  cases a with
  | «at» b j p =>
    simp only [eat1]
    split
    · rename_i k ps os hl
      cases c with
      | «at» b' j' p' =>
        obtain ⟨k', ps', os', hl', hp'⟩ := hc
        by_cases e : b' = b ∧ j' = j
        · obtain ⟨rfl, rfl⟩ := e
          rw [hl] at hl'
          obtain ⟨rfl, rfl, rfl⟩ := LK.obj.inj hl'
          exact ⟨k, _, os, setLk_same (by rw [hl]; simp), erase1_mem (fun e => hne (by rw [e])) hp'⟩
        · exact ⟨k', ps', os', (setLk_ne e).trans hl', hp'⟩
      | nd id =>
        obtain ⟨x, hx⟩ := hc
        exact ⟨x, by rw [setLk_get]; exact hx⟩
      | ls b' j' =>
        obtain ⟨ks', e', hl'⟩ := hc
        refine ⟨ks', e', ?_⟩
        rw [setLk_ne]
        · exact hl'
        · rintro ⟨rfl, rfl⟩; rw [hl] at hl'; cases hl'
    · exact hc
  | ls b j =>
    simp only [eat1]
    split
    · rename_i ks e hl
      cases c with
      | «at» b' j' p' =>
        obtain ⟨k', ps', os', hl', hp'⟩ := hc
        refine ⟨k', ps', os', ?_, hp'⟩
        rw [setLk_ne]
        · exact hl'
        · rintro ⟨rfl, rfl⟩; rw [hl] at hl'; cases hl'
      | nd id =>
        obtain ⟨x, hx⟩ := hc
        exact ⟨x, by rw [setLk_get]; exact hx⟩
      | ls b' j' =>
        obtain ⟨ks', e', hl'⟩ := hc
        refine ⟨ks', e', ?_⟩
        rw [setLk_ne]
        · exact hl'
        · rintro ⟨rfl, rfl⟩; exact hne rfl
    · exact hc
  | nd id =>
    simp only [eat1]
    split
    · rename_i x hx
      cases c with
      | «at» b' j' p' =>
        obtain ⟨k', ps', os', hl', hp'⟩ := hc
        refine ⟨k', ps', os', ?_, hp'⟩
        rw [lk_ne _ ?_]
        · exact hl'
        · rintro rfl
          unfold hget at hx
          unfold lk at hl'
          split at hx
          · rename_i y hy; rw [hy] at hl'; cases hl'
          · cases hx
      | nd id' =>
        obtain ⟨y, hy⟩ := hc
        exact ⟨y, by rw [hget_ne _ (fun e => hne (by rw [e]))]; exact hy⟩
      | ls b' j' =>
        obtain ⟨ks', e', hl'⟩ := hc
        refine ⟨ks', e', ?_⟩
        rw [lk_ne _ ?_]
        · exact hl'
        · rintro rfl
          unfold hget at hx
          unfold lk at hl'
          split at hx
          · rename_i y hy; rw [hy] at hl'; cases hl'
          · cases hx
    · exact hc
def eatAll : List Rs → H → H
  | [], h => h
  | a :: l, h => eatAll l (eat1 h a)
theorem less_eatAll : ∀ (l : List Rs) (h : H), Less h (eatAll l h)
  | [], h => Less.refl h
  | a :: l, h => (less_eat1 h a).trans (less_eatAll l _)
theorem eatAll_free {E : Env} {B : Bd} {w : World} : ∀ {l : List Rs} {h : H}, HR E h B w → ((∃ a ∈ l, a.isLs = false) → NoVw h) → apartR l = true → (∀ a ∈ l, a.ok h) → ∀ n ∈ l.flatMap (Rs.fp E), Free E (eatAll l h) n
  | [], h, _, _, _, _, n, hn => by cases hn
  | a :: l, h, r, nv, ap, ok, n, hn => by
    simp only [apartR, Bool.and_eq_true, Bool.not_eq_true'] at ap
    rw [List.flatMap_cons, List.mem_append] at hn
    have le := less_eat1 h a
    rcases hn with hn | hn
    · exact (eat1_free r (fun ha => nv ⟨a, by simp, ha⟩) (ok a (by simp)) n hn).less (less_eatAll l _)
    · refine eatAll_free (le.hr r) (fun ⟨c, hc, hl⟩ => (nv ⟨c, by simp [hc], hl⟩).less le) ap.2 (fun c hc => eat1_ok (fun e => ?_) (ok c (by simp [hc]))) n hn
      subst e
      have := List.any_eq_false.1 ap.1 a hc
      exact this (rseq_refl a)
/-- The world turns where nothing that is known is. -/
theorem HR.turn {E : Env} {h : H} {B : Bd} {w w' : World} {X : Nat → Prop} (r : HR E h B w) (b : Bel ⟨w.heap.size, X⟩ w w') (hX : ∀ n, X n → Free E h n ∧ ∃ cs e f, w.heap[n]? = some (.cells cs e f)) : HR E h B w' := by
  have keep : ∀ n, n < w.heap.size → ¬ X n → w'.heap[n]? = w.heap[n]? := fun n hn hx => b.block n (fun f => by
    rcases f with f | f
    · have f : w.heap.size ≤ n := f
      omega
    · exact hx f)
  refine ⟨Nat.le_trans r.low b.size, fun c x hx => ?_, r.inj, r.bnd, fun c m hm => ⟨(r.mps c m hm).1, ?_⟩, ?_⟩
  · obtain ⟨h1, sp, h2, h3⟩ := r.blk c x hx
    exact ⟨h1, sp, by rw [keep _ (r.lt hx) (fun f => (hX _ f).1.1 c x hx rfl), h2], h3⟩
  · rw [keep _ (r.mlt hm) (fun f => ?_)]
    · exact (r.mps c m hm).2
    · obtain ⟨_, cs, e, f', h1⟩ := hX _ f
      rw [(r.mps c m hm).2] at h1; cases h1
  · refine ⟨fun c i => LK.keep (r.lst.ok c i) fun n hn => keep n (r.lst.lt c i n hn).1 (fun f => (hX n f).1.2 c i hn), fun c i n hn => ⟨Nat.lt_of_lt_of_le (r.lst.lt c i n hn).1 b.size, (r.lst.lt c i n hn).2⟩, r.lst.sep, r.lst.inn, r.lst.fre, r.lst.alo, r.lst.opn, r.lst.ali, r.lst.old⟩
theorem Dat.holds.cells {w : World} : ∀ {d : Dat} {k : Nat}, d.holds w k → ∀ x ∈ d.fp, ∃ cs e f, w.heap[x]? = some (.cells cs e f)
  | .leaf, _, _, x, hx => by cases hx
  | .nd b ns bs l r, _, h, x, hx => by
    simp only [Dat.fp, List.mem_cons, List.mem_append] at hx
    rcases hx with rfl | hx | hx
    · exact ⟨_, _, _, h.1⟩
    · exact h.2.1.cells x hx
    · exact h.2.2.cells x hx
theorem Rs.free {E : Env} {h : H} {B : Bd} {w : World} (r : HR E h B w) {a : Rs} (ha : a.ok h) : ∀ n ∈ a.fp E, B.free n := by
  intro n hn
  cases a with
  | «at» b j p =>
    obtain ⟨k, ps, os, hl, hp⟩ := ha
    exact r.lst.fro hl (List.mem_flatMap.2 ⟨p, hp, hn⟩)
  | ls b j =>
    obtain ⟨ks, e, hl⟩ := ha
    exact r.lst.fre b j (by rw [hl]; trivial) n (by rw [hl]; exact ownFp_occ.1 hn)
  | nd id =>
    obtain ⟨x, hx⟩ := ha
    rw [List.mem_singleton.1 hn]
    exact (r.blk id x hx).1
theorem OOk.cells {B : Nat} {w : World} {r : Rec} {j : Nat} {ks : List CK} {e : Nat} (k : OOk B w r j ks e) : ∀ n ∈ ownFp r j, ∃ cs e f, w.heap[n]? = some (.cells cs e f) := by
  intro n hn
  have ho := (ownFp_occ (ks := ks) (e := e)).1 hn
  rcases k.own with ⟨_, h⟩ | h
  · exact absurd h ho.1
  · rcases h.2 with ⟨hv, _⟩ | ⟨g, cap, cur, hv, _, hg, _⟩
    · simp only [Rec.lv, Value.slice.injEq] at hv
      exact absurd hv.2.2 ho.1
    · simp only [Rec.lv, Value.slice.injEq] at hv
      have := ho.2
      rw [hv.1] at this
      have : g = n := by simpa using this
      subst this
      exact ⟨_, _, _, hg⟩
end Go.Proofs.Ytkepkjahbcddlaa.Sy
