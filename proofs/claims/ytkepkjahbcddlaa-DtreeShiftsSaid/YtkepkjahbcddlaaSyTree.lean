/- twelfth part: what a function's walks say, as a tree of facts. -/
import Derived.Test.YtkepkjahbcddlaaSyFun
namespace Go.Proofs.Ytkepkjahbcddlaa.Sy
open Go Go.RowKit
set_option linter.unusedVariables false
set_option linter.unusedSimpArgs false
set_option linter.unusedSectionVars false
variable [Kinds]
inductive Tr where
  | ok (d : List DX)
  | bad
  | f (x : Fact) (t : Tr)
  | br (a b : Tr)
def Tr.good (T : Tab) (E : Env) (rel : List DV → Prop) : Tr → Prop
  | .ok d => rel (d.map (DX.den E))
  | .bad => False
  | .f x t => x.den T E → t.good T E rel
  | .br a b => a.good T E rel ∧ b.good T E rel
def Tr.has (o : Option (List DX)) (q : List Fact) : Tr → Bool
  | .ok d => match o with | some e => leq dxeq e d | none => false
  | .bad => match o with | some _ => false | none => true
  | .f x t => q.any (facteq x) && t.has o q
  | .br a b => a.has o q || b.has o q
theorem PC.mem {T : Tab} {E : Env} : ∀ {q : List Fact} {x : Fact}, PC T E q → x ∈ q → x.den T E
  | y :: q, x, h, hx => by
    rcases List.mem_cons.1 hx with rfl | hx
    · exact h.1
    · exact PC.mem h.2 hx
theorem Tr.of_has {T : Tab} {E : Env} {rel : List DV → Prop} {o : Option (List DX)} {q : List Fact} (hq : PC T E q) : ∀ {t : Tr}, t.good T E rel → t.has o q = true → match o with | some d => rel (d.map (DX.den E)) | none => False
  | .ok d, hg, hh => by
    simp only [Tr.has] at hh
    split at hh
    · rw [leq_eq dxeq_eq _ _ hh]; exact hg
    · cases hh
  | .bad, hg, hh => hg.elim
  | .f x t, hg, hh => by
    simp only [Tr.has, Bool.and_eq_true] at hh
    obtain ⟨y, hy, he⟩ := List.any_eq_true.1 hh.1
    exact Tr.of_has hq (hg (by rw [facteq_eq _ _ he]; exact hq.mem hy)) hh.2
  | .br a b, hg, hh => by
    simp only [Tr.has, Bool.or_eq_true] at hh
    rcases hh with h | h
    · exact Tr.of_has hq hg.1 h
    · exact Tr.of_has hq hg.2 h
def Tr.covers (t : Tr) (c : Con) (R : Res RO) : Bool :=
  R.ok.all (fun r => match outDX c r with | some (_, d) => t.has (some d) r.q | none => false) && R.bad.all (fun q => t.has none q)
def Con.check (P : Program) (cs : List Con) (lcs : List (FuncId × LCon)) (known : List KE) (N d : Nat) (c : Con) (t : Tr) : Bool :=
  match c.run P cs lcs known N d with
  | some R => t.covers c R
  | none => false
/-- What comes of the walks, for whoever prints the tree. -/
def Con.tell (P : Program) (cs : List Con) (lcs : List (FuncId × LCon)) (known : List KE) (N d : Nat) (c : Con) : Option (List (Option (List DX) × List Fact) × List (List Fact)) :=
  match c.run P cs lcs known N d with
  | some R => some (R.ok.map fun r => ((outDX c r).map (·.2), r.q), R.bad)
  | none => none
/-- The tree is good, so what is told of the function holds. -/
theorem con_trR {P : Program} {T : Tab} {rel : List DV → List DV → Prop} {pre : List DV → Prop} {cs : List Con} {lcs : List (FuncId × LCon)} {known : List KE} (hcs : ∀ c ∈ cs, ConS P T c) (hk : Known P known) {N d : Nat} {c : Con} {t : Tr} (hR : c.check P cs lcs known N d t = true)
    (hg : ∀ E : Env, (∀ j ks, (flatS c.ins)[j]? = some (.list ks) → (∀ x ∈ (E.r 0).l j, x.length = ks.length) ∧ ((E.r 0).l j).length ≤ maxLen) → (c.total = false → pre (dvs (E.r 0) (flatS c.ins) 0)) → t.good T E (rel (dvs (E.r 0) (flatS c.ins) 0))) : ConR P rel pre c := by
  unfold Con.check at hR
  split at hR
  · rename_i R h1
    simp only [Tr.covers, Bool.and_eq_true, List.all_eq_true] at hR
    refine con_of hcs hk h1 fun E hl hp => ⟨fun q hq hpc => ?_, fun r hr hpc => ?_⟩
    · exact Tr.of_has hpc (hg E hl hp) (hR.2 q hq)
    · have := hR.1 r hr
      split at this
      · rename_i avs d hd
        exact ⟨avs, d, hd, Tr.of_has hpc (hg E hl hp) this⟩
      · cases this
  · cases hR
theorem con_tr {P : Program} {T : Tab} {cs : List Con} {lcs : List (FuncId × LCon)} {known : List KE} (hcs : ∀ c ∈ cs, ConS P T c) (hk : Known P known) {N d : Nat} {c : Con} {t : Tr} (hR : c.check P cs lcs known N d t = true)
    (hg : ∀ E : Env, (∀ j ks, (flatS c.ins)[j]? = some (.list ks) → (∀ x ∈ (E.r 0).l j, x.length = ks.length) ∧ ((E.r 0).l j).length ≤ maxLen) → (c.total = false → T.pre c.f (dvs (E.r 0) (flatS c.ins) 0)) → t.good T E (T.rel c.f (dvs (E.r 0) (flatS c.ins) 0))) : ConS P T c :=
  con_trR hcs hk hR hg
theorem cons_nil (P : Program) (T : Tab) : ∀ c ∈ ([] : List Con), ConS P T c := fun c hc => by simp at hc
theorem cons_cons {P : Program} {T : Tab} {c : Con} {cs : List Con} (h : ConS P T c) (hs : ∀ c ∈ cs, ConS P T c) : ∀ d ∈ c :: cs, ConS P T d := fun d hd => by
  rcases List.mem_cons.1 hd with rfl | hd
  · exact h
  · exact hs d hd
theorem cons_app {P : Program} {T : Tab} {cs ds : List Con} (h : ∀ c ∈ cs, ConS P T c) (hs : ∀ c ∈ ds, ConS P T c) : ∀ d ∈ cs ++ ds, ConS P T d := fun d hd => by
  rcases List.mem_append.1 hd with hd | hd
  · exact h d hd
  · exact hs d hd
/-- Nothing that is eaten, or turned. -/
def noEat : List FK → Bool
  | [] => true
  | .obj _ :: _ => false
  | .io _ :: _ => false
  | .own _ _ :: _ => false
  | _ :: r => noEat r
theorem eatFs_nil {r : Rec} : ∀ {ks : List FK} {s : Nat}, noEat ks = true → eatFs r ks s = []
  | [], s, _ => rfl
  | x :: ks, s, h => by
    cases x <;> first | (simp [noEat] at h; done) | exact eatFs_nil (ks := ks) (s := s + 1) h
theorem iosK_nil : ∀ {ks : List FK}, noEat ks = true → iosK ks = []
  | [], _ => rfl
  | x :: ks, h => by
    cases x <;> first | (simp [noEat] at h; done) | exact iosK_nil (ks := ks) h
theorem iosP_nil : ∀ {ks : List FK} {s : Nat}, noEat ks = true → iosP ks s = []
  | [], s, _ => rfl
  | x :: ks, s, h => by
    cases x <;> first | (simp [noEat] at h; done) | exact iosP_nil (ks := ks) (s := s + 1) h
theorem noEat_get : ∀ {ks : List FK} {j : Nat}, noEat ks = true → (∀ k, ks[j]? ≠ some (.obj k)) ∧ (∀ k, ks[j]? ≠ some (.io k)) ∧ ∀ l e, ks[j]? ≠ some (.own l e)
  | [], j, h => by simp
  | x :: r, 0, h => by cases x <;> simp_all [noEat]
  | x :: r, j + 1, h => by
    cases x <;> first | (simp [noEat] at h; done) | simpa using noEat_get (ks := r) (j := j) (by simpa [noEat] using h)
theorem fo_plain {c : Con} (h : noEat (flatS c.ins) = true) : c.fo = c.outs.flat := by unfold Con.fo; rw [iosK_nil h, List.append_nil]
/-- A function of the machine's own, without a body. -/
theorem con_ext {P : Program} {T : Tab} {c : Con} (hb : hasBody P c.f = false) (hn : (noList c.outs.flat && noEat c.outs.flat && noEat (flatS c.ins)) = true) (h : ∀ (r : Rec) (w : World), (c.total = false → T.pre c.f (dvs r (flatS c.ins) 0)) → ∃ r', (callFunc c.f (SP.vals r c.ins 0).toArray).run P w = .ok (.value (c.outs.val r')) w ∧ T.rel c.f (dvs r (flatS c.ins) 0) (dvs r' c.outs.flat 0)) : ConS P T c := by
  intro r w _ hp
  obtain ⟨r', h1, h2⟩ := h r w hp
  unfold Invoked
  rw [if_neg (by rw [hb]; simp)]
  rw [Bool.and_eq_true, Bool.and_eq_true] at hn
  have e := eatFs_nil (r := r') (s := 0) hn.1.2
  rw [fo_plain hn.2]
  exact ⟨_, h1, r', rfl, h2, Bel.refl _ _, fun j ks hj => absurd hj (noList_get hn.1.1), fun j k hj => absurd hj ((noEat_get hn.1.2).1 k), fun j l e hj => absurd hj ((noEat_get hn.1.2).2.2 l e), by rw [e]; exact List.nodup_nil, fun n hx => (by rw [e] at hx; cases hx), fun i j hij => (by rw [iosP_nil hn.2] at hij; simp at hij)⟩
/-- Numbers, truths, lists only. -/
def noRef : List FK → Bool
  | [] => true
  | .obj _ :: _ => false
  | .vw _ :: _ => false
  | .fb _ :: _ => false
  | .io _ :: _ => false
  | .own _ _ :: _ => false
  | _ :: r => noRef r
theorem noRef_get : ∀ {ks : List FK} {j : Nat}, noRef ks = true → (∀ k, ks[j]? ≠ some (.obj k)) ∧ (∀ k, ks[j]? ≠ some (.vw k)) ∧ (∀ fs, ks[j]? ≠ some (.fb fs)) ∧ (∀ k, ks[j]? ≠ some (.io k)) ∧ ∀ l e, ks[j]? ≠ some (.own l e)
  | [], j, h => by simp
  | x :: r, 0, h => by cases x <;> simp_all [noRef]
  | x :: r, j + 1, h => by
    cases x <;> first | (simp [noRef] at h; done) | simpa using noRef_get (ks := r) (j := j) (by simpa [noRef] using h)
theorem noRef_eat : ∀ {ks : List FK}, noRef ks = true → noEat ks = true
  | [], _ => rfl
  | x :: r, h => by
    cases x <;> first | (simp [noRef] at h; done) | exact noRef_eat (ks := r) (by simpa [noRef] using h)
theorem inOk_of {r : Rec} {ks : List FK} {w : World} (hn : noRef ks = true) (h : ∀ j l, ks[j]? = some (.list l) → ROk w r j l ∧ l ≠ []) : InOk r ks w := by
  have e : eatFs r ks 0 = [] := eatFs_nil (noRef_eat hn)
  exact ⟨h, fun j k hj => absurd hj ((noRef_get hn).2.1 k), fun j k hj => (hj.elim (fun hj => absurd hj ((noRef_get hn).1 k)) fun hj => absurd hj ((noRef_get hn).2.2.2.1 k)), fun j l e hj => absurd hj ((noRef_get hn).2.2.2.2 l e), by rw [e]; exact List.nodup_nil, fun j l hj n _ hE => (by unfold Eaten at hE; rw [e] at hE; cases hE), fun j k hj => absurd hj ((noRef_get hn).2.1 k), fun j fs hj => absurd hj ((noRef_get hn).2.2.1 fs)⟩
theorem bel_below {r : Rec} {ks : List FK} {w w' : World} (hn : noRef ks = true) (b : Bel ⟨w.heap.size, Eaten r ks⟩ w w') : Below w.heap.size w w' :=
  ⟨b.os, b.tape, b.output, b.size, fun k hk => b.block k (fun f => by
    rcases f with f | f
    · have f : w.heap.size ≤ k := f
      omega
    · unfold Eaten at f
      rw [eatFs_nil (noRef_eat hn)] at f
      cases f)⟩
/-- The kinds of objects of this seat. -/
instance kinds : Kinds := ⟨fun k => match k with | 0 => ⟨63, [.num .u64 0, .num .u32 1, .num .u32 2, .num .i64 3, .num .u64 4, .num .u32 5, .num .u32 6, .num .u64 7, .num .u32 8, .num .u32 9, .num .i64 10, .num .u64 11, .num .u32 12, .num .u32 13, .kid false, .kid true, .tru 0]⟩ | 1 => ⟨56, [.kid false, .num .i64 0, .fn 10, .fn 26, .fn 27]⟩ | _ => ⟨0, []⟩, fun k x => match k, x with | 0, false => 0 | 0, true => 0 | 1, false => 0 | 1, true => 0 | _, _ => 0⟩
end Go.Proofs.Ytkepkjahbcddlaa.Sy
