/- twelfth part: what a function's walks say, as a tree of facts. -/
import Derived.Test.YtjemohphaeiaiaaGreatDoorSyFun
namespace Go.Proofs.YtjemohphaeiaiaaGreatDoor.Sy
open Go Go.RowKit
set_option linter.unusedVariables false
set_option linter.unusedSimpArgs false
inductive Tr where
  | ok (d : List DX)
  | bad
  | f (x : Fact) (t : Tr)
  | br (a b : Tr)
def Tr.good (T : Tab) (E : Env) (rel : List DV → Prop) : Tr → Prop
  | .ok d => rel (d.map (DX.den E))
  | .bad => False
  | .f x t => x.den T E → t.good T E rel
  | .br a b => a.good T E rel ∧ b.good T E rel
def Tr.has (o : Option (List DX)) (q : List Fact) : Tr → Bool
  | .ok d => match o with | some e => leq dxeq e d | none => false
  | .bad => match o with | some _ => false | none => true
  | .f x t => q.any (facteq x) && t.has o q
  | .br a b => a.has o q || b.has o q
theorem PC.mem {T : Tab} {E : Env} : ∀ {q : List Fact} {x : Fact}, PC T E q → x ∈ q → x.den T E
  | y :: q, x, h, hx => by
    rcases List.mem_cons.1 hx with rfl | hx
    · exact h.1
    · exact PC.mem h.2 hx
theorem Tr.of_has {T : Tab} {E : Env} {rel : List DV → Prop} {o : Option (List DX)} {q : List Fact} (hq : PC T E q) : ∀ {t : Tr}, t.good T E rel → t.has o q = true → match o with | some d => rel (d.map (DX.den E)) | none => False
  | .ok d, hg, hh => by
    simp only [Tr.has] at hh
    split at hh
    · rw [leq_eq dxeq_eq _ _ hh]; exact hg
    · cases hh
  | .bad, hg, hh => hg.elim
  | .f x t, hg, hh => by
    simp only [Tr.has, Bool.and_eq_true] at hh
    obtain ⟨y, hy, he⟩ := List.any_eq_true.1 hh.1
    exact Tr.of_has hq (hg (by rw [facteq_eq _ _ he]; exact hq.mem hy)) hh.2
  | .br a b, hg, hh => by
    simp only [Tr.has, Bool.or_eq_true] at hh
    rcases hh with h | h
    · exact Tr.of_has hq hg.1 h
    · exact Tr.of_has hq hg.2 h
def Tr.covers (t : Tr) (c : Con) (R : Res RO) : Bool :=
  R.ok.all (fun r => match outDX c r with | some (_, d) => t.has (some d) r.q | none => false) && R.bad.all (fun q => t.has none q)
def Con.check (P : Program) (cs : List Con) (lcs : List (FuncId × LCon)) (known : List KE) (N d : Nat) (c : Con) (t : Tr) : Bool :=
  match c.run P cs lcs known N d with
  | some R => t.covers c R
  | none => false
/-- What comes of the walks, for whoever prints the tree. -/
def Con.tell (P : Program) (cs : List Con) (lcs : List (FuncId × LCon)) (known : List KE) (N d : Nat) (c : Con) : Option (List (Option (List DX) × List Fact) × List (List Fact)) :=
  match c.run P cs lcs known N d with
  | some R => some (R.ok.map fun r => ((outDX c r).map (·.2), r.q), R.bad)
  | none => none
/-- The tree is good, so what is told of the function holds. -/
theorem con_tr {P : Program} {T : Tab} {cs : List Con} {lcs : List (FuncId × LCon)} {known : List KE} (hcs : ∀ c ∈ cs, ConS P T c) (hk : Known P known) {N d : Nat} {c : Con} {t : Tr} (hR : c.check P cs lcs known N d t = true)
    (hg : ∀ E : Env, (∀ j ks, (flatS c.ins)[j]? = some (.list ks) → (∀ x ∈ (E.r 0).l j, x.length = ks.length) ∧ ((E.r 0).l j).length ≤ maxLen) → (c.total = false → T.pre c.f (dvs (E.r 0) (flatS c.ins) 0)) → t.good T E (T.rel c.f (dvs (E.r 0) (flatS c.ins) 0))) : ConS P T c := by
  unfold Con.check at hR
  split at hR
  · rename_i R h1
    simp only [Tr.covers, Bool.and_eq_true, List.all_eq_true] at hR
    refine con_of hcs hk h1 fun E hl hp => ⟨fun q hq hpc => ?_, fun r hr hpc => ?_⟩
    · exact Tr.of_has hpc (hg E hl hp) (hR.2 q hq)
    · have := hR.1 r hr
      split at this
      · rename_i avs d hd
        exact ⟨avs, d, hd, Tr.of_has hpc (hg E hl hp) this⟩
      · cases this
  · cases hR
theorem cons_nil (P : Program) (T : Tab) : ∀ c ∈ ([] : List Con), ConS P T c := fun c hc => by simp at hc
theorem cons_cons {P : Program} {T : Tab} {c : Con} {cs : List Con} (h : ConS P T c) (hs : ∀ c ∈ cs, ConS P T c) : ∀ d ∈ c :: cs, ConS P T d := fun d hd => by
  rcases List.mem_cons.1 hd with rfl | hd
  · exact h
  · exact hs d hd
theorem cons_app {P : Program} {T : Tab} {cs ds : List Con} (h : ∀ c ∈ cs, ConS P T c) (hs : ∀ c ∈ ds, ConS P T c) : ∀ d ∈ cs ++ ds, ConS P T d := fun d hd => by
  rcases List.mem_append.1 hd with hd | hd
  · exact h d hd
  · exact hs d hd
/-- A function of the machine's own, without a body. -/
theorem con_ext {P : Program} {T : Tab} {c : Con} (hb : hasBody P c.f = false) (hn : noList c.outs.flat = true) (h : ∀ (r : Rec) (w : World), (c.total = false → T.pre c.f (dvs r (flatS c.ins) 0)) → ∃ r', (callFunc c.f (SP.vals r c.ins 0).toArray).run P w = .ok (.value (c.outs.val r')) w ∧ T.rel c.f (dvs r (flatS c.ins) 0) (dvs r' c.outs.flat 0)) : ConS P T c := by
  intro r w _ hp
  obtain ⟨r', h1, h2⟩ := h r w hp
  unfold Invoked
  rw [if_neg (by rw [hb]; simp)]
  exact ⟨_, h1, r', rfl, h2, Below.refl _ _, fun j ks hj => absurd hj (noList_get hn)⟩
end Go.Proofs.YtjemohphaeiaiaaGreatDoor.Sy
