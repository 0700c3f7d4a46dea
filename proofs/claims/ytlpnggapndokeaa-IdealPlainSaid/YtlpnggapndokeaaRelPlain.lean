/-
An ideal memory and a plain world, told of each other.
-/
import Derived.Test.YtlpnggapndokeaaPlain
import Derived.Test.YtlpnggapndokeaaIdealAw
import Derived.Test.YtlpnggapndokeaaIdealKinds
namespace Go.Proofs.Ytlpnggapndokeaa.PIdealKeeps
open Go Go.RowKit Go.Proofs.YtlpnggapndokeaaW.PrintWords Go.Proofs.YtlpnggapndokeaaW.PrintLast Go.Proofs.YtlpnggapndokeaaW.PrintMore Go.Proofs.Ytlpnggapndokeaa.M
set_option linter.unusedVariables false
set_option linter.unusedSimpArgs false
theorem ofK_no {kd sl pt id : Int} (h : kd ≠ 5) : ofK kd sl pt id = (kd, sl, pt, 0) := by
  unfold ofK
  rw [if_neg (fun x => h x.1)]
/-- The same place in both. -/
def Valid (kd sl : Int) : Prop := kd = 5 → 1 ≤ sl ∧ sl ≤ 7
theorem kf_inj {kd sl pt kd' sl' pt' : Int} (v : Valid kd sl) (v' : Valid kd' sl') (h : ofK kd sl pt sl = ofK kd' sl' pt' sl') : kd = kd' ∧ sl = sl' ∧ pt = pt' := by
  unfold ofK at h
  by_cases h1 : kd = 5 ∧ pt ≥ 0 ∧ pt ≠ 1 ∧ pt ≠ 2 <;> by_cases h2 : kd' = 5 ∧ pt' ≥ 0 ∧ pt' ≠ 1 ∧ pt' ≠ 2
  · rw [if_pos h1, if_pos h2] at h
    simp only [Prod.mk.injEq, true_and] at h
    exact ⟨h1.1.trans h2.1.symm, h.2, h.1⟩
  · rw [if_pos h1, if_neg h2] at h
    simp only [Prod.mk.injEq] at h
    have := v h1.1
    omega
  · rw [if_neg h1, if_pos h2] at h
    simp only [Prod.mk.injEq] at h
    have := v' h2.1
    omega
  · rw [if_neg h1, if_neg h2] at h
    simp only [Prod.mk.injEq] at h
    exact ⟨h.1, h.2.1, h.2.2.1⟩
structure Rel (A : ISt) (C : CSt) : Prop where
  now : ∀ s, 1 ≤ s → s ≤ 7 → (get A.now s).getD 0 = s
  words : ∀ kd sl pt, Valid kd sl → (get A.words (ofK kd sl pt sl)).getD 0 = getw C.m (kd, sl, pt)
  c1 : A.c1 = C.c1
  c2 : A.c2 = C.c2
  c3 : A.c3 = C.c3
  c4 : A.c4 = C.c4
  c5 : A.c5 = C.c5
theorem words_put {W : List (K4 × Int)} {m : List (K3 × Int)} (ho : Once m) (h : ∀ kd sl pt, Valid kd sl → (get W (ofK kd sl pt sl)).getD 0 = getw m (kd, sl, pt)) {kd sl pt : Int} (v : Valid kd sl) (x : Int) :
    ∀ kd' sl' pt', Valid kd' sl' → (get (put W (ofK kd sl pt sl) x) (ofK kd' sl' pt' sl')).getD 0 = getw (wput m (kd, sl, pt) x) (kd', sl', pt') := by
  intro kd' sl' pt' v'
  rw [M.get_put, getw_wput ho]
  by_cases e : ofK kd' sl' pt' sl' = ofK kd sl pt sl
  · obtain ⟨e1, e2, e3⟩ := kf_inj v' v e
    rw [if_pos e, if_pos (by rw [e1, e2, e3])]
    rfl
  · rw [if_neg e, if_neg (fun q => e (by simp only [Prod.mk.injEq] at q; rw [q.1, q.2.1, q.2.2])), h kd' sl' pt' v']
theorem Rel.load {A : ISt} {C : CSt} (h : Rel A C) : Rel (loadA A) (cloadC C) := ⟨h.now, h.words, by show wrap64 _ = wrap64 _; rw [h.c1], h.c2, h.c3, h.c4, h.c5⟩
theorem Rel.store {A : ISt} {C : CSt} (h : Rel A C) (ho : Once C.m) {kd sl pt : Int} (v : Valid kd sl) (x y : Int) : Rel (storeA A (ofK kd sl pt sl) x y) (cstoreC C (kd, sl, pt) x) :=
  ⟨h.now, words_put ho h.words v x, h.c1, by show wrap64 _ = wrap64 _; rw [h.c2], h.c3, h.c4, h.c5⟩
theorem Rel.swapR {A : ISt} {C : CSt} (h : Rel A C) {kd sl pt : Int} (v : Valid kd sl) (ox : Int) : swapR A (ofK kd sl pt sl) ox = cswapR C (kd, sl, pt) ox := by
  unfold PIdealKeeps.swapR cswapR
  rw [h.words kd sl pt v]
theorem Rel.swap {A : ISt} {C : CSt} (h : Rel A C) (ho : Once C.m) {kd sl pt : Int} (v : Valid kd sl) (ox x y : Int) : Rel (swapA A (ofK kd sl pt sl) ox x y) (cswapC C (kd, sl, pt) ox x) := by
  unfold swapA cswapC
  rw [h.words kd sl pt v]
  by_cases e : getw C.m (kd, sl, pt) = ox
  · rw [if_pos e, if_pos e]
    exact ⟨h.now, words_put ho h.words v x, h.c1, h.c2, by show wrap64 _ = wrap64 _; rw [h.c3], h.c4, h.c5⟩
  · rw [if_neg e, if_neg e]
    exact ⟨h.now, h.words, h.c1, h.c2, by show wrap64 _ = wrap64 _; rw [h.c3], by show wrap64 _ = wrap64 _; rw [h.c4], h.c5⟩
theorem Rel.add {A : ISt} {C : CSt} (h : Rel A C) (ho : Once C.m) {kd sl pt : Int} (v : Valid kd sl) (n : Int) : Rel (addA A (ofK kd sl pt sl) n) (caddC C (kd, sl, pt) n) := by
  unfold addA caddC
  rw [h.words kd sl pt v]
  exact ⟨h.now, words_put ho h.words v _, h.c1, h.c2, h.c3, h.c4, by show wrap64 _ = wrap64 _; rw [h.c5]⟩
theorem Rel.peek {A : ISt} {C : CSt} (h : Rel A C) {kd sl pt : Int} (v : Valid kd sl) : peekR A kd sl pt = getw C.m (kd, sl, pt) := by
  unfold peekR
  by_cases e : kd = 5
  · rw [h.now sl (v e).1 (v e).2, h.words kd sl pt v]
  · rw [ofK_no e, ← h.words kd sl pt v, ofK_no e]
/-- What two memories' accesses leave of each other. -/
theorem both1 {w0 w w1 : World} {gi g1 g2 gs g3 gp gc gm : Nat} {A : ISt} {C : CSt} (hI : IdealIs w0 w gi g1 g2 gs g3 A) (hP : PlainIs w0 w gp gc gm C) (hn : gm ≠ g1 ∧ gm ≠ g2 ∧ gm ≠ g3) (hf : Fr (IdealS gi g1 g2 gs g3) w w1) : PlainIs w0 w1 gp gc gm C := by
  obtain ⟨v, hv⟩ := hI.soul
  have no : ∀ {p : Nat} {cs : Array Value} {t : TypeId}, w.heap[p]? = some (.cells cs t (0, 0)) → t ≠ 103 → t ≠ 114 → t ≠ 3 → ∀ o, IdealS gi g1 g2 gs g3 p o → (∃ cells, o = .cells cells t (0, 0)) → False := by
    intro p cs t hb h1 h2 h3 o hS ho
    rcases hS with e | e | e | e | e | ⟨cells, e⟩
    · subst e; exact blk_ne hb hI.blk h1 rfl
    · exact mapIs_ne hI.words hb e
    · exact mapIs_ne hI.leads hb e
    · subst e; exact blk_ne hb hv.blk h2 rfl
    · exact mapIs_ne hv.map hb e
    · obtain ⟨c2, ho⟩ := ho
      rw [ho] at e
      injection e with _ e
      exact h3 e
  refine hP.fr hf (fun cs x => no hP.blk (by decide) (by decide) (by decide) _ x ⟨cs, rfl⟩) (fun cs x => no hP.cells.blk (by decide) (by decide) (by decide) _ x ⟨cs, rfl⟩) ?_
  rintro es c (e | e | e | e | e | ⟨cells, e⟩)
  · exact mapIs_ne hP.cells.map hI.blk e.symm
  · exact hn.1 e
  · exact hn.2.1 e
  · exact mapIs_ne hP.cells.map hv.blk e.symm
  · exact hn.2.2 e
  · cases e
theorem both2 {w0 w w1 : World} {gi g1 g2 gs g3 gp gc gm : Nat} {A : ISt} {C : CSt} (hI : IdealIs w0 w gi g1 g2 gs g3 A) (hP : PlainIs w0 w gp gc gm C) (hn : gm ≠ g1 ∧ gm ≠ g2 ∧ gm ≠ g3) (hf : Fr (CellsS gc gm) w w1) : IdealIs w0 w1 gi g1 g2 gs g3 A := by
  obtain ⟨v, hv⟩ := hI.soul
  have hf2 : Fr (fun j o => (j = gc ∧ ∃ cs, o = .cells cs 131 (0, 0)) ∨ (j = gm ∧ ∃ es c, o = .map es c)) w w1 := by
    refine ⟨hf.1, fun j o hj hs => hf.2 j o hj ?_⟩
    rintro (e | e)
    · refine hs (.inl ⟨e, ?_⟩)
      subst e
      have := hP.cells.blk.symm.trans hj
      injection this with this
      exact ⟨_, this.symm⟩
    · refine hs (.inr ⟨e, ?_⟩)
      subst e
      obtain ⟨es, c, hm, _⟩ := hP.cells.map
      have := hm.symm.trans hj
      injection this with this
      exact ⟨_, _, this.symm⟩
  refine hI.fr hf2 ?_
  rintro j o (⟨e, cs, ho⟩ | ⟨e, es, c, ho⟩) hS
  · subst e
    subst ho
    rcases hS with e | e | e | e | e | ⟨cells, e⟩
    · subst e; exact blk_ne hP.cells.blk hI.blk (by decide) rfl
    · exact mapIs_ne hI.words hP.cells.blk e
    · exact mapIs_ne hI.leads hP.cells.blk e
    · subst e; exact blk_ne hP.cells.blk hv.blk (by decide) rfl
    · exact mapIs_ne hv.map hP.cells.blk e
    · injection e with _ e
      exact absurd e (by decide)
  · subst e
    subst ho
    rcases hS with e | e | e | e | e | ⟨cells, e⟩
    · exact mapIs_ne hP.cells.map hI.blk e.symm
    · exact hn.1 e
    · exact hn.2.1 e
    · exact mapIs_ne hP.cells.map hv.blk e.symm
    · exact hn.2.2 e
    · cases e
end Go.Proofs.Ytlpnggapndokeaa.PIdealKeeps

