/-
A state of the program's beside one of the document's: one pair more; rows of pairs.
-/
import Derived.Test.YtcphmelmieedfabSpecJ
namespace Go.Proofs.Ytcphmelmieedfab.PSpecExact
open Go Go.RowKit Go.Proofs.YtcphmelmieedfabW.PrintWords M
set_option linter.unusedVariables false
set_option linter.unusedSimpArgs false
theorem k26_open {w : World} {x : S26} {cs : List Value} (h : k26.K w x cs) : cs = [.int .u64 x.f0, .int .u64 x.f1] := by
  obtain ⟨_, _, rfl, rfl, rfl⟩ := h
  exact rfl
theorem only57 : ∀ q, q ∈ 57 :: k57.E → q = 57 := by
  intro q hq
  simpa [k57, Kd.iso, Kd.pair, Kd.int, Kd.scalar] using hq
theorem only57_32 : ∀ q, q ∈ 57 :: k57.E → q ≠ 32 := fun q hq => by rw [only57 q hq]; decide
theorem only57_35 : ∀ q, q ∈ 57 :: k57.E → q ≠ 35 := fun q hq => by rw [only57 q hq]; decide
theorem row_far {W W1 : World} {B g t : Nat} {cs : Array Value} {v : Value} {xs : List S57} (h : Kd.R k57 57 W B (fun _ => True) v xs) (hb : W.heap[g]? = some (.cells cs t (0, 0))) (ht : 57 ≠ t) (h3 : ∀ k, k ≠ g → W1.heap[k]? = W.heap[k]?) : Kd.R k57 57 W1 B (fun _ => True) v xs :=
  Kd.R_mono (Kd.R_step (Kd.R_types h hb (fun q hq => by rw [only57 q hq]; exact ht)) (fun k ho _ => h3 k ho.2)) (fun _ _ => trivial)
theorem R_C57 {W : World} {B n c : Nat} {A : Option Addr} {ok : Nat → Prop} {xs : List S57} (h : Kd.R k57 57 W B ok (.slice A n c) xs) : Kd.C k57 W A xs.length xs := (Kd.R_reads' h).2.2
/-- The document's state and whether a key came twice, after one pair more. -/
def st (s : List S57 × Bool) (p : S26) : List S57 × Bool := (flt s.1 p.f0 ++ [c57 p], s.2 || (getU s.1 p.f0).2)
def stl (l : List S26) : List S57 × Bool := l.foldl st ([], false)
theorem stl_take (l : List S26) (i : Nat) (h : i < l.length) : stl (l.take (i + 1)) = st (stl (l.take i)) (l.getD i ⟨0, 0⟩) := by
  unfold stl
  rw [List.take_add_one, List.foldl_append, List.getElem?_eq_getElem h, List.getD_eq_getElem?_getD, List.getElem?_eq_getElem h]
  rfl
theorem st_true (l : List S26) : ∀ u, (l.foldl st (u, true)).2 = true := by
  induction l with
  | nil => intro u; rfl
  | cons p r ih => intro u; exact ih _
theorem st_len (l : List S26) : ∀ s, (l.foldl st s).1.length ≤ s.1.length + l.length := by
  induction l with
  | nil => intro s; exact Nat.le_refl _
  | cons p r ih =>
    intro s
    have := ih (st s p)
    have h2 := flt_len s.1 p.f0
    simp only [List.foldl_cons, List.length_cons]
    have h3 : (st s p).1.length = (flt s.1 p.f0).length + 1 := by simp [st]
    omega
theorem getU_flt {u : List S57} {k : Int} (h : (getU u k).2 = false) : flt u k = u := by
  unfold flt
  rw [List.filter_eq_self]
  intro y hy
  unfold getU at h
  cases hf : u.find? (fun y => decide (y.f0 = k)) with
  | some z => rw [hf] at h; cases h
  | none =>
    have := List.find?_eq_none.1 hf y hy
    simpa using this
theorem getU_app (u : List S57) (q : S57) (k : Int) : (getU (u ++ [q]) k).2 = ((getU u k).2 || decide (q.f0 = k)) := by
  unfold getU
  rw [List.find?_append]
  cases hf : u.find? (fun y => decide (y.f0 = k)) with
  | some z => simp
  | none =>
    by_cases e : q.f0 = k
    · simp [e]
    · simp [e]
theorem len_of_mem [DecidableEq S57] : ∀ {a b : List S57}, a.Nodup → (∀ x ∈ a, x ∈ b) → a.length ≤ b.length
  | [], b, _, _ => Nat.zero_le _
  | x :: r, b, hn, hm => by
    have h1 : x ∈ b := hm x (by simp)
    have h2 := len_of_mem (a := r) (b := b.erase x) (List.nodup_cons.1 hn).2 (fun y hy => by
      have hne : y ≠ x := fun e => (List.nodup_cons.1 hn).1 (e ▸ hy)
      exact (List.mem_erase_of_ne hne).2 (hm y (by simp [hy])))
    rw [List.length_erase_of_mem h1] at h2
    have h3 : 0 < b.length := List.length_pos_of_mem h1
    simp only [List.length_cons]
    omega
theorem srt_nodup : ∀ {l : List S26}, Srt l → (l.map c57).Nodup
  | [], _ => by simp
  | x :: r, h => by
    rw [List.map_cons, List.nodup_cons]
    refine ⟨fun hm => ?_, srt_nodup h.2⟩
    obtain ⟨y, hy, e⟩ := List.mem_map.1 hm
    have := h.1 y hy
    have e2 : y.f0 = x.f0 := congrArg S57.f0 e
    omega
theorem Rel.card {l : List S26} {u : List S57} (h : Rel l u) : u.length = l.length := by
  have h1 : u.Nodup := (unl_pair.1 h.unl).imp (fun hab e => hab (by rw [e]))
  have h2 := srt_nodup h.srt
  have h3 : ∀ x, x ∈ u ↔ x ∈ l.map c57 := fun x => by
    rw [List.mem_map]
    constructor
    · intro hx; exact ⟨unc x, (h.mem _).2 (by rw [c_unc]; exact hx), c_unc x⟩
    · rintro ⟨y, hy, rfl⟩; exact (h.mem _).1 hy
  haveI : DecidableEq S57 := fun a b => Classical.propDecidable (a = b)
  have a := len_of_mem h1 (fun x hx => (h3 x).1 hx)
  have b := len_of_mem h2 (fun x hx => (h3 x).2 hx)
  rw [List.length_map] at a b
  omega
/-- What With does to a pair of states. -/
theorem Rel.put {s : List S26} {u : List S57} (h : Rel s u) (hs : s.length ≤ 16) (p : S26) :
    ((withV s p).2 = 0 ∧ Rel (withV s p).1 (flt u p.f0 ++ [c57 p]) ∧ (flt u p.f0 ++ [c57 p]).length ≤ 16 ∧ (withV s p).1.length ≤ 16) ∨ (withV s p = ([], 6) ∧ 16 < (flt u p.f0 ++ [c57 p]).length ∧ (getU u p.f0).2 = false) := by
  have hle := withV_le s p hs
  by_cases hf : isF p.f0 s = true
  · left
    have e : withV s p = (s.set (posF p.f0 s) p, 0) := by unfold withV; rw [if_pos hf]
    have h1 := set_lk p h.srt hf
    have h2 : Rel (s.set (posF p.f0 s) p) (flt u p.f0 ++ [c57 p]) := h.with_ p h1.1 h1.2
    rw [e] at hle ⊢
    exact ⟨rfl, h2, by rw [h2.card]; exact hle, hle⟩
  · have hg : (getU u p.f0).2 = false := by
      rw [h.get p.f0]
      have := isF_lk h.srt p.f0
      rw [Bool.eq_false_iff.2 hf] at this
      exact this.symm
    by_cases h16 : s.length = 16
    · right
      refine ⟨by unfold withV; rw [if_neg hf, if_pos h16], ?_, hg⟩
      rw [getU_flt hg]
      have := h.card
      simp; omega
    · left
      have w := withV_lk h.srt (by omega) p
      have h2 := h.with_ p w.2.1 w.2.2.2
      exact ⟨w.1, h2, by rw [h2.card]; exact hle, hle⟩
theorem newL_st : ∀ (r : List S26) (m : List (Int × Int)) (i : Int) (s : List S26) (e : Int) (u : List S57),
    (∀ k, (get m k).isSome = (getU u k).2) → (e = 0 ∧ Rel s u ∧ s.length ≤ 16 ∨ e = 6 ∧ 16 < u.length) →
    ((r.foldl st (u, false)).2 = true → newL m i s e r = ([], 1)) ∧
    ((r.foldl st (u, false)).2 = false → (r.foldl st (u, false)).1.length = u.length + r.length ∧
      ((∃ s', newL m i s e r = (s', 0) ∧ Rel s' (r.foldl st (u, false)).1 ∧ s'.length ≤ 16) ∨ (newL m i s e r = ([], 6) ∧ 16 < (r.foldl st (u, false)).1.length)))
  | [], m, i, s, e, u, hm, he => by
    simp only [newL, List.foldl_nil]
    refine ⟨fun h => (Bool.noConfusion h), fun _ => ⟨rfl, ?_⟩⟩
    rcases he with ⟨rfl, h1, h2⟩ | ⟨rfl, h1⟩
    · exact Or.inl ⟨s, if_pos rfl, h1, h2⟩
    · exact Or.inr ⟨if_neg (by decide), h1⟩
  | p :: r, m, i, s, e, u, hm, he => by
    simp only [newL, List.foldl_cons]
    by_cases hk : (getU u p.f0).2 = true
    · rw [if_pos (by rw [hm]; exact hk)]
      have e1 : st (u, false) p = (flt u p.f0 ++ [c57 p], true) := by unfold st; rw [hk]; rfl
      rw [e1]
      refine ⟨fun _ => rfl, fun h => ?_⟩
      rw [st_true] at h; cases h
    · have hk := Bool.eq_false_iff.2 hk
      rw [if_neg (by rw [hm, hk]; decide)]
      have e1 : st (u, false) p = (u ++ [c57 p], false) := by unfold st; rw [hk, getU_flt hk]; rfl
      rw [e1]
      have hm2 : ∀ k, (get (put m p.f0 i) k).isSome = (getU (u ++ [c57 p]) k).2 := fun k => by
        rw [getU_app, ← hm k, get_put]
        by_cases e : k = p.f0
        · rw [if_pos e]; simp [c57, e]
        · rw [if_neg e]; have e2 : decide ((c57 p).f0 = k) = false := decide_eq_false (fun h => e (Eq.symm h))
          rw [e2]; simp
      have hl : (u ++ [c57 p]).length = u.length + 1 := by simp
      rcases he with ⟨rfl, h1, h2⟩ | ⟨rfl, h1⟩
      · rw [if_pos rfl]
        have ih := newL_st r (put m p.f0 i) (i + 1) (withV s p).1 (withV s p).2 (u ++ [c57 p]) hm2 (by
          rcases h1.put h2 p with ⟨a1, a2, a3, a4⟩ | ⟨a1, a2, a3⟩
          · rw [getU_flt hk] at a2 a3
            exact Or.inl ⟨a1, a2, a4⟩
          · rw [getU_flt hk] at a2
            exact Or.inr ⟨by rw [a1], a2⟩)
        refine ⟨ih.1, fun h => ⟨?_, (ih.2 h).2⟩⟩
        rw [(ih.2 h).1, hl, List.length_cons]; omega
      · rw [if_neg (by decide)]
        have ih := newL_st r (put m p.f0 i) (i + 1) s 6 (u ++ [c57 p]) hm2 (Or.inr ⟨rfl, by omega⟩)
        refine ⟨ih.1, fun h => ⟨?_, (ih.2 h).2⟩⟩
        rw [(ih.2 h).1, hl, List.length_cons]; omega
theorem newV_st (l : List S26) : ((stl l).2 = true → newV l = ([], 1)) ∧ ((stl l).2 = false → (stl l).1.length = l.length ∧ ((l.length ≤ 16 ∧ ∃ s, newV l = (s, 0) ∧ Rel s (stl l).1 ∧ s.length ≤ 16) ∨ (newV l = ([], 6) ∧ 16 < l.length))) := by
  have h := newL_st l [] 0 [] 0 [] (fun k => rfl) (Or.inl ⟨rfl, Rel.nil, by simp⟩)
  refine ⟨h.1, fun h2 => ?_⟩
  obtain ⟨a, b⟩ := h.2 h2
  have a2 : (stl l).1.length = l.length := by have := a; simp at this; exact this
  refine ⟨a2, ?_⟩
  rcases b with ⟨s, b1, b2, b3⟩ | ⟨b1, b2⟩
  · exact Or.inl ⟨by have := b2.card; have e : (stl l).1.length = s.length := this; omega, s, b1, b2, b3⟩
  · exact Or.inr ⟨b1, by have e : 16 < (stl l).1.length := b2; omega⟩
end Go.Proofs.Ytcphmelmieedfab.PSpecExact

