/-
States as tables: what operations do; unlike keys in either order.
-/
import Derived.Test.YtcphmelmieedfabSpecG
namespace Go.Proofs.Ytcphmelmieedfab.PSpecExact
open Go Go.RowKit
set_option linter.unusedVariables false
set_option linter.unusedSimpArgs false
/-- What a key holds. -/
def lk : List S26 → Int → Option Int
  | [], _ => none
  | x :: r, k => if x.f0 = k then some x.f1 else lk r k
/-- The keys ascend. -/
def Srt : List S26 → Prop
  | [] => True
  | x :: r => (∀ y ∈ r, x.f0 < y.f0) ∧ Srt r
theorem lk_low : ∀ {r : List S26} {k : Int}, (∀ y ∈ r, k < y.f0) → lk r k = none
  | [], _, _ => rfl
  | y :: r, k, h => by
    have := h y (by simp)
    simp only [lk]
    rw [if_neg (by omega)]
    exact lk_low (fun z hz => h z (by simp [hz]))
theorem lk_mem : ∀ {r : List S26} {k v : Int}, lk r k = some v → ∃ y ∈ r, y.f0 = k
  | [], _, _, h => by cases h
  | y :: r, k, v, h => by
    simp only [lk] at h
    by_cases e : y.f0 = k
    · exact ⟨y, by simp, e⟩
    · rw [if_neg e] at h
      obtain ⟨z, hz, e2⟩ := lk_mem h
      exact ⟨z, by simp [hz], e2⟩
theorem lk_ext : ∀ {l r : List S26}, Srt l → Srt r → (∀ k, lk l k = lk r k) → l = r
  | [], [], _, _, _ => rfl
  | [], y :: r, _, _, h => by have := h y.f0; simp [lk] at this
  | x :: l, [], _, _, h => by have := h x.f0; simp [lk] at this
  | x :: l, y :: r, hl, hr, h => by
    have e : x.f0 = y.f0 := by
      have h1 := h x.f0
      have h2 := h y.f0
      simp only [lk, if_true] at h1 h2
      by_cases q : x.f0 = y.f0
      · exact q
      · rw [if_neg q] at h2
        rw [if_neg (fun e => q e.symm)] at h1
        obtain ⟨a, ha, ea⟩ := lk_mem h1.symm
        obtain ⟨b, hb, eb⟩ := lk_mem h2
        have := hl.1 b hb
        have := hr.1 a ha
        omega
    have ev : x.f1 = y.f1 := by
      have h1 := h x.f0
      simp only [lk, if_true, if_pos e.symm, Option.some.injEq] at h1
      exact h1
    have exy : x = y := by cases x; cases y; simp_all
    subst exy
    rw [lk_ext hl.2 hr.2 (fun k => by
      have h1 := h k
      simp only [lk] at h1
      by_cases q : x.f0 = k
      · rw [lk_low (fun z hz => by rw [← q]; exact hl.1 z hz), lk_low (fun z hz => by rw [← q]; exact hr.1 z hz)]
      · rw [if_neg q, if_neg q] at h1
        exact h1)]
theorem isF_nil (k : Int) : isF k [] = false := by simp [isF, posF]
theorem isF_cons (k : Int) (x : S26) (r : List S26) : isF k (x :: r) = if k ≤ x.f0 then (x.f0 == k) else isF k r := by
  unfold isF
  by_cases h : k ≤ x.f0
  · have e : posF k (x :: r) = 0 := if_pos h
    rw [if_pos h]
    simp [e, kOf]
  · have e : posF k (x :: r) = posF k r + 1 := if_neg h
    rw [if_neg h]
    simp [e, kOf]
theorem isF_lk : ∀ {l : List S26}, Srt l → ∀ k, isF k l = (lk l k).isSome
  | [], _, k => by rw [isF_nil]; rfl
  | x :: r, h, k => by
    rw [isF_cons]
    simp only [lk]
    by_cases q : k ≤ x.f0
    · rw [if_pos q]
      by_cases e : x.f0 = k
      · simp [e]
      · rw [if_neg e, lk_low (fun y hy => by have := h.1 y hy; omega)]
        simp [e]
    · rw [if_neg q, if_neg (by omega)]
      exact isF_lk h.2 k
theorem getV_lk : ∀ {l : List S26}, Srt l → ∀ k, getV l k = (lk l k).getD 0
  | [], _, k => by simp [getV, isF_nil, lk]
  | x :: r, h, k => by
    have ih := getV_lk h.2 k
    unfold getV at ih ⊢
    simp only [lk]
    by_cases q : k ≤ x.f0
    · have eP : posF k (x :: r) = 0 := if_pos q
      rw [isF_cons, eP, if_pos q]
      by_cases e : x.f0 = k
      · simp [e, vOf]
      · rw [if_neg e, lk_low (fun y hy => by have := h.1 y hy; omega)]
        simp [e]
    · have eP : posF k (x :: r) = posF k r + 1 := if_neg q
      have eI : isF k (x :: r) = isF k r := by rw [isF_cons, if_neg q]
      rw [eI, eP, if_neg (show ¬ x.f0 = k by omega)]
      exact ih
theorem ins_mem {l : List S26} {n : Nat} {p y : S26} (h : y ∈ ins l n p) : y = p ∨ y ∈ l := by
  unfold ins at h
  rcases List.mem_append.1 h with h | h
  · exact .inr (List.mem_of_mem_take h)
  · rcases List.mem_cons.1 h with h | h
    · exact .inl h
    · exact .inr (List.mem_of_mem_drop h)
theorem ins_lk (p : S26) : ∀ {l : List S26}, Srt l → isF p.f0 l = false → Srt (ins l (posF p.f0 l) p) ∧ ∀ k, lk (ins l (posF p.f0 l) p) k = if k = p.f0 then some p.f1 else lk l k
  | [], _, _ => ⟨⟨fun _ h => (by cases h), trivial⟩, fun k => by
    show (if p.f0 = k then some p.f1 else none) = _
    by_cases e : k = p.f0
    · rw [if_pos e, if_pos e.symm]
    · rw [if_neg e, if_neg (fun x => e x.symm)]; rfl⟩
  | x :: r, h, hf => by
    rw [isF_cons] at hf
    by_cases q : p.f0 ≤ x.f0
    · rw [if_pos q] at hf
      have hne : x.f0 ≠ p.f0 := beq_eq_false_iff_ne.1 hf
      have e1 : ins (x :: r) (posF p.f0 (x :: r)) p = p :: x :: r := by simp only [posF]; rw [if_pos q]; rfl
      rw [e1]
      refine ⟨⟨fun y hy => ?_, h⟩, fun k => ?_⟩
      · rcases List.mem_cons.1 hy with e | hy
        · subst e; omega
        · have := h.1 y hy; omega
      · by_cases e : k = p.f0
        · rw [if_pos e]; simp [lk, e]
        · rw [if_neg e]; simp only [lk]; rw [if_neg (fun x => e x.symm)]
    · rw [if_neg q] at hf
      have e1 : ins (x :: r) (posF p.f0 (x :: r)) p = x :: ins r (posF p.f0 r) p := by simp only [posF]; rw [if_neg q]; rfl
      obtain ⟨i1, i2⟩ := ins_lk p h.2 hf
      rw [e1]
      refine ⟨⟨fun y hy => ?_, i1⟩, fun k => ?_⟩
      · rcases ins_mem hy with e | hy
        · subst e; omega
        · exact h.1 y hy
      · simp only [lk, i2]
        by_cases e : x.f0 = k
        · rw [if_pos e, if_neg (by omega), if_pos e]
        · rw [if_neg e, if_neg e]
theorem set_mem {l : List S26} {n : Nat} {p y : S26} (h : y ∈ l.set n p) : y = p ∨ y ∈ l := by
  rcases List.mem_or_eq_of_mem_set h with h | h
  · exact .inr h
  · exact .inl h
theorem set_lk (p : S26) : ∀ {l : List S26}, Srt l → isF p.f0 l = true → Srt (l.set (posF p.f0 l) p) ∧ ∀ k, lk (l.set (posF p.f0 l) p) k = if k = p.f0 then some p.f1 else lk l k
  | [], _, hf => by rw [isF_nil] at hf; cases hf
  | x :: r, h, hf => by
    rw [isF_cons] at hf
    by_cases q : p.f0 ≤ x.f0
    · rw [if_pos q] at hf
      have he : x.f0 = p.f0 := by simpa using hf
      have e1 : (x :: r).set (posF p.f0 (x :: r)) p = p :: r := by simp only [posF]; rw [if_pos q]; rfl
      rw [e1]
      refine ⟨⟨fun y hy => by have := h.1 y hy; omega, h.2⟩, fun k => ?_⟩
      simp only [lk, he]
      by_cases e : k = p.f0
      · rw [if_pos e, if_pos e.symm]
      · rw [if_neg e, if_neg (fun x => e x.symm), if_neg (fun x => e x.symm)]
    · rw [if_neg q] at hf
      have e1 : (x :: r).set (posF p.f0 (x :: r)) p = x :: r.set (posF p.f0 r) p := by simp only [posF]; rw [if_neg q]; rfl
      obtain ⟨i1, i2⟩ := set_lk p h.2 hf
      rw [e1]
      refine ⟨⟨fun y hy => ?_, i1⟩, fun k => ?_⟩
      · rcases set_mem hy with e | hy
        · subst e; omega
        · exact h.1 y hy
      · simp only [lk, i2]
        by_cases e : x.f0 = k
        · rw [if_pos e, if_neg (by omega), if_pos e]
        · rw [if_neg e, if_neg e]
theorem del_mem {l : List S26} {n : Nat} {y : S26} (h : y ∈ del l n) : y ∈ l := by
  unfold del at h
  rcases List.mem_append.1 h with h | h
  · exact List.mem_of_mem_take h
  · exact List.mem_of_mem_drop h
theorem del_lk (key : Int) : ∀ {l : List S26}, Srt l → isF key l = true → Srt (del l (posF key l)) ∧ ∀ k, lk (del l (posF key l)) k = if k = key then none else lk l k
  | [], _, hf => by rw [isF_nil] at hf; cases hf
  | x :: r, h, hf => by
    rw [isF_cons] at hf
    by_cases q : key ≤ x.f0
    · rw [if_pos q] at hf
      have he : x.f0 = key := by simpa using hf
      have e1 : del (x :: r) (posF key (x :: r)) = r := by simp only [posF]; rw [if_pos q]; rfl
      rw [e1]
      refine ⟨h.2, fun k => ?_⟩
      simp only [lk, he]
      by_cases e : k = key
      · rw [if_pos e, lk_low (fun y hy => by have := h.1 y hy; omega)]
      · rw [if_neg e, if_neg (fun x => e x.symm)]
    · rw [if_neg q] at hf
      have e1 : del (x :: r) (posF key (x :: r)) = x :: del r (posF key r) := by simp only [posF]; rw [if_neg q]; rfl
      obtain ⟨i1, i2⟩ := del_lk key h.2 hf
      rw [e1]
      refine ⟨⟨fun y hy => h.1 y (del_mem hy), i1⟩, fun k => ?_⟩
      simp only [lk, i2]
      by_cases e : x.f0 = k
      · rw [if_pos e, if_neg (by omega), if_pos e]
      · rw [if_neg e, if_neg e]
/-- Another pair, where there is room. -/
theorem withV_lk {l : List S26} (h : Srt l) (hl : l.length ≤ 15) (p : S26) : (withV l p).2 = 0 ∧ Srt (withV l p).1 ∧ (withV l p).1.length ≤ l.length + 1 ∧ ∀ k, lk (withV l p).1 k = if k = p.f0 then some p.f1 else lk l k := by
  unfold withV
  by_cases hf : isF p.f0 l = true
  · rw [if_pos hf]
    have := set_lk p h hf
    exact ⟨rfl, this.1, by simp, this.2⟩
  · rw [if_neg hf, if_neg (by omega)]
    have := ins_lk p h (Bool.eq_false_iff.2 hf)
    exact ⟨rfl, this.1, by rw [ins_len l _ p (posF_le _ _)]; exact Nat.le_refl _, this.2⟩
theorem withV_srt {l : List S26} (h : Srt l) (p : S26) : Srt (withV l p).1 := by
  unfold withV
  by_cases hf : isF p.f0 l = true
  · rw [if_pos hf]; exact (set_lk p h hf).1
  · rw [if_neg hf]
    split
    · trivial
    · exact (ins_lk p h (Bool.eq_false_iff.2 hf)).1
theorem withV_len (l : List S26) (p : S26) : (withV l p).1.length ≤ l.length + 1 := by
  unfold withV
  split
  · simp
  · split
    · simp
    · rw [ins_len l _ p (posF_le _ _)]; exact Nat.le_refl _
theorem withoutV_lk {l : List S26} (h : Srt l) (key : Int) : Srt (withoutV l key) ∧ (withoutV l key).length ≤ l.length ∧ ∀ k, lk (withoutV l key) k = if k = key then none else lk l k := by
  unfold withoutV
  by_cases hf : isF key l = true
  · rw [if_pos hf]
    have := del_lk key h hf
    refine ⟨this.1, ?_, this.2⟩
    unfold del; simp; omega
  · rw [if_neg hf]
    refine ⟨h, Nat.le_refl _, fun k => ?_⟩
    by_cases e : k = key
    · have := isF_lk h key
      rw [Bool.eq_false_iff.2 hf] at this
      rw [if_pos e, e]
      exact Option.isSome_eq_false_iff.1 this.symm |> Option.isNone_iff_eq_none.1
    · rw [if_neg e]
/-- What an operation answers, and what its key holds then: by what it held. -/
def ansF (kd : Int) (o : Option Int) : Int × Bool × Int :=
  if kd = 1 then (0, !o.isSome, 0) else if kd = 4 then (0, o.isSome, o.getD 0) else if kd = 5 then (0, !o.isSome, o.getD 0) else if kd = 2 then (0, o.isSome, 0) else if kd = 6 then (0, o.isSome, o.getD 0)
  else if kd = 3 then (0, o.isSome, 0) else if kd = 7 then (0, o.isSome, o.getD 0) else (0, true, 0)
def newF (kd v : Int) (o : Option Int) : Option Int :=
  if kd = 1 then (if o.isSome = true then o else some 0) else if kd = 4 then some v else if kd = 5 then (if o.isSome = true then o else some v) else if kd = 2 then none else if kd = 6 then none else o
theorem putV_ok {l : List S26} (h : Srt l) (hl : l.length ≤ 15) (p : S26) (b : Bool) (a : Int × Bool × Int) : (putV l p b a).2.2 = 0 ∧ (putV l p b a).2.1 = a ∧ Srt (putV l p b a).1 ∧ (putV l p b a).1.length ≤ l.length + 1 ∧ ∀ k, lk (putV l p b a).1 k = if k = p.f0 ∧ b = true then some p.f1 else lk l k := by
  obtain ⟨w1, w2, w3, w4⟩ := withV_lk h hl p
  unfold putV
  cases b with
  | false => rw [if_neg (by decide)]; exact ⟨rfl, rfl, h, by simp, fun k => by rw [if_neg (by simp)]⟩
  | true =>
    rw [if_pos rfl, if_pos w1]
    refine ⟨rfl, rfl, w2, w3, fun k => ?_⟩
    rw [w4 k]
    by_cases e : k = p.f0
    · rw [if_pos e, if_pos ⟨e, rfl⟩]
    · rw [if_neg e, if_neg (fun x => e x.1)]
theorem doV_ok {l : List S26} (h : Srt l) (hl : l.length ≤ 15) (kd k v : Int) (hk : 1 ≤ kd ∧ kd ≤ 8) :
    (doV l kd k v).2.2 = 0 ∧ (doV l kd k v).2.1 = ansF kd (lk l k) ∧ Srt (doV l kd k v).1 ∧ (doV l kd k v).1.length ≤ l.length + 1 ∧ ∀ k', lk (doV l kd k v).1 k' = if k' = k then newF kd v (lk l k) else lk l k' := by
  have hi := isF_lk h k
  have hg := getV_lk h k
  have ho := withoutV_lk h k
  unfold doV ansF newF
  rw [hi, hg]
  have same : ∀ k', lk l k' = if k' = k then lk l k else lk l k' := fun k' => by by_cases e : k' = k <;> simp [e]
  have kd8 : kd = 1 ∨ kd = 2 ∨ kd = 3 ∨ kd = 4 ∨ kd = 5 ∨ kd = 6 ∨ kd = 7 ∨ kd = 8 := by omega
  rcases kd8 with rfl | rfl | rfl | rfl | rfl | rfl | rfl | rfl
  · obtain ⟨a, b, c, d, e⟩ := putV_ok h hl ⟨k, 0⟩ (!(lk l k).isSome) (0, !(lk l k).isSome, 0)
    refine ⟨a, b, c, d, fun k' => (e k').trans ?_⟩
    cases hq : lk l k <;> by_cases e : k' = k <;> simp [e, hq]
  · exact ⟨rfl, rfl, ho.1, by simp; have := ho.2.1; omega, fun k' => (ho.2.2 k').trans (by simp)⟩
  · exact ⟨rfl, rfl, h, by simp, fun k' => by simpa using same k'⟩
  · obtain ⟨a, b, c, d, e⟩ := putV_ok h hl ⟨k, v⟩ true (0, (lk l k).isSome, (lk l k).getD 0)
    refine ⟨a, b, c, d, fun k' => (e k').trans ?_⟩
    by_cases e : k' = k <;> simp [e]
  · obtain ⟨a, b, c, d, e⟩ := putV_ok h hl ⟨k, v⟩ (!(lk l k).isSome) (0, !(lk l k).isSome, (lk l k).getD 0)
    refine ⟨a, b, c, d, fun k' => (e k').trans ?_⟩
    cases hq : lk l k <;> by_cases e : k' = k <;> simp [e, hq]
  · exact ⟨rfl, rfl, ho.1, by simp; have := ho.2.1; omega, fun k' => (ho.2.2 k').trans (by simp)⟩
  · exact ⟨rfl, rfl, h, by simp, fun k' => by simpa using same k'⟩
  · exact ⟨rfl, rfl, h, by simp, fun k' => by simpa using same k'⟩
theorem doV_bad (l : List S26) (kd k v : Int) (hk : ¬ (1 ≤ kd ∧ kd ≤ 8)) : (doV l kd k v).2.2 = 8 := by
  unfold doV
  rw [if_neg (by omega), if_neg (by omega), if_neg (by omega), if_neg (by omega), if_neg (by omega), if_neg (by omega), if_neg (by omega), if_neg (by omega)]
theorem newL_srt : ∀ (r : List S26) (m : List (Int × Int)) (i : Int) (s : List S26) (e : Int), Srt s → Srt (newL m i s e r).1
  | [], m, i, s, e, h => by
    simp only [newL]
    split
    · exact h
    · trivial
  | p :: r, m, i, s, e, h => by
    simp only [newL]
    split
    · trivial
    · split
      · exact newL_srt r _ _ _ _ (withV_srt h p)
      · exact newL_srt r _ _ _ _ h
theorem newL_len : ∀ (r : List S26) (m : List (Int × Int)) (i : Int) (s : List S26) (e : Int), (newL m i s e r).1.length ≤ s.length + r.length
  | [], m, i, s, e => by
    simp only [newL]
    split <;> simp
  | p :: r, m, i, s, e => by
    simp only [newL]
    split
    · simp
    · split
      · have := newL_len r (M.put m p.f0 i) (i + 1) (withV s p).1 (withV s p).2
        have := withV_len s p
        simp only [List.length_cons]
        omega
      · have := newL_len r (M.put m p.f0 i) (i + 1) s e
        simp only [List.length_cons]
        omega
/-- OPERATIONS OF UNLIKE KEYS, in either order. -/
theorem apart_l {s : List S26} (h : Srt s) (hl : s.length ≤ 14) (k1 a1 v1 k2 a2 v2 : Int) (hk1 : 1 ≤ k1 ∧ k1 ≤ 8) (hk2 : 1 ≤ k2 ∧ k2 ≤ 8) (hne : a1 ≠ a2) :
    (doV (doV s k1 a1 v1).1 k2 a2 v2).2.2 = 0 ∧ (doV (doV s k2 a2 v2).1 k1 a1 v1).2.2 = 0 ∧ (doV (doV s k1 a1 v1).1 k2 a2 v2).1 = (doV (doV s k2 a2 v2).1 k1 a1 v1).1 ∧
    (doV s k1 a1 v1).2.1 = (doV (doV s k2 a2 v2).1 k1 a1 v1).2.1 ∧ (doV s k2 a2 v2).2.1 = (doV (doV s k1 a1 v1).1 k2 a2 v2).2.1 := by
  obtain ⟨p1, p2, p3, p4, p5⟩ := doV_ok h (by omega) k1 a1 v1 hk1
  obtain ⟨q1, q2, q3, q4, q5⟩ := doV_ok h (by omega) k2 a2 v2 hk2
  obtain ⟨r1, r2, r3, r4, r5⟩ := doV_ok p3 (by omega) k2 a2 v2 hk2
  obtain ⟨t1, t2, t3, t4, t5⟩ := doV_ok q3 (by omega) k1 a1 v1 hk1
  refine ⟨r1, t1, lk_ext r3 t3 (fun k => ?_), ?_, ?_⟩
  · rw [r5 k, t5 k, p5 k, p5 a2, q5 k, q5 a1, if_neg hne, if_neg hne.symm]
    by_cases e1 : k = a1
    · subst e1
      rw [if_neg hne, if_pos rfl, if_pos rfl]
    · rw [if_neg e1, if_neg e1]
  · rw [p2, t2, q5, if_neg hne]
  · rw [q2, r2, p5, if_neg hne.symm]
end Go.Proofs.Ytcphmelmieedfab.PSpecExact

