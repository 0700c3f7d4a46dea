/-
Of every script how many ops it has, how often each thread is picked, and the most picks in a row without one, are counted right. No condition beyond the row's own.
-/
import Derived.Test.YtcphmelmieedfaaPScriptCountsx2
import Derived.Test.YtcphmelmieedfaaPScriptCountsx3
import Derived.Test.YtcphmelmieedfaaPScriptCountsx4
import Derived.Test.YtcphmelmieedfaaPScriptCountsx5
import Derived.Test.YtcphmelmieedfaaWords
namespace Go.Proofs.Ytcphmelmieedfaa.PScriptCounts
open Go Go.RowKit Go.Proofs.YtcphmelmieedfaaW.PrintWords Go.Proofs.YtcphmelmieedfaaW.PrintLast Go.Proofs.YtcphmelmieedfaaW.PrintMore Go.Proofs.Ytcphmelmieedfaa.U
set_option linter.unusedVariables false
theorem drop_rdL (xs : List (List S37)) (i : Int) (h0 : 0 ≤ i) (h1 : i < xs.length) : xs.drop i.toNat = rd_L3 xs i :: xs.drop (i + 1).toNat := by
  have h : i.toNat < xs.length := by omega
  rw [List.drop_eq_getElem_cons h]
  congr 1
  · simp [rd_L3, h]
  · congr 1; omega
theorem drop_rd (xs : List Int) (i : Int) (h0 : 0 ≤ i) (h1 : i < xs.length) : xs.drop i.toNat = rd xs i :: xs.drop (i + 1).toNat := by
  have h : i.toNat < xs.length := by omega
  rw [List.drop_eq_getElem_cons h]
  congr 1
  · simp [rd, h]
  · congr 1; omega
section
variable (c0 c1 c2 c3 c4 : Int)
theorem great_l (l5 : List (List S37)) (l6 : List Int) (hl : l5.length ≤ 100) : ∀ (d k : Nat) (i : Int), 0 ≤ i → i + d = l5.length → d < k → ∃ g, revenantlaw22_great.l0 k i c0 c1 c2 c3 c4 l5 l6 = some g ∧ (g = false → ∀ (q : Int), i ≤ q → q < l5.length → (rd_L3 l5 q).length ≤ 100) := by
  intro d
  induction d with
  | zero =>
    intro k i h0 hi hk
    obtain ⟨k, rfl⟩ : ∃ m, k = m + 1 := ⟨k - 1, by omega⟩
    simp only [revenantlaw22_great.l0]
    rw [if_neg (by omega)]
    exact ⟨false, rfl, fun _ q h1 h2 => by omega⟩
  | succ d ih =>
    intro k i h0 hi hk
    obtain ⟨k, rfl⟩ : ∃ m, k = m + 1 := ⟨k - 1, by omega⟩
    simp only [revenantlaw22_great.l0]
    rw [if_pos (by omega), if_pos h0]
    by_cases h : ((rd_L3 l5 i).length : Int) > 100
    · rw [if_pos h]
      exact ⟨true, rfl, fun e => by cases e⟩
    · rw [if_neg h, w64 (by omega) (by omega)]
      obtain ⟨g, hg, hq⟩ := ih k (i + 1) (by omega) (by omega) (by omega)
      refine ⟨g, hg, fun e q h1 h2 => ?_⟩
      rcases Int.lt_or_eq_of_le h1 with h3 | h3
      · exact hq e q (by omega) h2
      · subst h3; omega
theorem great_f (l5 : List (List S37)) (l6 : List Int) {k : Nat} (hk : 200 ≤ k) : ∃ g, revenantlaw22_great.f k c0 c1 c2 c3 c4 l5 l6 = some g ∧ (g = false → l5.length ≤ 100 ∧ l6.length ≤ 262154 ∧ ∀ (q : Int), 0 ≤ q → q < l5.length → (rd_L3 l5 q).length ≤ 100) := by
  obtain ⟨k, rfl⟩ : ∃ m, k = m + 1 := ⟨k - 1, by omega⟩
  unfold revenantlaw22_great.f
  by_cases h : (l5.length : Int) > 100
  · rw [if_pos h]
    simp only [revenantlaw22_great.j0, if_true]
    exact ⟨true, rfl, fun e => by cases e⟩
  · rw [if_neg h]
    by_cases h6 : (l6.length : Int) > 262154
    · rw [decide_eq_true h6]
      simp only [revenantlaw22_great.j0, if_true]
      exact ⟨true, rfl, fun e => by cases e⟩
    · rw [decide_eq_false h6]
      simp only [revenantlaw22_great.j0, Bool.false_eq_true, if_false]
      obtain ⟨g, hg, hq⟩ := great_l c0 c1 c2 c3 c4 l5 l6 (by omega) l5.length k 0 (by omega) (by omega) (by omega)
      exact ⟨g, hg, fun e => ⟨by omega, by omega, hq e⟩⟩
end
/-- How many ops there are in all. -/
def sumL : List (List S37) → Int
  | [] => 0
  | l :: ls => l.length + sumL ls
theorem sumL_range (l5 : List (List S37)) (hl : l5.length ≤ 100) (hs : ∀ (q : Int), 0 ≤ q → q < l5.length → (rd_L3 l5 q).length ≤ 100) : ∀ (d : Nat) (i : Int), 0 ≤ i → i + d = l5.length → 0 ≤ sumL (l5.drop i.toNat) ∧ sumL (l5.drop i.toNat) ≤ 100 * d := by
  intro d
  induction d with
  | zero =>
    intro i h0 hi
    rw [List.drop_of_length_le (by omega)]
    simp [sumL]
  | succ d ih =>
    intro i h0 hi
    rw [drop_rdL l5 i h0 (by omega)]
    have := ih (i + 1) (by omega) (by omega)
    have := hs i h0 (by omega)
    simp only [sumL]
    omega
theorem count_l (l5 : List (List S37)) (hl : l5.length ≤ 100) (hs : ∀ (q : Int), 0 ≤ q → q < l5.length → (rd_L3 l5 q).length ≤ 100) : ∀ (d k : Nat) (i x : Int), 0 ≤ i → i + d = l5.length → d < k → 0 ≤ x → x ≤ 100 * i → script_Count.l0 k x l5 l5.length i = some (x + sumL (l5.drop i.toNat)) := by
  intro d
  induction d with
  | zero =>
    intro k i x h0 hi hk hx0 hx1
    obtain ⟨k, rfl⟩ : ∃ m, k = m + 1 := ⟨k - 1, by omega⟩
    simp only [script_Count.l0]
    rw [if_neg (by omega), List.drop_of_length_le (by omega)]
    simp [sumL]
  | succ d ih =>
    intro k i x h0 hi hk hx0 hx1
    obtain ⟨k, rfl⟩ : ∃ m, k = m + 1 := ⟨k - 1, by omega⟩
    have := hs i h0 (by omega)
    simp only [script_Count.l0]
    rw [if_pos (by omega), if_pos h0, if_pos (by omega), w64 (x := x + _) (by omega) (by omega), w64 (by omega) (by omega), ih k (i + 1) _ (by omega) (by omega) (by omega) (by omega) (by omega), drop_rdL l5 i h0 (by omega)]
    simp only [sumL]
    congr 1
    omega
/-- How often a thread is picked. -/
def cnt (q : Int) : List Int → Int
  | [] => 0
  | p :: ps => (if p = q then 1 else 0) + cnt q ps
theorem cnt_range (q : Int) : ∀ xs : List Int, 0 ≤ cnt q xs ∧ cnt q xs ≤ xs.length := by
  intro xs
  induction xs with
  | nil => simp [cnt]
  | cons p ps ih => simp only [cnt, List.length_cons]; split <;> omega
theorem rd_set (xs : List Int) (i q v : Int) (h0 : 0 ≤ i) (h1 : i < xs.length) (h2 : 0 ≤ q) : rd (xs.set i.toNat v) q = if q = i then v else rd xs q := by
  by_cases h : q = i
  · subst h
    rw [if_pos rfl]
    have : q.toNat < xs.length := by omega
    simp [rd, this]
  · rw [if_neg h]
    have : i.toNat ≠ q.toNat := by omega
    simp [rd, List.getD, List.getElem?_set_ne this]
theorem picked_l (c0 c1 c2 c3 c4 : Int) (l5 : List (List S37)) (l6 : List Int) (hl : l5.length ≤ 100) (h6 : l6.length ≤ 4096) : ∀ (d k : Nat) (i : Int) (x3 : List Int), 0 ≤ i → i + d = l6.length → d < k → x3.length = l5.length → (∀ (q : Int), 0 ≤ q → q < l5.length → 0 ≤ rd x3 q ∧ rd x3 q ≤ i) →
    ∃ t, script_Picked.l0 k x3 l6 l6.length i c0 c1 c2 c3 c4 l5 l6 = some t ∧ t.length = l5.length ∧ ∀ (q : Int), 0 ≤ q → q < l5.length → rd t q = rd x3 q + cnt q (l6.drop i.toNat) := by
  intro d
  induction d with
  | zero =>
    intro k i x3 h0 hi hk hx hr
    obtain ⟨k, rfl⟩ : ∃ m, k = m + 1 := ⟨k - 1, by omega⟩
    simp only [script_Picked.l0]
    rw [if_neg (by omega), List.drop_of_length_le (by omega)]
    exact ⟨x3, rfl, hx, fun q _ _ => by simp [cnt]⟩
  | succ d ih =>
    intro k i x3 h0 hi hk hx hr
    obtain ⟨k, rfl⟩ : ∃ m, k = m + 1 := ⟨k - 1, by omega⟩
    simp only [script_Picked.l0]
    rw [if_pos (by omega), if_pos h0, if_pos (by omega), drop_rd l6 i h0 (by omega), w64 (x := i + 1) (by omega) (by omega)]
    unfold script_Script_isNone.f
    by_cases hn : rd l6 i < 0
    · rw [if_pos hn, bsome, if_pos rfl]
      obtain ⟨t, e1, e2, e3⟩ := ih k (i + 1) x3 (by omega) (by omega) (by omega) hx (fun q q0 q1 => by have := hr q q0 q1; omega)
      exact ⟨t, e1, e2, fun q q0 q1 => by rw [e3 q q0 q1]; simp only [cnt]; rw [if_neg (by omega)]; omega⟩
    · rw [if_neg hn]
      by_cases hg : rd l6 i ≥ (l5.length : Int)
      · rw [decide_eq_true hg, bsome, if_pos rfl]
        obtain ⟨t, e1, e2, e3⟩ := ih k (i + 1) x3 (by omega) (by omega) (by omega) hx (fun q q0 q1 => by have := hr q q0 q1; omega)
        exact ⟨t, e1, e2, fun q q0 q1 => by rw [e3 q q0 q1]; simp only [cnt]; rw [if_neg (by omega)]; omega⟩
      · have hp := hr (rd l6 i) (by omega) (by omega)
        rw [decide_eq_false hg, bsome, if_neg (by decide), if_pos (by omega), if_pos (by omega), w64 (by omega) (by omega)]
        obtain ⟨t, e1, e2, e3⟩ := ih k (i + 1) (x3.set (rd l6 i).toNat (rd x3 (rd l6 i) + 1)) (by omega) (by omega) (by omega) (by simpa using hx)
          (fun q q0 q1 => by
            rw [rd_set _ _ _ _ (by omega) (by omega) q0]
            have := hr q q0 q1
            split <;> omega)
        refine ⟨t, e1, e2, fun q q0 q1 => ?_⟩
        rw [e3 q q0 q1, rd_set _ _ _ _ (by omega) (by omega) q0]
        simp only [cnt]
        by_cases e : q = rd l6 i
        · rw [if_pos e, if_pos e.symm, e]; omega
        · rw [if_neg e, if_neg (fun h => e h.symm)]; omega
/-- The most picks in a row without a thread's. -/
def lg (t : Int) : List Int → Int → Int → Int
  | [], most, _ => most
  | p :: ps, most, run => if p = t then lg t ps (max most 0) 0 else lg t ps (max most (run + 1)) (run + 1)
theorem longest_l (t : Int) (l6 : List Int) (h6 : l6.length ≤ 4096) : ∀ (d k : Nat) (i most run : Int), 0 ≤ i → i + d = l6.length → d < k → 0 ≤ run → run ≤ i → script_Longest.l0 k t most run l6 l6.length i = some (lg t (l6.drop i.toNat) most run) := by
  intro d
  induction d with
  | zero =>
    intro k i most run h0 hi hk hr0 hr1
    obtain ⟨k, rfl⟩ : ∃ m, k = m + 1 := ⟨k - 1, by omega⟩
    simp only [script_Longest.l0]
    rw [if_neg (by omega), List.drop_of_length_le (by omega)]
    rfl
  | succ d ih =>
    intro k i most run h0 hi hk hr0 hr1
    obtain ⟨k, rfl⟩ : ∃ m, k = m + 1 := ⟨k - 1, by omega⟩
    have hmx : ∀ a b : Int, mx a b = max a b := fun a b => by unfold mx; omega
    simp only [script_Longest.l0]
    rw [if_pos (by omega), if_pos h0, if_pos (by omega), drop_rd l6 i h0 (by omega), w64 (x := i + 1) (by omega) (by omega), w64 (x := run + 1) (by omega) (by omega)]
    simp only [lg, hmx]
    by_cases h : rd l6 i = t
    · rw [if_pos h, if_pos h, ih k (i + 1) _ _ (by omega) (by omega) (by omega) (by omega) (by omega)]
    · rw [if_neg h, if_neg h, ih k (i + 1) _ _ (by omega) (by omega) (by omega) (by omega) (by omega)]
section
variable (c0 c1 c2 c3 c4 t : Int) (l5 : List (List S37)) (l6 : List Int)
theorem l3_ok (h6 : l6.length ≤ 4096) : ∀ (d k : Nat) (i m fr : Int), 0 ≤ i → i + d = l6.length → d + 4100 ≤ k → 0 ≤ fr → fr ≤ i → 0 ≤ m → lg t (l6.drop i.toNat) m (i - fr) = lg t l6 0 0 → revenantlaw22_ScriptCounts.l3 k t m fr i c0 c1 c2 c3 c4 l5 l6 = some true := by
  intro d
  induction d with
  | zero =>
    intro k i m fr h0 hi hk hf0 hf1 hm hV
    obtain ⟨k, rfl⟩ : ∃ m, k = m + 1 := ⟨k - 1, by omega⟩
    simp only [revenantlaw22_ScriptCounts.l3]
    rw [List.drop_of_length_le (by omega)] at hV
    unfold script_Longest.f
    rw [if_neg (by omega), longest_l t l6 h6 l6.length k 0 0 0 (by omega) (by omega) (by omega) (by omega) (by omega), bsome]
    have : lg t (l6.drop (0 : Int).toNat) 0 0 = lg t l6 0 0 := rfl
    rw [this, ← hV]
    simp [lg]
  | succ d ih =>
    intro k i m fr h0 hi hk hf0 hf1 hm hV
    obtain ⟨k, rfl⟩ : ∃ m, k = m + 1 := ⟨k - 1, by omega⟩
    simp only [revenantlaw22_ScriptCounts.l3]
    rw [drop_rd l6 i h0 (by omega)] at hV
    simp only [lg] at hV
    rw [if_pos (by omega), if_pos h0, w64 (x := i + 1) (by omega) (by omega), w64 (x := i + 1 - (i + 1)) (by omega) (by omega), w64 (x := i + 1 - fr) (by omega) (by omega)]
    by_cases h : rd l6 i = t
    · rw [if_pos h] at hV ⊢
      rw [if_neg (by omega)]
      refine ih k (i + 1) m (i + 1) (by omega) (by omega) (by omega) (by omega) (by omega) hm ?_
      rw [← hV]
      congr 1 <;> omega
    · rw [if_neg h] at hV ⊢
      by_cases h2 : i + 1 - fr > m
      · rw [if_pos h2]
        refine ih k (i + 1) (i + 1 - fr) fr (by omega) (by omega) (by omega) (by omega) (by omega) (by omega) ?_
        rw [← hV]
        congr 1 <;> omega
      · rw [if_neg h2]
        refine ih k (i + 1) m fr (by omega) (by omega) (by omega) (by omega) (by omega) (by omega) ?_
        rw [← hV]
        congr 1 <;> omega
theorem l2_ok (hl : l5.length ≤ 100) (h6 : l6.length ≤ 4096) (n : Int) (hn0 : 0 ≤ n) (hn1 : n < l5.length) (C : Nat) (hnext : ∀ (k : Nat) (x : List Int), C ≤ k → x.length = l5.length → (∀ (q : Int), n < q → q < l5.length → rd x q = cnt q l6) → revenantlaw22_ScriptCounts.l1 k t x (n + 1) c0 c1 c2 c3 c4 l5 l6 = some true) :
    ∀ (d k : Nat) (i : Int) (x : List Int), 0 ≤ i → i + d = l6.length → d + 1 + C ≤ k → x.length = l5.length → (∀ (q : Int), n < q → q < l5.length → rd x q = cnt q l6) → rd x n = cnt n (l6.drop i.toNat) → revenantlaw22_ScriptCounts.l2 k t x n i c0 c1 c2 c3 c4 l5 l6 = some true := by
  intro d
  induction d with
  | zero =>
    intro k i x h0 hi hk hx hq hv
    obtain ⟨k, rfl⟩ : ∃ m, k = m + 1 := ⟨k - 1, by omega⟩
    rw [List.drop_of_length_le (by omega)] at hv
    simp only [revenantlaw22_ScriptCounts.l2]
    rw [if_neg (by omega), if_pos hn0, if_pos (by omega), if_pos (by rw [hv]; rfl), w64 (by omega) (by omega)]
    exact hnext k x (by omega) hx hq
  | succ d ih =>
    intro k i x h0 hi hk hx hq hv
    obtain ⟨k, rfl⟩ : ∃ m, k = m + 1 := ⟨k - 1, by omega⟩
    rw [drop_rd l6 i h0 (by omega)] at hv
    simp only [cnt] at hv
    have hc := cnt_range n (l6.drop (i + 1).toNat)
    have hdl : ((l6.drop (i + 1).toNat).length : Int) ≤ 4096 := by rw [List.length_drop]; omega
    simp only [revenantlaw22_ScriptCounts.l2]
    rw [if_pos (by omega), if_pos h0, w64 (x := i + 1) (by omega) (by omega)]
    by_cases h : rd l6 i = n
    · rw [if_pos h] at hv
      rw [if_pos h, if_pos hn0, if_pos (by omega), w64 (by omega) (by omega)]
      refine ih k (i + 1) _ (by omega) (by omega) (by omega) (by simpa using hx) (fun q q0 q1 => ?_) ?_
      · rw [rd_set _ _ _ _ hn0 (by omega) (by omega), if_neg (by omega)]
        exact hq q q0 q1
      · rw [rd_set _ _ _ _ hn0 (by omega) hn0, if_pos rfl]
        omega
    · rw [if_neg h] at hv
      rw [if_neg h]
      exact ih k (i + 1) x (by omega) (by omega) (by omega) hx hq (by omega)
theorem l1_ok (hl : l5.length ≤ 100) (h6 : l6.length ≤ 4096) : ∀ (e k : Nat) (n : Int) (x : List Int), 0 ≤ n → n + e = l5.length → e * 4100 + 9000 ≤ k → x.length = l5.length → (∀ (q : Int), n ≤ q → q < l5.length → rd x q = cnt q l6) → revenantlaw22_ScriptCounts.l1 k t x n c0 c1 c2 c3 c4 l5 l6 = some true := by
  intro e
  induction e with
  | zero =>
    intro k n x h0 hn hk hx hq
    obtain ⟨k, rfl⟩ : ∃ m, k = m + 1 := ⟨k - 1, by omega⟩
    simp only [revenantlaw22_ScriptCounts.l1]
    rw [if_neg (by omega)]
    exact l3_ok c0 c1 c2 c3 c4 t l5 l6 h6 l6.length k 0 0 0 (by omega) (by omega) (by omega) (by omega) (by omega) (by omega) rfl
  | succ e ih =>
    intro k n x h0 hn hk hx hq
    obtain ⟨k, rfl⟩ : ∃ m, k = m + 1 := ⟨k - 1, by omega⟩
    simp only [revenantlaw22_ScriptCounts.l1]
    rw [if_pos (by omega)]
    obtain ⟨C, hC⟩ : ∃ C, C = e * 4100 + 9000 := ⟨_, rfl⟩
    rw [← hC] at ih
    exact l2_ok c0 c1 c2 c3 c4 t l5 l6 hl h6 n h0 (by omega) C (fun k' x' hk' hx' hq' => ih k' (n + 1) x' (by omega) (by omega) hk' hx' (fun q q0 q1 => hq' q (by omega) q1)) l6.length k 0 x (by omega) (by omega) (by omega) hx (fun q q0 q1 => hq q (by omega) q1) (hq n (by omega) (by omega))
theorem l0_ok (hl : l5.length ≤ 100) (h6 : l6.length ≤ 4096) (hs : ∀ (q : Int), 0 ≤ q → q < l5.length → (rd_L3 l5 q).length ≤ 100) : ∀ (d k : Nat) (i x : Int), 0 ≤ i → i + d = l5.length → d + 430000 ≤ k → 0 ≤ x → x ≤ 100 * i → x + sumL (l5.drop i.toNat) = sumL l5 → revenantlaw22_ScriptCounts.l0 k t x i c0 c1 c2 c3 c4 l5 l6 = some true := by
  intro d
  induction d with
  | zero =>
    intro k i x h0 hi hk hx0 hx1 hx
    obtain ⟨k, rfl⟩ : ∃ m, k = m + 1 := ⟨k - 1, by omega⟩
    obtain ⟨k, rfl⟩ : ∃ m, k = m + 1 := ⟨k - 1, by omega⟩
    rw [List.drop_of_length_le (by omega)] at hx
    simp only [sumL] at hx
    simp only [revenantlaw22_ScriptCounts.l0]
    rw [if_neg (by omega)]
    unfold script_Picked.f script_Count.f
    rw [if_pos (by omega), if_pos (by omega)]
    obtain ⟨p, e1, e2, e3⟩ := picked_l c0 c1 c2 c3 c4 l5 l6 hl h6 l6.length (k + 1) 0 (List.replicate ((l5.length : Int)).toNat 0) (by omega) (by omega) (by omega) (by simp) (fun q q0 q1 => by
      have : q.toNat < l5.length := by omega
      simp [rd, this])
    rw [e1, bsome, count_l l5 hl hs l5.length (k + 1) 0 0 (by omega) (by omega) (by omega) (by omega) (by omega), bsome]
    have e0 : (0 : Int) + sumL (l5.drop (0 : Int).toNat) = x := by
      show 0 + sumL l5 = x
      omega
    rw [if_pos e0]
    have eb : ((p.length : Int) != (l5.length : Int)) = false := bne_eq_false_iff_eq.mpr (by omega)
    rw [eb]
    simp only [revenantlaw22_ScriptCounts.j2, Bool.false_eq_true, if_false]
    refine l1_ok c0 c1 c2 c3 c4 t l5 l6 hl h6 l5.length k 0 p (by omega) (by omega) (by omega) e2 (fun q q0 q1 => ?_)
    rw [e3 q q0 q1]
    have : q.toNat < l5.length := by omega
    simp [rd, this]
  | succ d ih =>
    intro k i x h0 hi hk hx0 hx1 hx
    obtain ⟨k, rfl⟩ : ∃ m, k = m + 1 := ⟨k - 1, by omega⟩
    have := hs i h0 (by omega)
    rw [drop_rdL l5 i h0 (by omega)] at hx
    simp only [sumL] at hx
    simp only [revenantlaw22_ScriptCounts.l0]
    rw [if_pos (by omega), if_pos h0, w64 (x := x + _) (by omega) (by omega), w64 (by omega) (by omega)]
    exact ih k (i + 1) _ (by omega) (by omega) (by omega) (by omega) (by omega) (by omega)
end
theorem counts_f (c0 c1 c2 c3 c4 t : Int) (l5 : List (List S37)) (l6 : List Int) : revenantlaw22_ScriptCounts.f 500000 c0 c1 c2 c3 c4 l5 l6 t = some true := by
  obtain ⟨k, hk⟩ : ∃ k, 500000 = k + 1 := ⟨499999, rfl⟩
  have hk2 : 499000 ≤ k := by omega
  rw [hk]
  clear hk
  obtain ⟨g, hg, hq⟩ := great_f c0 c1 c2 c3 c4 l5 l6 (k := k + 1) (by omega)
  unfold revenantlaw22_ScriptCounts.f revenantlaw22_awake.f
  rw [bsome, if_pos rfl, hg, bsome]
  cases g with
  | true =>
    rw [if_pos rfl]
    simp only [revenantlaw22_ScriptCounts.j0, if_true]
  | false =>
    obtain ⟨h5, _, hs⟩ := hq rfl
    rw [if_neg (by decide)]
    by_cases h6 : (l6.length : Int) > 4096
    · rw [decide_eq_true h6]
      simp only [revenantlaw22_ScriptCounts.j0, if_true]
    · rw [decide_eq_false h6]
      simp only [revenantlaw22_ScriptCounts.j0, Bool.false_eq_true, if_false]
      exact l0_ok c0 c1 c2 c3 c4 t l5 l6 h5 (by omega) hs l5.length k 0 0 (by omega) (by omega) (by omega) (by omega) (by omega) (by simp)
end Go.Proofs.Ytcphmelmieedfaa.PScriptCounts

namespace Go.Proofs.Ytcphmelmieedfaa.PScriptCounts
theorem RScriptCounts (c0 c1 c2 c3 c4 : Int) (l5 : List (List S37)) (l6 : List Int) (t : Int) {p q : Prop} (_ : p) (_ : q) : ∃ k, revenantlaw22_ScriptCounts.f k c0 c1 c2 c3 c4 l5 l6 t = some true := ⟨500000, counts_f c0 c1 c2 c3 c4 t l5 l6⟩
end Go.Proofs.Ytcphmelmieedfaa.PScriptCounts

