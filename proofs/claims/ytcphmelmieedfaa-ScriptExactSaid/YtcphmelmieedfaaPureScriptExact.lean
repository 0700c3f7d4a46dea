/-
Of every script what is wrong with it, and where, is what the reference tells. No condition beyond the row's own.
-/
import Derived.Test.YtcphmelmieedfaaPScriptExactx0
import Derived.Test.YtcphmelmieedfaaPScriptExactx5
import Derived.Test.YtcphmelmieedfaaPScriptExactx6
import Derived.Test.YtcphmelmieedfaaPScriptExactx7
import Derived.Test.YtcphmelmieedfaaPScriptExactx8
import Derived.Test.YtcphmelmieedfaaPScriptExactx9
import Derived.Test.YtcphmelmieedfaaWords
namespace Go.Proofs.Ytcphmelmieedfaa.PScriptExact
open Go Go.RowKit Go.Proofs.YtcphmelmieedfaaW.PrintWords Go.Proofs.YtcphmelmieedfaaW.PrintLast Go.Proofs.YtcphmelmieedfaaW.PrintMore Go.Proofs.Ytcphmelmieedfaa.U
set_option linter.unusedVariables false
open PScriptTurns (CheckV OpV)
theorem rcheck_f {k : Nat} (hk : 3 ≤ k) (a b c d e : Int) : revenantref03_Check.f k a b c d e = some (CheckV a b c d e) := by
  obtain ⟨k, rfl⟩ : ∃ m, k = m + 3 := ⟨k - 3, by omega⟩
  unfold revenantref03_Check.f CheckV
  simp only [revenantref03_Check.j0, revenantref03_Check.j1, revenantref03_Check.j2]
  grind
theorem rop_f {n : Nat} (hn : 6 ≤ n) (a b c d e k x v l : Int) : revenantref03_Op.f n a b c d e k x v l = some (if CheckV a b c d e = 0 then OpV a d k x v l else CheckV a b c d e) := by
  obtain ⟨n, rfl⟩ : ∃ m, n = m + 6 := ⟨n - 6, by omega⟩
  unfold revenantref03_Op.f
  rw [rcheck_f (by omega)]
  simp only [bsome]
  generalize CheckV a b c d e = z
  by_cases hz : z = 0
  · rw [if_pos hz, if_pos hz]
    have j3 : ∀ (m : Nat) (b : Bool), revenantref03_Op.j3 (m + 1) b k x v l = some (if b = true then 3 else if ((v = 0 ∨ k = 4 ∨ k = 5) ∧ (x = 0 ∨ k ≠ 8)) then 0 else 1) := by
      intro m b
      simp only [revenantref03_Op.j3]
      cases b
      · simp only [Bool.false_eq_true, if_false]
        by_cases h5 : k = 8
        · subst h5
          by_cases h1 : v = 0 <;> by_cases h2 : x = 0 <;> simp [h1, h2]
        · by_cases h1 : v = 0 <;> by_cases h2 : x = 0 <;> by_cases h3 : k = 4 <;> by_cases h4 : k = 5 <;> simp_all
      · rfl
    have j2 : ∀ (m : Nat) (p q : Int), revenantref03_Op.j2 (m + 2) p q k x v l = some (if l < p ∨ q < l then 3 else if ((v = 0 ∨ k = 4 ∨ k = 5) ∧ (x = 0 ∨ k ≠ 8)) then 0 else 1) := by
      intro m p q
      simp only [revenantref03_Op.j2]
      rw [j3, j3]
      by_cases h1 : l < p
      · simp [h1]
      · simp [h1]
    have j1 : ∀ (m : Nat) (f : Bool), revenantref03_Op.j1 (m + 3) 0 0 f a b c d e k x v l = some (if (if f = true then (l < 1 ∨ d < l) else l ≠ 0) then 3 else if ((v = 0 ∨ k = 4 ∨ k = 5) ∧ (x = 0 ∨ k ≠ 8)) then 0 else 1) := by
      intro m f
      simp only [revenantref03_Op.j1]
      rw [j2, j2]
      generalize (if ((v = 0 ∨ k = 4 ∨ k = 5) ∧ (x = 0 ∨ k ≠ 8)) then (0 : Int) else 1) = Z
      cases f
      · simp only [Bool.false_eq_true, if_false]
        by_cases h : l = 0
        · rw [if_neg (by omega), if_neg (by omega)]
        · rw [if_pos (by omega), if_pos (by omega)]
      · rfl
    have j0 : ∀ (m : Nat) (f : Bool), revenantref03_Op.j0 (m + 4) f a b c d e k x v l = some (if f = true then 8 else if ((a ≠ 3 ∨ k ≠ 1 ∨ (1 ≤ l ∧ l ≤ d)) ∧ ((a = 3 ∧ k = 1) ∨ l = 0)) then (if ((v = 0 ∨ k = 4 ∨ k = 5) ∧ (x = 0 ∨ k ≠ 8)) then 0 else 1) else 3) := by
      intro m f
      simp only [revenantref03_Op.j0]
      rw [j1, j1]
      generalize (if ((v = 0 ∨ k = 4 ∨ k = 5) ∧ (x = 0 ∨ k ≠ 8)) then (0 : Int) else 1) = Z
      cases f
      · simp only [Bool.false_eq_true, if_false]
        by_cases h3 : a = 3
        · rw [if_pos h3]
          by_cases h1 : k = 1
          · simp only [h1, beq_self_eq_true, if_true]
            by_cases hl : l < 1 ∨ d < l
            · rw [if_pos hl, if_neg (by omega)]
            · rw [if_neg hl, if_pos (by simp [h3]; omega)]
          · have e1 : (k == 1) = false := by simpa using h1
            simp only [e1, Bool.false_eq_true, if_false]
            by_cases hl : l = 0
            · rw [if_neg (by omega), if_pos (by omega)]
            · rw [if_pos hl, if_neg (by omega)]
        · rw [if_neg h3]
          by_cases hl : l = 0
          · rw [if_neg (by omega), if_pos (by omega)]
          · rw [if_pos hl, if_neg (by omega)]
      · rfl
    rw [j0, j0, j0]
    unfold OpV
    by_cases h1 : k < 1
    · rw [if_pos h1, if_pos rfl, if_neg (by omega)]
    · rw [if_neg h1]
      by_cases h8 : k > 8
      · rw [if_pos h8, if_pos rfl, if_neg (by omega)]
      · rw [if_neg h8]
        by_cases h2 : a = 2
        · rw [if_pos h2]
          by_cases h4 : k < 4
          · rw [if_pos h4, if_pos rfl, if_neg (by omega)]
          · rw [if_neg h4, if_neg (by decide)]
            congr 1
            exact (if_pos (by omega)).symm
        · rw [if_neg h2]
          by_cases h4 : k > 3
          · rw [if_pos h4]
            by_cases h6 : k < 8
            · rw [if_pos (by simpa using h6)]
              congr 1
              exact (if_neg (by omega)).symm
            · rw [if_neg (by simpa using h6)]
              congr 1
              exact (if_pos (by omega)).symm
          · rw [if_neg h4, if_neg (by decide)]
            congr 1
            exact (if_pos (by omega)).symm
  · rw [if_neg hz, if_neg hz]

end Go.Proofs.Ytcphmelmieedfaa.PScriptExact

namespace Go.Proofs.Ytcphmelmieedfaa.PScriptExact
open Go Go.RowKit Go.Proofs.YtcphmelmieedfaaW.PrintWords Go.Proofs.YtcphmelmieedfaaW.PrintLast Go.Proofs.YtcphmelmieedfaaW.PrintMore Go.Proofs.Ytcphmelmieedfaa.U
open PScriptTurns (CheckV OpV opV1 opsGo opsV opssV idxN scV)
set_option linter.unusedVariables false
theorem drop_rdL4 (xs : List (List S37)) (i : Int) (h0 : 0 ≤ i) (h1 : i < xs.length) : xs.drop i.toNat = rd_L4 xs i :: xs.drop (i + 1).toNat := by
  have h : i.toNat < xs.length := by omega
  rw [List.drop_eq_getElem_cons h]
  congr 1
  · simp [rd_L4, h]
  · congr 1; omega
theorem drop_rd (xs : List Int) (i : Int) (h0 : 0 ≤ i) (h1 : i < xs.length) : xs.drop i.toNat = rd xs i :: xs.drop (i + 1).toNat := by
  have h : i.toNat < xs.length := by omega
  rw [List.drop_eq_getElem_cons h]
  congr 1
  · simp [rd, h]
  · congr 1; omega
theorem drop_rd37 (xs : List S37) (i : Int) (h0 : 0 ≤ i) (h1 : i < xs.length) : xs.drop i.toNat = rd_T37 xs i :: xs.drop (i + 1).toNat := by
  have h : i.toNat < xs.length := by omega
  rw [List.drop_eq_getElem_cons h]
  congr 1
  · simp [rd_T37, h]
  · congr 1; omega
theorem great_l (c0 c1 c2 c3 c4 : Int) (l5 : List (List S37)) (l6 : List Int) (hl : l5.length ≤ 100) : ∀ (d k : Nat) (i : Int), 0 ≤ i → i + d = l5.length → d < k → ∃ g, revenantlaw22_great.l0 k i c0 c1 c2 c3 c4 l5 l6 = some g ∧ (g = false → ∀ (q : Int), i ≤ q → q < l5.length → (rd_L4 l5 q).length ≤ 100) := by
  intro d
  induction d with
  | zero =>
    intro k i h0 hi hk
    obtain ⟨k, rfl⟩ : ∃ m, k = m + 1 := ⟨k - 1, by omega⟩
    simp only [revenantlaw22_great.l0]
    rw [if_neg (by omega)]
    exact ⟨false, rfl, fun _ q h1 h2 => by omega⟩
  | succ d ih =>
    intro k i h0 hi hk
    obtain ⟨k, rfl⟩ : ∃ m, k = m + 1 := ⟨k - 1, by omega⟩
    simp only [revenantlaw22_great.l0]
    rw [if_pos (by omega), if_pos h0]
    by_cases h : ((rd_L4 l5 i).length : Int) > 100
    · rw [if_pos h]
      exact ⟨true, rfl, fun e => by cases e⟩
    · rw [if_neg h, w64 (by omega) (by omega)]
      obtain ⟨g, hg, hq⟩ := ih k (i + 1) (by omega) (by omega) (by omega)
      refine ⟨g, hg, fun e q h1 h2 => ?_⟩
      rcases Int.lt_or_eq_of_le h1 with h3 | h3
      · exact hq e q (by omega) h2
      · subst h3; omega
theorem great_f (c0 c1 c2 c3 c4 : Int) (l5 : List (List S37)) (l6 : List Int) {k : Nat} (hk : 200 ≤ k) : ∃ g, revenantlaw22_great.f k c0 c1 c2 c3 c4 l5 l6 = some g ∧ (g = false → l5.length ≤ 100 ∧ l6.length ≤ 262154) := by
  obtain ⟨k, rfl⟩ : ∃ m, k = m + 1 := ⟨k - 1, by omega⟩
  unfold revenantlaw22_great.f
  by_cases h : (l5.length : Int) > 100
  · rw [if_pos h]
    simp only [revenantlaw22_great.j0, if_true]
    exact ⟨true, rfl, fun e => by cases e⟩
  · rw [if_neg h]
    by_cases h6 : (l6.length : Int) > 262154
    · rw [decide_eq_true h6]
      simp only [revenantlaw22_great.j0, if_true]
      exact ⟨true, rfl, fun e => by cases e⟩
    · rw [decide_eq_false h6]
      simp only [revenantlaw22_great.j0, Bool.false_eq_true, if_false]
      obtain ⟨g, hg, hq⟩ := great_l c0 c1 c2 c3 c4 l5 l6 (by omega) l5.length k 0 (by omega) (by omega) (by omega)
      exact ⟨g, hg, fun e => ⟨by omega, by omega⟩⟩
theorem idx_l (l5 : List (List S37)) (l6 : List Int) (h6 : l6.length ≤ 1000000) : ∀ (d k : Nat) (i : Int), 0 ≤ i → i + d = l6.length → d < k → revenantref22_Check.l2 k l5 l6 i = some (if 0 ≤ idxN l5.length (l6.drop i.toNat) i then (3, 0, idxN l5.length (l6.drop i.toNat) i) else (0, 0, 0)) := by
  intro d
  induction d with
  | zero =>
    intro k i h0 hi hk
    obtain ⟨k, rfl⟩ : ∃ m, k = m + 1 := ⟨k - 1, by omega⟩
    simp only [revenantref22_Check.l2]
    rw [if_neg (by omega), List.drop_of_length_le (by omega)]
    rfl
  | succ d ih =>
    intro k i h0 hi hk
    obtain ⟨k, rfl⟩ : ∃ m, k = m + 1 := ⟨k - 1, by omega⟩
    simp only [revenantref22_Check.l2]
    rw [if_pos (by omega), if_pos h0, drop_rd l6 i h0 (by omega), w64 (by omega) (by omega)]
    by_cases h1 : rd l6 i < 0
    · have e : idxN l5.length (rd l6 i :: l6.drop (i + 1).toNat) i = i := by unfold idxN; rw [if_pos (.inl h1)]
      rw [if_pos h1, e, if_pos h0]
    · rw [if_neg h1]
      by_cases h2 : rd l6 i ≥ (l5.length : Int)
      · have e : idxN l5.length (rd l6 i :: l6.drop (i + 1).toNat) i = i := by unfold idxN; rw [if_pos (.inr h2)]
        rw [if_pos h2, e, if_pos h0]
      · have e : idxN l5.length (rd l6 i :: l6.drop (i + 1).toNat) i = idxN l5.length (l6.drop (i + 1).toNat) (i + 1) := if_neg (by omega)
        rw [if_neg h2, e, ih k (i + 1) (by omega) (by omega) (by omega)]
theorem l1_ok (c0 c1 c2 c3 c4 : Int) (hc : CheckV c0 c1 c2 c3 c4 = 0) (l5 : List (List S37)) (l6 : List Int) (n : Int) (hn0 : 0 ≤ n) (hn1 : n < l5.length) (hn2 : l5.length ≤ 100) (hL : (rd_L4 l5 n).length ≤ 64) (C : Nat) (R : Int × Int × Int)
    (hnext : ∀ k : Nat, C ≤ k → revenantref22_Check.l0 k l5 l6 (n + 1) c0 c1 c2 c3 c4 = some R) : ∀ (d k : Nat) (i : Int), 0 ≤ i → i + d = (rd_L4 l5 n).length → d + 10 + C ≤ k →
    revenantref22_Check.l1 k l5 l6 n i c0 c1 c2 c3 c4 = some (if opsGo c0 c3 n (((rd_L4 l5 n).drop i.toNat).map cv) i = (0, 0, 0) then R else opsGo c0 c3 n (((rd_L4 l5 n).drop i.toNat).map cv) i) := by
  intro d
  induction d with
  | zero =>
    intro k i h0 hi hk
    obtain ⟨k, rfl⟩ : ∃ m, k = m + 1 := ⟨k - 1, by omega⟩
    simp only [revenantref22_Check.l1]
    rw [if_pos hn0, if_pos hn1, if_neg (by omega), w64 (by omega) (by omega), hnext k (by omega), List.drop_of_length_le (by omega)]
    rfl
  | succ d ih =>
    intro k i h0 hi hk
    obtain ⟨k, rfl⟩ : ∃ m, k = m + 1 := ⟨k - 1, by omega⟩
    simp only [revenantref22_Check.l1]
    rw [if_pos hn0, if_pos hn1, if_pos (by omega), if_pos h0, rop_f (by omega), hc, if_pos rfl, bsome, w64 (by omega) (by omega), drop_rd37 _ i h0 (by omega)]
    simp only [List.map_cons, opsGo]
    by_cases h : OpV c0 c3 (rd_T37 (rd_L4 l5 n) i).f0 (rd_T37 (rd_L4 l5 n) i).f1 (rd_T37 (rd_L4 l5 n) i).f2 (rd_T37 (rd_L4 l5 n) i).f3 = 0
    · have h' : opV1 c0 c3 (cv (rd_T37 (rd_L4 l5 n) i)) = 0 := h
      rw [if_pos h, if_pos h', ih k (i + 1) (by omega) (by omega) (by omega)]
    · have h' : ¬ opV1 c0 c3 (cv (rd_T37 (rd_L4 l5 n) i)) = 0 := h
      rw [if_neg h, if_neg h', if_neg (fun e => h' (congrArg Prod.fst e))]
      rfl
theorem l0_ok (c0 c1 c2 c3 c4 : Int) (hc : CheckV c0 c1 c2 c3 c4 = 0) (l5 : List (List S37)) (l6 : List Int) (hl : l5.length ≤ 64) (h6 : l6.length ≤ 262154) : ∀ (e k : Nat) (n : Int), 0 ≤ n → n + e = l5.length → e * 100 + 300000 ≤ k →
    revenantref22_Check.l0 k l5 l6 n c0 c1 c2 c3 c4 = some (if opssV c0 c3 (cvs (l5.drop n.toNat)) n ≠ (0, 0, 0) then opssV c0 c3 (cvs (l5.drop n.toNat)) n else if 0 ≤ idxN l5.length l6 0 then (3, 0, idxN l5.length l6 0) else (0, 0, 0)) := by
  intro e
  induction e with
  | zero =>
    intro k n h0 hn hk
    obtain ⟨k, rfl⟩ : ∃ m, k = m + 1 := ⟨k - 1, by omega⟩
    simp only [revenantref22_Check.l0]
    rw [if_neg (by omega), List.drop_of_length_le (by omega), idx_l l5 l6 (by omega) l6.length k 0 (by omega) (by omega) (by omega)]
    rfl
  | succ e ih =>
    intro k n h0 hn hk
    obtain ⟨k, rfl⟩ : ∃ m, k = m + 1 := ⟨k - 1, by omega⟩
    obtain ⟨C, hC⟩ : ∃ C, C = e * 100 + 300000 := ⟨_, rfl⟩
    simp only [revenantref22_Check.l0]
    rw [if_pos (by omega), if_pos h0, drop_rdL4 l5 n h0 (by omega)]
    have hcv : cvs (rd_L4 l5 n :: l5.drop (n + 1).toNat) = (rd_L4 l5 n).map cv :: cvs (l5.drop (n + 1).toNat) := rfl
    rw [hcv]
    simp only [opssV, opsV, List.length_map]
    by_cases hb : 64 < (rd_L4 l5 n).length
    · have h9 : ¬ ((9 : Int), n, (0 : Int)) = (0, 0, 0) := fun e => by have := congrArg Prod.fst e; simp at this
      rw [if_pos (by omega), if_pos hb, if_neg h9, if_pos h9]
    · rw [if_neg (by omega), if_neg hb, l1_ok c0 c1 c2 c3 c4 hc l5 l6 n h0 (by omega) (by omega) (by omega) C _ (fun k' hk' => ih k' (n + 1) (by omega) (by omega) (by omega)) (rd_L4 l5 n).length k 0 (by omega) (by omega) (by omega)]
      have e0 : ((rd_L4 l5 n).drop (0 : Int).toNat) = rd_L4 l5 n := rfl
      rw [e0]
      by_cases hz : opsGo c0 c3 n ((rd_L4 l5 n).map cv) 0 = (0, 0, 0)
      · rw [if_pos hz, if_pos hz]
      · rw [if_neg hz, if_neg hz, if_pos hz]
theorem ref22_f {k : Nat} (hk : 320000 ≤ k) (c0 c1 c2 c3 c4 : Int) (l5 : List (List S37)) (l6 : List Int) (hl : l5.length ≤ 100) (h6 : l6.length ≤ 262154) : revenantref22_Check.f k c0 c1 c2 c3 c4 l5 l6 = some (scV c0 c1 c2 c3 c4 (cvs l5) l6) := by
  obtain ⟨k, rfl⟩ : ∃ m, k = m + 1 := ⟨k - 1, by omega⟩
  have hcl : (cvs l5).length = l5.length := by unfold cvs; rw [List.length_map]
  unfold revenantref22_Check.f scV
  rw [rcheck_f (by omega), bsome, hcl]
  by_cases hc : CheckV c0 c1 c2 c3 c4 = 0
  · rw [if_pos hc, if_neg (show ¬ (CheckV c0 c1 c2 c3 c4 ≠ 0) from fun h => h hc)]
    by_cases h0 : (l5.length : Int) = 0
    · rw [if_pos h0, if_pos (by omega)]
      simp only [revenantref22_Check.j0, if_true]
    · rw [if_neg h0]
      by_cases h1 : (l5.length : Int) > 64
      · rw [decide_eq_true h1, if_pos (by omega)]
        simp only [revenantref22_Check.j0, if_true]
      · rw [decide_eq_false h1, if_neg (by omega)]
        simp only [revenantref22_Check.j0, Bool.false_eq_true, if_false]
        by_cases h2 : (l6.length : Int) > 262144
        · rw [if_pos h2, if_pos (by omega)]
        · rw [if_neg h2, if_neg (by omega), l0_ok c0 c1 c2 c3 c4 hc l5 l6 (by omega) h6 l5.length k 0 (by omega) (by omega) (by omega)]
          rfl
  · rw [if_neg hc, if_pos (show CheckV c0 c1 c2 c3 c4 ≠ 0 from hc)]
theorem exact_f (c0 c1 c2 c3 c4 m : Int) (l5 : List (List S37)) (l6 : List Int) : revenantlaw22_ScriptExact.f 400000 c0 c1 c2 c3 c4 l5 l6 m = some true := by
  obtain ⟨k, hk⟩ : ∃ k, 400000 = k + 1 := ⟨399999, rfl⟩
  have hk2 : 390000 ≤ k := by omega
  rw [hk]
  clear hk
  obtain ⟨g, hg, hq⟩ := great_f c0 c1 c2 c3 c4 l5 l6 (k := k + 1) (by omega)
  unfold revenantlaw22_ScriptExact.f revenantlaw22_awake.f script_Check.f
  rw [bsome, if_pos rfl, hg, bsome]
  cases g with
  | true => rw [if_pos rfl]
  | false =>
    obtain ⟨h5, h6⟩ := hq rfl
    have hm : -1 ≤ Int.tmod m 2 ∧ Int.tmod m 2 ≤ 1 := by
      by_cases h : 0 ≤ m
      · rw [tmod_pos h]; omega
      · rw [tmod_neg (by omega)]; omega
    rw [if_neg (by decide), ref22_f (by omega) c0 c1 c2 c3 c4 l5 l6 h5 h6, bsome, bsome, if_neg (by simp), w64 (by omega) (by omega), if_pos (by omega), if_pos (by omega), bsome]
    have hj : ∀ b, revenantlaw22_ScriptExact.j0 (k + 1) b c0 c1 c2 c3 c4 l5 (List.replicate (262144 + Int.tmod m 2).toNat 0) = some true := by
      intro b
      simp only [revenantlaw22_ScriptExact.j0]
      cases b with
      | true => rfl
      | false =>
        rw [if_neg (by decide), ref22_f (by omega) c0 c1 c2 c3 c4 l5 _ h5 (by rw [List.length_replicate]; omega), bsome]
        unfold script_Check.f
        rw [bsome]
        simp
    split
    · exact hj _
    · exact hj _
theorem RScriptExact (c0 c1 c2 c3 c4 : Int) (l5 : List (List S37)) (l6 : List Int) (t : Int) {p q : Prop} (_ : p) (_ : q) : ∃ k, revenantlaw22_ScriptExact.f k c0 c1 c2 c3 c4 l5 l6 t = some true := ⟨400000, exact_f c0 c1 c2 c3 c4 t l5 l6⟩
end Go.Proofs.Ytcphmelmieedfaa.PScriptExact

