/-
Whether rows are the same, and what is wrong with a script, in plain words.
-/
import Derived.Test.YtcphmelmieedfaaPScriptTurnsx0
import Derived.Test.YtcphmelmieedfaaPScriptTurnsx1
import Derived.Test.YtcphmelmieedfaaPScriptTurnsx2
import Derived.Test.YtcphmelmieedfaaPScriptTurnsx3
import Derived.Test.YtcphmelmieedfaaWords
namespace Go.Proofs.Ytcphmelmieedfaa.PScriptTurns
open Go Go.RowKit Go.Proofs.YtcphmelmieedfaaW.PrintWords Go.Proofs.YtcphmelmieedfaaW.PrintLast Go.Proofs.YtcphmelmieedfaaW.PrintMore
set_option linter.unusedVariables false
theorem S37.ext' {a b : S37} (h0 : a.f0 = b.f0) (h1 : a.f1 = b.f1) (h2 : a.f2 = b.f2) (h3 : a.f3 = b.f3) : a = b := by
  cases a; cases b; simp_all
instance : DecidableEq S37 := fun a b => if h : a.f0 = b.f0 ∧ a.f1 = b.f1 ∧ a.f2 = b.f2 ∧ a.f3 = b.f3 then isTrue (S37.ext' h.1 h.2.1 h.2.2.1 h.2.2.2) else isFalse (fun e => h (by subst e; exact ⟨rfl, rfl, rfl, rfl⟩))
theorem eqOp_l {xs ys : List S37} (hl : xs.length = ys.length) (hb : xs.length ≤ 9223372036854775807) : ∀ (d : Nat) (k : Nat) (i : Int), 0 ≤ i → i + d = xs.length → d < k → api_Op_44.l0 k xs ys xs.length i = some (decide (xs.drop i.toNat = ys.drop i.toNat)) := by
  intro d
  induction d with
  | zero =>
    intro k i h0 hi hk
    obtain ⟨k, rfl⟩ : ∃ m, k = m + 1 := ⟨k - 1, by omega⟩
    simp only [api_Op_44.l0]
    rw [if_neg (by omega), List.drop_of_length_le (by omega), List.drop_of_length_le (by omega)]
    simp
  | succ d ih =>
    intro k i h0 hi hk
    obtain ⟨k, rfl⟩ : ∃ m, k = m + 1 := ⟨k - 1, by omega⟩
    have hx : xs.drop i.toNat = rd_T37 xs i :: xs.drop (i + 1).toNat := by
      have h : i.toNat < xs.length := by omega
      rw [List.drop_eq_getElem_cons h]
      congr 1
      · simp [rd_T37, h]
      · congr 1; omega
    have hy : ys.drop i.toNat = rd_T37 ys i :: ys.drop (i + 1).toNat := by
      have h : i.toNat < ys.length := by omega
      rw [List.drop_eq_getElem_cons h]
      congr 1
      · simp [rd_T37, h]
      · congr 1; omega
    have hw : wrap64 (i + 1) = i + 1 := by unfold wrap64; omega
    simp only [api_Op_44.l0]
    rw [if_pos (by omega), if_pos h0, if_pos (by omega), if_pos (by omega), hx, hy]
    by_cases he : rd_T37 xs i = rd_T37 ys i
    · rw [if_neg (by rw [he]; simp), hw, ih k (i + 1) (by omega) (by omega) (by omega)]
      congr 1
      simp [he]
    · rw [if_pos ?_]
      · congr 1
        symm
        simp [he]
      · simp only [Bool.or_eq_true, Bool.not_eq_true', beq_eq_false_iff_ne, ne_eq]
        by_cases e0 : (rd_T37 xs i).f0 = (rd_T37 ys i).f0
        · by_cases e1 : (rd_T37 xs i).f1 = (rd_T37 ys i).f1
          · by_cases e2 : (rd_T37 xs i).f2 = (rd_T37 ys i).f2
            · exact .inr (.inr (.inr (fun e3 => he (S37.ext' e0 e1 e2 e3))))
            · exact .inr (.inr (.inl e2))
          · exact .inr (.inl e1)
        · exact .inl e0
theorem eqOp_f {xs ys : List S37} (hb : xs.length ≤ 9223372036854775807) : api_Op_44.f (xs.length + 2) xs ys = some (decide (xs = ys)) := by
  unfold api_Op_44.f
  by_cases hl : (xs.length : Int) = ys.length
  · rw [if_pos hl, eqOp_l (by omega) hb xs.length _ 0 (by omega) (by omega) (by omega)]
    rfl
  · rw [if_neg hl]
    congr 1
    symm
    rw [decide_eq_false_iff_not]
    intro e
    exact hl (by rw [e])
theorem eqInt_l {xs ys : List Int} (hl : xs.length = ys.length) (hb : xs.length ≤ 9223372036854775807) : ∀ (d : Nat) (k : Nat) (i : Int), 0 ≤ i → i + d = xs.length → d < k → slices_Equal_int_int.l0 k xs ys xs.length i = some (decide (xs.drop i.toNat = ys.drop i.toNat)) := by
  intro d
  induction d with
  | zero =>
    intro k i h0 hi hk
    obtain ⟨k, rfl⟩ : ∃ m, k = m + 1 := ⟨k - 1, by omega⟩
    simp only [slices_Equal_int_int.l0]
    rw [if_neg (by omega), List.drop_of_length_le (by omega), List.drop_of_length_le (by omega)]
    simp
  | succ d ih =>
    intro k i h0 hi hk
    obtain ⟨k, rfl⟩ : ∃ m, k = m + 1 := ⟨k - 1, by omega⟩
    have hx : xs.drop i.toNat = rd xs i :: xs.drop (i + 1).toNat := by
      have h : i.toNat < xs.length := by omega
      rw [List.drop_eq_getElem_cons h]
      congr 1
      · simp [rd, h]
      · congr 1; omega
    have hy : ys.drop i.toNat = rd ys i :: ys.drop (i + 1).toNat := by
      have h : i.toNat < ys.length := by omega
      rw [List.drop_eq_getElem_cons h]
      congr 1
      · simp [rd, h]
      · congr 1; omega
    have hw : wrap64 (i + 1) = i + 1 := by unfold wrap64; omega
    simp only [slices_Equal_int_int.l0]
    rw [if_pos (by omega), if_pos h0, if_pos (by omega), if_pos (by omega), hx, hy]
    by_cases he : rd xs i = rd ys i
    · rw [if_pos he, hw, ih k (i + 1) (by omega) (by omega) (by omega)]
      congr 1
      simp [he]
    · rw [if_neg he]
      congr 1
      symm
      simp [he]
theorem eqInt_f {xs ys : List Int} (hb : xs.length ≤ 9223372036854775807) : slices_Equal_int_int.f (xs.length + 2) xs ys = some (decide (xs = ys)) := by
  unfold slices_Equal_int_int.f
  by_cases hl : (xs.length : Int) = ys.length
  · rw [if_pos hl, eqInt_l (by omega) hb xs.length _ 0 (by omega) (by omega) (by omega)]
    rfl
  · rw [if_neg hl]
    congr 1
    symm
    rw [decide_eq_false_iff_not]
    intro e
    exact hl (by rw [e])
theorem drop_rdL (xs : List (List S37)) (i : Int) (h0 : 0 ≤ i) (h1 : i < xs.length) : xs.drop i.toNat = rd_L3 xs i :: xs.drop (i + 1).toNat := by
  have h : i.toNat < xs.length := by omega
  rw [List.drop_eq_getElem_cons h]
  congr 1
  · simp [rd_L3, h]
  · congr 1; omega
theorem drop_rd (xs : List Int) (i : Int) (h0 : 0 ≤ i) (h1 : i < xs.length) : xs.drop i.toNat = rd xs i :: xs.drop (i + 1).toNat := by
  have h : i.toNat < xs.length := by omega
  rw [List.drop_eq_getElem_cons h]
  congr 1
  · simp [rd, h]
  · congr 1; omega
end Go.Proofs.Ytcphmelmieedfaa.PScriptTurns

namespace Go.Proofs.Ytcphmelmieedfaa.PScriptTurns
open Go Go.RowKit Go.Proofs.YtcphmelmieedfaaW.PrintWords Go.Proofs.YtcphmelmieedfaaW.PrintLast Go.Proofs.YtcphmelmieedfaaW.PrintMore Go.Proofs.Ytcphmelmieedfaa.U
set_option linter.unusedVariables false
/-- The error of a structure. -/
def CheckV (a b c d e : Int) : Int :=
  if a < 1 ∨ 3 < a then 8
  else if b < 1 ∨ 8388607 < b ∨ e < 2 ∨ 1099511627775 < e ∨ (a = 2 ∧ (c < 1 ∨ 64 < c)) ∨ (a ≠ 2 ∧ c ≠ 0) ∨ (a = 3 ∧ (d < 1 ∨ 16 < d)) ∨ (a ≠ 3 ∧ d ≠ 1) then 3 else 0
theorem within_f (a b c : Int) : conf_within.f a b c = some (decide (b ≤ a ∧ a ≤ c)) := by
  unfold conf_within.f
  by_cases h : a ≥ b
  · rw [if_pos h]; simp [h]
  · rw [if_neg h]; simp; omega
theorem check_f {k : Nat} (hk : 1 ≤ k) (a b c d e : Int) : conf_Check.f k a b c d e = some (CheckV a b c d e) := by
  obtain ⟨k, rfl⟩ : ∃ m, k = m + 1 := ⟨k - 1, by omega⟩
  unfold conf_Check.f conf_sizes.f
  simp only [within_f]
  by_cases h1 : a = 1
  · subst h1
    simp only [if_true, Option.bind_some, conf_Check.j0, within_f, CheckV]
    grind
  · by_cases h2 : a = 2
    · subst h2
      simp only [if_true, Option.bind_some, conf_Check.j0, within_f, CheckV]
      grind
    · by_cases h3 : a = 3
      · subst h3
        simp only [if_true, Option.bind_some, conf_Check.j0, within_f, CheckV]
        grind
      · simp only [h1, h2, h3, if_false, Option.bind_some, Bool.false_eq_true, CheckV]
        rw [if_pos (by omega)]
theorem check_zero {a b c d e : Int} (h : CheckV a b c d e = 0) : (a = 1 ∨ a = 2 ∨ a = 3) ∧ 1 ≤ b ∧ b ≤ 8388607 ∧ 2 ≤ e ∧ e ≤ 1099511627775 ∧ (a = 2 → 1 ≤ c ∧ c ≤ 64) ∧ (a ≠ 2 → c = 0) ∧ (a = 3 → 1 ≤ d ∧ d ≤ 16) ∧ (a ≠ 3 → d = 1) := by
  unfold CheckV at h
  split at h
  · omega
  · split at h
    · omega
    · omega
theorem check_cases (a b c d e : Int) : CheckV a b c d e = 0 ∨ CheckV a b c d e = 3 ∨ CheckV a b c d e = 8 := by
  unfold CheckV
  split
  · omega
  · split <;> omega
end Go.Proofs.Ytcphmelmieedfaa.PScriptTurns

namespace Go.Proofs.Ytcphmelmieedfaa.PScriptTurns
open Go Go.RowKit Go.Proofs.YtcphmelmieedfaaW.PrintWords Go.Proofs.YtcphmelmieedfaaW.PrintLast Go.Proofs.YtcphmelmieedfaaW.PrintMore Go.Proofs.Ytcphmelmieedfaa.U
set_option linter.unusedVariables false
/-- The error of an op of a structure that can be. -/
def OpV (a d k x v l : Int) : Int :=
  if (k = 8 ∨ (a = 2 ∧ 4 ≤ k ∧ k ≤ 7) ∨ (a ≠ 2 ∧ 1 ≤ k ∧ k ≤ 3)) then
    (if ((a ≠ 3 ∨ k ≠ 1 ∨ (1 ≤ l ∧ l ≤ d)) ∧ ((a = 3 ∧ k = 1) ∨ l = 0)) then
      (if ((v = 0 ∨ k = 4 ∨ k = 5) ∧ (x = 0 ∨ k ≠ 8)) then 0 else 1) else 3) else 8
theorem asked_f (a k : Int) : conf_isAsked.f a k = some (decide (k = 8 ∨ (a = 2 ∧ 4 ≤ k ∧ k ≤ 7) ∨ (a ≠ 2 ∧ 1 ≤ k ∧ k ≤ 3))) := by
  unfold conf_isAsked.f
  simp only [within_f, bsome]
  grind
theorem level_f (a b c d e k x v l : Int) : conf_isLevel.f a b c d e k x v l = some (decide ((a ≠ 3 ∨ k ≠ 1 ∨ (1 ≤ l ∧ l ≤ d)) ∧ ((a = 3 ∧ k = 1) ∨ l = 0))) := by
  unfold conf_isLevel.f
  simp only [within_f, bsome]
  grind
theorem bare_f (k x v l : Int) : conf_isBare.f k x v l = some (decide ((v = 0 ∨ k = 4 ∨ k = 5) ∧ (x = 0 ∨ k ≠ 8))) := by
  unfold conf_isBare.f
  by_cases h5 : k = 8
  · subst h5
    by_cases h1 : v = 0 <;> by_cases h2 : x = 0 <;> simp [h1, h2]
  · by_cases h1 : v = 0 <;> by_cases h2 : x = 0 <;> by_cases h3 : k = 4 <;> by_cases h4 : k = 5 <;> simp_all
theorem isOp_f {n : Nat} (hn : 1 ≤ n) (a b c d e k x v l : Int) : conf_IsOp.f n a b c d e k x v l = some (if CheckV a b c d e = 0 then OpV a d k x v l else CheckV a b c d e) := by
  unfold conf_IsOp.f
  rw [check_f hn]
  simp only [bsome]
  rw [asked_f, level_f, bare_f]
  simp only [bsome]
  unfold OpV
  generalize CheckV a b c d e = z
  by_cases hz : z = 0
  · rw [if_pos hz, if_pos hz]
    simp only [decide_eq_true_eq]
    split
    · split
      · split <;> rfl
      · rfl
    · rfl
  · rw [if_neg hz, if_neg hz]
end Go.Proofs.Ytcphmelmieedfaa.PScriptTurns

namespace Go.Proofs.Ytcphmelmieedfaa.PScriptTurns
open Go Go.RowKit Go.Proofs.YtcphmelmieedfaaW.PrintWords Go.Proofs.YtcphmelmieedfaaW.PrintLast Go.Proofs.YtcphmelmieedfaaW.PrintMore Go.Proofs.Ytcphmelmieedfaa.U
set_option linter.unusedVariables false
def opV1 (a d : Int) (o : S37) : Int := OpV a d o.f0 o.f1 o.f2 o.f3
def opsGo (a d t : Int) : List S37 → Int → Int × Int × Int
  | [], _ => (0, 0, 0)
  | o :: os, i => if opV1 a d o = 0 then opsGo a d t os (i + 1) else (opV1 a d o, t, i)
/-- What is wrong with a thread's ops. -/
def opsV (a d t : Int) (l : List S37) : Int × Int × Int := if 64 < l.length then (9, t, 0) else opsGo a d t l 0
def opssV (a d : Int) : List (List S37) → Int → Int × Int × Int
  | [], _ => (0, 0, 0)
  | l :: ls, i => if opsV a d i l = (0, 0, 0) then opssV a d ls (i + 1) else opsV a d i l
def idxN (m : Int) : List Int → Int → Int
  | [], _ => -1
  | p :: ps, i => if p < 0 ∨ m ≤ p then i else idxN m ps (i + 1)
theorem idxN_range (m : Int) : ∀ (ps : List Int) (i : Int), 0 ≤ i → idxN m ps i = -1 ∨ (0 ≤ idxN m ps i ∧ idxN m ps i < i + ps.length) := by
  intro ps
  induction ps with
  | nil => intro i hi; left; rfl
  | cons p ps ih =>
    intro i hi
    unfold idxN
    split
    · right; simp only [List.length_cons]; omega
    · have := ih (i + 1) (by omega)
      simp only [List.length_cons]
      omega
/-- What is wrong first with a script. -/
def scV (a b c d e : Int) (l5 : List (List S37)) (l6 : List Int) : Int × Int × Int :=
  if CheckV a b c d e ≠ 0 then (CheckV a b c d e, 0, 0)
  else if l5.length < 1 ∨ 64 < l5.length then (3, 0, 0)
  else if 262144 < l6.length then (9, 0, 0)
  else if opssV a d l5 0 ≠ (0, 0, 0) then opssV a d l5 0
  else if 0 ≤ idxN l5.length l6 0 then (3, 0, idxN l5.length l6 0) else (0, 0, 0)
theorem drop_rd37 (xs : List S37) (i : Int) (h0 : 0 ≤ i) (h1 : i < xs.length) : xs.drop i.toNat = rd_T37 xs i :: xs.drop (i + 1).toNat := by
  have h : i.toNat < xs.length := by omega
  rw [List.drop_eq_getElem_cons h]
  congr 1
  · simp [rd_T37, h]
  · congr 1; omega
theorem ops_l (a b c d e t : Int) (hc : CheckV a b c d e = 0) (l : List S37) (hl : l.length ≤ 64) : ∀ (q k : Nat) (i : Int), 0 ≤ i → i + q = l.length → q + 3 < k → script_ops.l0 k t l l.length i a b c d e = some (opsGo a d t (l.drop i.toNat) i) := by
  intro q
  induction q with
  | zero =>
    intro k i h0 hi hk
    obtain ⟨k, rfl⟩ : ∃ m, k = m + 1 := ⟨k - 1, by omega⟩
    simp only [script_ops.l0]
    rw [if_neg (by omega), List.drop_of_length_le (by omega)]
    rfl
  | succ q ih =>
    intro k i h0 hi hk
    obtain ⟨k, rfl⟩ : ∃ m, k = m + 1 := ⟨k - 1, by omega⟩
    have hw : wrap64 (i + 1) = i + 1 := by unfold wrap64; omega
    simp only [script_ops.l0]
    rw [if_pos (by omega), if_pos h0, if_pos (by omega), isOp_f (by omega), hc, if_pos rfl, bsome, drop_rd37 l i h0 (by omega), hw, ih k (i + 1) (by omega) (by omega) (by omega)]
    by_cases h : opV1 a d (rd_T37 l i) = 0
    · have h' := h
      unfold opV1 at h'
      rw [if_pos h']
      simp only [opsGo]
      rw [if_pos h]
    · have h' := h
      unfold opV1 at h'
      rw [if_neg h']
      simp only [opsGo]
      rw [if_neg h]
      rfl
theorem ops_f (a b c d e t : Int) (hc : CheckV a b c d e = 0) (l : List S37) : script_ops.f 100 a b c d e t l = some (opsV a d t l) := by
  unfold script_ops.f opsV
  by_cases hl : 64 < l.length
  · rw [if_pos (by omega), if_pos hl]
  · rw [if_neg (by omega), if_neg hl, ops_l a b c d e t hc l (by omega) l.length 100 0 (by omega) (by omega) (by omega)]
    rfl
theorem ops_some (a b c d e t : Int) (hc : CheckV a b c d e = 0) (l : List S37) : script_ops.f 100 a b c d e t l = some ((opsV a d t l).1, (opsV a d t l).2.1, (opsV a d t l).2.2) := ops_f a b c d e t hc l
end Go.Proofs.Ytcphmelmieedfaa.PScriptTurns

