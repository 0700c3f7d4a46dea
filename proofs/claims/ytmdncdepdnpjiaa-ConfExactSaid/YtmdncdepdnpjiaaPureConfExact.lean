/-
Of every structure and op: the errors, the roots, the cells and the steps are the document's. No condition beyond the row's own.
-/
import Derived.Test.YtmdncdepdnpjiaaQConfExactx5
import Derived.Test.YtmdncdepdnpjiaaWords
namespace Go.Proofs.Ytmdncdepdnpjiaa.PConfExact
open Go Go.RowKit Go.Proofs.YtmdncdepdnpjiaaW.PrintWords Go.Proofs.YtmdncdepdnpjiaaW.PrintLast Go.Proofs.YtmdncdepdnpjiaaW.PrintMore Go.Proofs.Ytmdncdepdnpjiaa.U
set_option linter.unusedVariables false
/-- The error of a structure. -/
def CheckV (a b c d e : Int) : Int :=
  if a < 1 ∨ 3 < a then 8
  else if b < 1 ∨ 8388607 < b ∨ e < 2 ∨ 1099511627775 < e ∨ (a = 2 ∧ (c < 1 ∨ 64 < c)) ∨ (a ≠ 2 ∧ c ≠ 0) ∨ (a = 3 ∧ (d < 1 ∨ 16 < d)) ∨ (a ≠ 3 ∧ d ≠ 1) then 3 else 0
theorem within_f (a b c : Int) : conf_within.f a b c = some (decide (b ≤ a ∧ a ≤ c)) := by
  unfold conf_within.f
  by_cases h : a ≥ b
  · rw [if_pos h]; simp [h]
  · rw [if_neg h]; simp; omega
theorem check_f {k : Nat} (hk : 1 ≤ k) (a b c d e : Int) : conf_Check.f k a b c d e = some (CheckV a b c d e) := by
  obtain ⟨k, rfl⟩ : ∃ m, k = m + 1 := ⟨k - 1, by omega⟩
  unfold conf_Check.f conf_sizes.f
  simp only [within_f]
  by_cases h1 : a = 1
  · subst h1
    simp only [if_true, Option.bind_some, conf_Check.j0, within_f, CheckV]
    grind
  · by_cases h2 : a = 2
    · subst h2
      simp only [if_true, Option.bind_some, conf_Check.j0, within_f, CheckV]
      grind
    · by_cases h3 : a = 3
      · subst h3
        simp only [if_true, Option.bind_some, conf_Check.j0, within_f, CheckV]
        grind
      · simp only [h1, h2, h3, if_false, Option.bind_some, Bool.false_eq_true, CheckV]
        rw [if_pos (by omega)]
theorem check_zero {a b c d e : Int} (h : CheckV a b c d e = 0) : (a = 1 ∨ a = 2 ∨ a = 3) ∧ 1 ≤ b ∧ b ≤ 8388607 ∧ 2 ≤ e ∧ e ≤ 1099511627775 ∧ (a = 2 → 1 ≤ c ∧ c ≤ 64) ∧ (a ≠ 2 → c = 0) ∧ (a = 3 → 1 ≤ d ∧ d ≤ 16) ∧ (a ≠ 3 → d = 1) := by
  unfold CheckV at h
  split at h
  · omega
  · split at h
    · omega
    · omega
theorem check_cases (a b c d e : Int) : CheckV a b c d e = 0 ∨ CheckV a b c d e = 3 ∨ CheckV a b c d e = 8 := by
  unfold CheckV
  split
  · omega
  · split <;> omega
end Go.Proofs.Ytmdncdepdnpjiaa.PConfExact
namespace Go.Proofs.Ytmdncdepdnpjiaa.PConfExact
open Go Go.RowKit Go.Proofs.YtmdncdepdnpjiaaW.PrintWords Go.Proofs.YtmdncdepdnpjiaaW.PrintLast Go.Proofs.YtmdncdepdnpjiaaW.PrintMore Go.Proofs.Ytmdncdepdnpjiaa.U
set_option linter.unusedVariables false
/-- The error of an op of a structure that can be. -/
def OpV (a d k x v l : Int) : Int :=
  if (k = 8 ∨ (a = 2 ∧ 4 ≤ k ∧ k ≤ 7) ∨ (a ≠ 2 ∧ 1 ≤ k ∧ k ≤ 3)) then
    (if ((a ≠ 3 ∨ k ≠ 1 ∨ (1 ≤ l ∧ l ≤ d)) ∧ ((a = 3 ∧ k = 1) ∨ l = 0)) then
      (if ((v = 0 ∨ k = 4 ∨ k = 5) ∧ (x = 0 ∨ k ≠ 8)) then 0 else 1) else 3) else 8
theorem asked_f (a k : Int) : conf_isAsked.f a k = some (decide (k = 8 ∨ (a = 2 ∧ 4 ≤ k ∧ k ≤ 7) ∨ (a ≠ 2 ∧ 1 ≤ k ∧ k ≤ 3))) := by
  unfold conf_isAsked.f
  simp only [within_f, bsome]
  grind
theorem level_f (a b c d e k x v l : Int) : conf_isLevel.f a b c d e k x v l = some (decide ((a ≠ 3 ∨ k ≠ 1 ∨ (1 ≤ l ∧ l ≤ d)) ∧ ((a = 3 ∧ k = 1) ∨ l = 0))) := by
  unfold conf_isLevel.f
  simp only [within_f, bsome]
  grind
theorem bare_f (k x v l : Int) : conf_isBare.f k x v l = some (decide ((v = 0 ∨ k = 4 ∨ k = 5) ∧ (x = 0 ∨ k ≠ 8))) := by
  unfold conf_isBare.f
  by_cases h5 : k = 8
  · subst h5
    by_cases h1 : v = 0 <;> by_cases h2 : x = 0 <;> simp [h1, h2]
  · by_cases h1 : v = 0 <;> by_cases h2 : x = 0 <;> by_cases h3 : k = 4 <;> by_cases h4 : k = 5 <;> simp_all
theorem isOp_f {n : Nat} (hn : 1 ≤ n) (a b c d e k x v l : Int) : conf_IsOp.f n a b c d e k x v l = some (if CheckV a b c d e = 0 then OpV a d k x v l else CheckV a b c d e) := by
  unfold conf_IsOp.f
  rw [check_f hn]
  simp only [bsome]
  rw [asked_f, level_f, bare_f]
  simp only [bsome]
  unfold OpV
  generalize CheckV a b c d e = z
  by_cases hz : z = 0
  · rw [if_pos hz, if_pos hz]
    simp only [decide_eq_true_eq]
    split
    · split
      · split <;> rfl
      · rfl
    · rfl
  · rw [if_neg hz, if_neg hz]
end Go.Proofs.Ytmdncdepdnpjiaa.PConfExact
namespace Go.Proofs.Ytmdncdepdnpjiaa.PConfExact
open Go Go.RowKit Go.Proofs.YtmdncdepdnpjiaaW.PrintWords Go.Proofs.YtmdncdepdnpjiaaW.PrintLast Go.Proofs.YtmdncdepdnpjiaaW.PrintMore Go.Proofs.Ytmdncdepdnpjiaa.U
set_option linter.unusedVariables false
theorem rcheck_f {k : Nat} (hk : 3 ≤ k) (a b c d e : Int) : revenantref03_Check.f k a b c d e = some (CheckV a b c d e) := by
  obtain ⟨k, rfl⟩ : ∃ m, k = m + 3 := ⟨k - 3, by omega⟩
  unfold revenantref03_Check.f CheckV
  simp only [revenantref03_Check.j0, revenantref03_Check.j1, revenantref03_Check.j2]
  grind
end Go.Proofs.Ytmdncdepdnpjiaa.PConfExact
namespace Go.Proofs.Ytmdncdepdnpjiaa.PConfExact
open Go Go.RowKit Go.Proofs.YtmdncdepdnpjiaaW.PrintWords Go.Proofs.YtmdncdepdnpjiaaW.PrintLast Go.Proofs.YtmdncdepdnpjiaaW.PrintMore Go.Proofs.Ytmdncdepdnpjiaa.U
theorem rop_f {n : Nat} (hn : 6 ≤ n) (a b c d e k x v l : Int) : revenantref03_Op.f n a b c d e k x v l = some (if CheckV a b c d e = 0 then OpV a d k x v l else CheckV a b c d e) := by
  obtain ⟨n, rfl⟩ : ∃ m, n = m + 6 := ⟨n - 6, by omega⟩
  unfold revenantref03_Op.f
  rw [rcheck_f (by omega)]
  simp only [bsome]
  generalize CheckV a b c d e = z
  by_cases hz : z = 0
  · rw [if_pos hz, if_pos hz]
    have j3 : ∀ (m : Nat) (b : Bool), revenantref03_Op.j3 (m + 1) b k x v l = some (if b = true then 3 else if ((v = 0 ∨ k = 4 ∨ k = 5) ∧ (x = 0 ∨ k ≠ 8)) then 0 else 1) := by
      intro m b
      simp only [revenantref03_Op.j3]
      cases b
      · simp only [Bool.false_eq_true, if_false]
        by_cases h5 : k = 8
        · subst h5
          by_cases h1 : v = 0 <;> by_cases h2 : x = 0 <;> simp [h1, h2]
        · by_cases h1 : v = 0 <;> by_cases h2 : x = 0 <;> by_cases h3 : k = 4 <;> by_cases h4 : k = 5 <;> simp_all
      · rfl
    have j2 : ∀ (m : Nat) (p q : Int), revenantref03_Op.j2 (m + 2) p q k x v l = some (if l < p ∨ q < l then 3 else if ((v = 0 ∨ k = 4 ∨ k = 5) ∧ (x = 0 ∨ k ≠ 8)) then 0 else 1) := by
      intro m p q
      simp only [revenantref03_Op.j2]
      rw [j3, j3]
      by_cases h1 : l < p
      · simp [h1]
      · simp [h1]
    have j1 : ∀ (m : Nat) (f : Bool), revenantref03_Op.j1 (m + 3) 0 0 f a b c d e k x v l = some (if (if f = true then (l < 1 ∨ d < l) else l ≠ 0) then 3 else if ((v = 0 ∨ k = 4 ∨ k = 5) ∧ (x = 0 ∨ k ≠ 8)) then 0 else 1) := by
      intro m f
      simp only [revenantref03_Op.j1]
      rw [j2, j2]
      generalize (if ((v = 0 ∨ k = 4 ∨ k = 5) ∧ (x = 0 ∨ k ≠ 8)) then (0 : Int) else 1) = Z
      cases f
      · simp only [Bool.false_eq_true, if_false]
        by_cases h : l = 0
        · rw [if_neg (by omega), if_neg (by omega)]
        · rw [if_pos (by omega), if_pos (by omega)]
      · rfl
    have j0 : ∀ (m : Nat) (f : Bool), revenantref03_Op.j0 (m + 4) f a b c d e k x v l = some (if f = true then 8 else if ((a ≠ 3 ∨ k ≠ 1 ∨ (1 ≤ l ∧ l ≤ d)) ∧ ((a = 3 ∧ k = 1) ∨ l = 0)) then (if ((v = 0 ∨ k = 4 ∨ k = 5) ∧ (x = 0 ∨ k ≠ 8)) then 0 else 1) else 3) := by
      intro m f
      simp only [revenantref03_Op.j0]
      rw [j1, j1]
      generalize (if ((v = 0 ∨ k = 4 ∨ k = 5) ∧ (x = 0 ∨ k ≠ 8)) then (0 : Int) else 1) = Z
      cases f
      · simp only [Bool.false_eq_true, if_false]
        by_cases h3 : a = 3
        · rw [if_pos h3]
          by_cases h1 : k = 1
          · simp only [h1, beq_self_eq_true, if_true]
            by_cases hl : l < 1 ∨ d < l
            · rw [if_pos hl, if_neg (by omega)]
            · rw [if_neg hl, if_pos (by simp [h3]; omega)]
          · have e1 : (k == 1) = false := by simpa using h1
            simp only [e1, Bool.false_eq_true, if_false]
            by_cases hl : l = 0
            · rw [if_neg (by omega), if_pos (by omega)]
            · rw [if_pos hl, if_neg (by omega)]
        · rw [if_neg h3]
          by_cases hl : l = 0
          · rw [if_neg (by omega), if_pos (by omega)]
          · rw [if_pos hl, if_neg (by omega)]
      · rfl
    rw [j0, j0, j0]
    unfold OpV
    by_cases h1 : k < 1
    · rw [if_pos h1, if_pos rfl, if_neg (by omega)]
    · rw [if_neg h1]
      by_cases h8 : k > 8
      · rw [if_pos h8, if_pos rfl, if_neg (by omega)]
      · rw [if_neg h8]
        by_cases h2 : a = 2
        · rw [if_pos h2]
          by_cases h4 : k < 4
          · rw [if_pos h4, if_pos rfl, if_neg (by omega)]
          · rw [if_neg h4, if_neg (by decide)]
            congr 1
            exact (if_pos (by omega)).symm
        · rw [if_neg h2]
          by_cases h4 : k > 3
          · rw [if_pos h4]
            by_cases h6 : k < 8
            · rw [if_pos (by simpa using h6)]
              congr 1
              exact (if_neg (by omega)).symm
            · rw [if_neg (by simpa using h6)]
              congr 1
              exact (if_pos (by omega)).symm
          · rw [if_neg h4, if_neg (by decide)]
            congr 1
            exact (if_pos (by omega)).symm
  · rw [if_neg hz, if_neg hz]
theorem roots_f {k : Nat} (hk : 1 ≤ k) (a b c d e : Int) : conf_Roots.f k a b c d e = some (if CheckV a b c d e = 0 then (if a = 2 then c else d) else 0) := by
  unfold conf_Roots.f
  rw [check_f hk]
  simp only [bsome]
  split
  · split <;> rfl
  · rfl
theorem rroots_f {k : Nat} (hk : 3 ≤ k) (a b c d e : Int) : revenantref03_Roots.f k a b c d e = some (if CheckV a b c d e = 0 then (if a = 2 then c else d) else 0) := by
  unfold revenantref03_Roots.f
  rw [rcheck_f hk]
  simp only [bsome]
  split
  · split <;> rfl
  · rfl
end Go.Proofs.Ytmdncdepdnpjiaa.PConfExact
namespace Go.Proofs.Ytmdncdepdnpjiaa.Pure
open Go Go.RowKit Go.Proofs.Ytmdncdepdnpjiaa.PConfExact Go.Proofs.YtmdncdepdnpjiaaW.PrintWords Go.Proofs.YtmdncdepdnpjiaaW.PrintLast Go.Proofs.YtmdncdepdnpjiaaW.PrintMore Go.Proofs.Ytmdncdepdnpjiaa.U
theorem awake_20 : revenantlaw03_awake.f 20 = some true := by decide +kernel
theorem ConfExact (a b c d e k x v l t : Int) : revenantlaw03_ConfExact.f 20 a b c d e k x v l t = some true := by
  unfold revenantlaw03_ConfExact.f
  rw [awake_20, check_f (by omega), rcheck_f (by omega), roots_f (by omega), rroots_f (by omega), isOp_f (by omega), rop_f (by omega)]
  simp only [bsome, if_true, bne_self_eq_false]
  simp only [revenantlaw03_ConfExact.j0, Bool.false_eq_true, if_false]
  unfold conf_Window.f conf_Cells.f conf_Alone.f
  rw [check_f (by omega), within_f]
  simp only [bsome]
  by_cases hc : CheckV a b c d e = 0
  · simp only [hc, if_true, bsome, bne_self_eq_false]
    simp only [revenantlaw03_ConfExact.j1, Bool.false_eq_true, if_false]
    by_cases ht : 1 ≤ t ∧ t ≤ 64
    · simp only [decide_eq_true ht, if_true, bsome]
      rw [if_neg (by omega), if_neg (by omega)]
      simp
    · simp only [decide_eq_false ht, Bool.false_eq_true, if_false, bsome]
      by_cases h1 : t < 1
      · rw [if_pos h1]; simp
      · rw [if_neg h1, if_pos (by omega)]; simp
  · simp [hc]
theorem RConfExact (a b c d e k x v l t : Int) (_ : (Lit.int .i64 a).wf = true ∧ (Lit.int .i64 b).wf = true ∧ (Lit.int .i64 c).wf = true ∧ (Lit.int .i64 d).wf = true ∧ (Lit.int .i64 e).wf = true) (_ : (Lit.int .i64 k).wf = true ∧ (Lit.int .u64 x).wf = true ∧ (Lit.int .u64 v).wf = true ∧ (Lit.int .i64 l).wf = true) (_ : (Lit.int .i64 t).wf = true) :
    ∃ n, revenantlaw03_ConfExact.f n a b c d e k x v l t = some true := ⟨20, ConfExact _ _ _ _ _ _ _ _ _ _⟩
end Go.Proofs.Ytmdncdepdnpjiaa.Pure
