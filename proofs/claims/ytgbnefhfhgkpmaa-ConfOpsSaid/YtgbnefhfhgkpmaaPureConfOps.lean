/-
Of every structure that can be each op is asked of just one of lists and hash maps, but a Give, that is asked of both; a skip list is asked what a list is, with a level. No condition beyond the row's own.
-/
import Derived.Test.YtgbnefhfhgkpmaaTConfOps
import Derived.Test.YtgbnefhfhgkpmaaWords
namespace Go.Proofs.Ytgbnefhfhgkpmaa.PConfOps
open Go Go.RowKit Go.Proofs.YtgbnefhfhgkpmaaW.PrintWords Go.Proofs.YtgbnefhfhgkpmaaW.PrintLast Go.Proofs.YtgbnefhfhgkpmaaW.PrintMore Go.Proofs.Ytgbnefhfhgkpmaa.U
set_option linter.unusedVariables false
/-- The error of a structure. -/
def CheckV (a b c d e : Int) : Int :=
  if a < 1 ∨ 3 < a then 8
  else if b < 1 ∨ 8388607 < b ∨ e < 2 ∨ 1099511627775 < e ∨ (a = 2 ∧ (c < 1 ∨ 64 < c)) ∨ (a ≠ 2 ∧ c ≠ 0) ∨ (a = 3 ∧ (d < 1 ∨ 16 < d)) ∨ (a ≠ 3 ∧ d ≠ 1) then 3 else 0
theorem within_f (a b c : Int) : conf_within.f a b c = some (decide (b ≤ a ∧ a ≤ c)) := by
  unfold conf_within.f
  by_cases h : a ≥ b
  · rw [if_pos h]; simp [h]
  · rw [if_neg h]; simp; omega
theorem check_f {k : Nat} (hk : 1 ≤ k) (a b c d e : Int) : conf_Check.f k a b c d e = some (CheckV a b c d e) := by
  obtain ⟨k, rfl⟩ : ∃ m, k = m + 1 := ⟨k - 1, by omega⟩
  unfold conf_Check.f conf_sizes.f
  simp only [within_f]
  by_cases h1 : a = 1
  · subst h1
    simp only [if_true, Option.bind_some, conf_Check.j0, within_f, CheckV]
    grind
  · by_cases h2 : a = 2
    · subst h2
      simp only [if_true, Option.bind_some, conf_Check.j0, within_f, CheckV]
      grind
    · by_cases h3 : a = 3
      · subst h3
        simp only [if_true, Option.bind_some, conf_Check.j0, within_f, CheckV]
        grind
      · simp only [h1, h2, h3, if_false, Option.bind_some, Bool.false_eq_true, CheckV]
        rw [if_pos (by omega)]
theorem check_zero {a b c d e : Int} (h : CheckV a b c d e = 0) : (a = 1 ∨ a = 2 ∨ a = 3) ∧ 1 ≤ b ∧ b ≤ 8388607 ∧ 2 ≤ e ∧ e ≤ 1099511627775 ∧ (a = 2 → 1 ≤ c ∧ c ≤ 64) ∧ (a ≠ 2 → c = 0) ∧ (a = 3 → 1 ≤ d ∧ d ≤ 16) ∧ (a ≠ 3 → d = 1) := by
  unfold CheckV at h
  split at h
  · omega
  · split at h
    · omega
    · omega
theorem check_cases (a b c d e : Int) : CheckV a b c d e = 0 ∨ CheckV a b c d e = 3 ∨ CheckV a b c d e = 8 := by
  unfold CheckV
  split
  · omega
  · split <;> omega
end Go.Proofs.Ytgbnefhfhgkpmaa.PConfOps
namespace Go.Proofs.Ytgbnefhfhgkpmaa.PConfOps
open Go Go.RowKit Go.Proofs.YtgbnefhfhgkpmaaW.PrintWords Go.Proofs.YtgbnefhfhgkpmaaW.PrintLast Go.Proofs.YtgbnefhfhgkpmaaW.PrintMore Go.Proofs.Ytgbnefhfhgkpmaa.U
set_option linter.unusedVariables false
/-- The error of an op of a structure that can be. -/
def OpV (a d k x v l : Int) : Int :=
  if (k = 8 ∨ (a = 2 ∧ 4 ≤ k ∧ k ≤ 7) ∨ (a ≠ 2 ∧ 1 ≤ k ∧ k ≤ 3)) then
    (if ((a ≠ 3 ∨ k ≠ 1 ∨ (1 ≤ l ∧ l ≤ d)) ∧ ((a = 3 ∧ k = 1) ∨ l = 0)) then
      (if ((v = 0 ∨ k = 4 ∨ k = 5) ∧ (x = 0 ∨ k ≠ 8)) then 0 else 1) else 3) else 8
theorem asked_f (a k : Int) : conf_isAsked.f a k = some (decide (k = 8 ∨ (a = 2 ∧ 4 ≤ k ∧ k ≤ 7) ∨ (a ≠ 2 ∧ 1 ≤ k ∧ k ≤ 3))) := by
  unfold conf_isAsked.f
  simp only [within_f, bsome]
  grind
theorem level_f (a b c d e k x v l : Int) : conf_isLevel.f a b c d e k x v l = some (decide ((a ≠ 3 ∨ k ≠ 1 ∨ (1 ≤ l ∧ l ≤ d)) ∧ ((a = 3 ∧ k = 1) ∨ l = 0))) := by
  unfold conf_isLevel.f
  simp only [within_f, bsome]
  grind
theorem bare_f (k x v l : Int) : conf_isBare.f k x v l = some (decide ((v = 0 ∨ k = 4 ∨ k = 5) ∧ (x = 0 ∨ k ≠ 8))) := by
  unfold conf_isBare.f
  by_cases h5 : k = 8
  · subst h5
    by_cases h1 : v = 0 <;> by_cases h2 : x = 0 <;> simp [h1, h2]
  · by_cases h1 : v = 0 <;> by_cases h2 : x = 0 <;> by_cases h3 : k = 4 <;> by_cases h4 : k = 5 <;> simp_all
theorem isOp_f {n : Nat} (hn : 1 ≤ n) (a b c d e k x v l : Int) : conf_IsOp.f n a b c d e k x v l = some (if CheckV a b c d e = 0 then OpV a d k x v l else CheckV a b c d e) := by
  unfold conf_IsOp.f
  rw [check_f hn]
  simp only [bsome]
  rw [asked_f, level_f, bare_f]
  simp only [bsome]
  unfold OpV
  generalize CheckV a b c d e = z
  by_cases hz : z = 0
  · rw [if_pos hz, if_pos hz]
    simp only [decide_eq_true_eq]
    split
    · split
      · split <;> rfl
      · rfl
    · rfl
  · rw [if_neg hz, if_neg hz]
end Go.Proofs.Ytgbnefhfhgkpmaa.PConfOps
namespace Go.Proofs.Ytgbnefhfhgkpmaa.Pure
open Go Go.RowKit Go.Proofs.Ytgbnefhfhgkpmaa.PConfOps Go.Proofs.YtgbnefhfhgkpmaaW.PrintWords Go.Proofs.YtgbnefhfhgkpmaaW.PrintLast Go.Proofs.YtgbnefhfhgkpmaaW.PrintMore Go.Proofs.Ytgbnefhfhgkpmaa.U
theorem awake_20 : revenantlaw03_awake.f 20 = some true := by decide +kernel
theorem modn (n : Int) (m : Int) (h0 : 1 ≤ m) (h1 : m ≤ 9000000) : wrap64 (1 + wrap64 (Int.tmod (IntKind.u64.wrap n) m)) = 1 + n % 18446744073709551616 % m := by
  have h : 0 ≤ IntKind.u64.wrap n := by rw [wrapU_mod]; omega
  have h2 : 0 ≤ n % 18446744073709551616 % m := Int.emod_nonneg _ (by omega)
  have h3 : n % 18446744073709551616 % m < m := Int.emod_lt_of_pos _ (by omega)
  rw [tmod_pos h, wrapU_mod, w64 (x := n % 18446744073709551616 % m) (by omega) (by omega), w64 (by omega) (by omega)]
theorem ConfOps (s b h k x v l : Int) : revenantlaw03_ConfOps.f 20 s b h k x v l = some true := by
  unfold revenantlaw03_ConfOps.f
  rw [awake_20, modn s 8388607 (by decide) (by decide), modn b 64 (by decide) (by decide), modn h 16 (by decide) (by decide)]
  have s0 : 0 ≤ s % 18446744073709551616 % 8388607 ∧ s % 18446744073709551616 % 8388607 < 8388607 := by omega
  have b0 : 0 ≤ b % 18446744073709551616 % 64 ∧ b % 18446744073709551616 % 64 < 64 := by omega
  have h0 : 0 ≤ h % 18446744073709551616 % 16 ∧ h % 18446744073709551616 % 16 < 16 := by omega
  generalize s % 18446744073709551616 % 8388607 = S at *
  generalize b % 18446744073709551616 % 64 = T at *
  generalize h % 18446744073709551616 % 16 = U at *
  have c1 : CheckV 1 (1 + S) 0 1 100 = 0 := by unfold CheckV; rw [if_neg (by omega), if_neg (by omega)]
  have c2 : CheckV 2 (1 + S) (1 + T) 1 2 = 0 := by unfold CheckV; rw [if_neg (by omega), if_neg (by omega)]
  have c3 : CheckV 3 (1 + S) 0 (1 + U) 2 = 0 := by unfold CheckV; rw [if_neg (by omega), if_neg (by omega)]
  simp only [bsome, if_true, revenantlaw03_list.f]
  rw [check_f (by omega), c1, check_f (by omega), c2, check_f (by omega), c3]
  simp only [bsome, if_true, revenantlaw03_ConfOps.j0, bne_self_eq_false, Bool.false_eq_true, if_false]
  rw [isOp_f (by omega), isOp_f (by omega), isOp_f (by omega), c1, c2, c3]
  simp only [bsome, if_true, revenantlaw03_ConfOps.j1]
  rw [isOp_f (by omega), isOp_f (by omega), c3]
  simp only [bsome, if_true]
  unfold OpV
  by_cases k8 : k = 8
  · subst k8
    rw [if_pos rfl]
    grind
  · rw [if_neg k8]
    by_cases k1 : k = 1
    · subst k1
      grind
    · grind
theorem RConfOps (a b c k x v l : Int) (_ : (Lit.int .i64 a).wf = true) (_ : (Lit.int .i64 b).wf = true) (_ : (Lit.int .i64 c).wf = true) (_ : (Lit.int .i64 k).wf = true ∧ (Lit.int .u64 x).wf = true ∧ (Lit.int .u64 v).wf = true ∧ (Lit.int .i64 l).wf = true) :
    ∃ n, revenantlaw03_ConfOps.f n a b c k x v l = some true := ⟨20, ConfOps _ _ _ _ _ _ _⟩
end Go.Proofs.Ytgbnefhfhgkpmaa.Pure
