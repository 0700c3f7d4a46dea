/-
Of every word and slot: the link of the next version, and how words stand, are the document's. No condition beyond the row's own.
-/
import Derived.Test.YthdimjpofkapfaaTLinkNext
import Derived.Test.YthdimjpofkapfaaLinkLem
namespace Go.Proofs.Ythdimjpofkapfaa.Pure
open Go Go.RowKit Go.Proofs.Ythdimjpofkapfaa.PLinkExact Go.Proofs.YthdimjpofkapfaaW.PrintWords Go.Proofs.YthdimjpofkapfaaW.PrintLast Go.Proofs.YthdimjpofkapfaaW.PrintMore Go.Proofs.Ythdimjpofkapfaa.U
theorem LinkNext (aw : revenantlaw02_awake.f 40 = some true) (w s v : Int) (hw : (Lit.int .u64 w).wf = true) (hv : (Lit.int .u64 v).wf = true) : revenantlaw02_LinkNext.f 40 w s v = some true := by
  rw [wf_u64] at hw hv
  obtain ⟨w0, w1⟩ := hw
  obtain ⟨v0, v1⟩ := hv
  have j2 : ∀ k b, (b = true ↔ ¬ (0 ≤ s ∧ s ≤ 8388607)) → revenantlaw02_LinkNext.j2 (k + 1) s (if 0 ≤ s ∧ s ≤ 8388607 then (if w % 1099511627776 = 1099511627775 then ((0, 7) : Int × Int) else (wordN false s (w % 1099511627776 + 1), 0)) else (0, 3)).1 (if 0 ≤ s ∧ s ≤ 8388607 then (if w % 1099511627776 = 1099511627775 then ((0, 7) : Int × Int) else (wordN false s (w % 1099511627776 + 1), 0)) else (0, 3)).2 (w % 1099511627776) b = some true := by
    intro k b hb
    simp only [revenantlaw02_LinkNext.j2]
    by_cases h : 0 ≤ s ∧ s ≤ 8388607
    · have : b = false := by
        cases b
        · rfl
        · exact absurd h (hb.1 rfl)
      subst this
      rw [if_pos h]
      simp only [Bool.false_eq_true, if_false]
      by_cases h2 : w % 1099511627776 = 1099511627775
      · rw [if_pos h2, if_pos h2]
        simp
      · rw [if_neg h2, if_neg h2]
        simp only [if_true]
        rw [w64 (by omega) (by omega), rword_f]
        unfold WordV
        rw [if_pos (show IsL s (w % 1099511627776 + 1) from by unfold IsL; omega)]
        simp
    · have : b = true := hb.2 h
      subst this
      rw [if_neg h]
      simp
  have j1 : ∀ k, 12 ≤ k → ∀ x12 : Int, x12 = (if w % 1099511627776 < v % 1099511627776 then -1 else if w % 1099511627776 > v % 1099511627776 then 1 else 0) → revenantlaw02_LinkNext.j1 k w s v (if 0 ≤ s ∧ s ≤ 8388607 then (if w % 1099511627776 = 1099511627775 then ((0, 7) : Int × Int) else (wordN false s (w % 1099511627776 + 1), 0)) else (0, 3)).1 (if 0 ≤ s ∧ s ≤ 8388607 then (if w % 1099511627776 = 1099511627775 then ((0, 7) : Int × Int) else (wordN false s (w % 1099511627776 + 1), 0)) else (0, 3)).2 (w % 1099511627776) x12 = some true := by
    intro k hk x12 hx
    obtain ⟨k, rfl⟩ : ∃ m, k = m + 2 := ⟨k - 2, by omega⟩
    simp only [revenantlaw02_LinkNext.j1]
    rw [newer_f (by omega) w0 w1 v0 v1, ← hx]
    simp only [bsome, if_true]
    by_cases h : s < 0
    · rw [if_pos h]
      exact j2 k true (by simp; omega)
    · rw [if_neg h]
      exact j2 k _ (by simp; omega)
  unfold revenantlaw02_LinkNext.f
  rw [aw, next_f (by omega) w0 w1, rof_f w0 w1, rof_f v0 v1]
  simp only [bsome, if_true]
  simp only [revenantlaw02_LinkNext.j0]
  by_cases h1 : w % 1099511627776 < v % 1099511627776
  · rw [if_pos h1, if_neg (by omega)]
    exact j1 39 (by omega) _ (by rw [if_pos h1])
  · rw [if_neg h1]
    by_cases h2 : w % 1099511627776 > v % 1099511627776
    · rw [if_pos h2]
      exact j1 39 (by omega) _ (by rw [if_neg h1, if_pos h2])
    · rw [if_neg h2]
      exact j1 39 (by omega) _ (by rw [if_neg h1, if_neg h2])
theorem RLinkNext (w s v : Int) (g : (Lit.int .u64 w).wf = true) (_ : (Lit.int .i64 s).wf = true) (h : (Lit.int .u64 v).wf = true) :
    ∃ k, revenantlaw02_LinkNext.f k w s v = some true := ⟨40, LinkNext (awake_30 (by omega)) _ _ _ g h⟩
end Go.Proofs.Ythdimjpofkapfaa.Pure
