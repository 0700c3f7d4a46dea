/-
A mark stays, and a link of the next version is unlike all elder ones. No condition beyond the row's own.
-/
import Derived.Test.YthdimjpofkapfaaTLinkMarks
import Derived.Test.YthdimjpofkapfaaLinkLem
namespace Go.Proofs.Ythdimjpofkapfaa.Pure
open Go Go.RowKit Go.Proofs.Ythdimjpofkapfaa.PLinkExact Go.Proofs.YthdimjpofkapfaaW.PrintWords Go.Proofs.YthdimjpofkapfaaW.PrintLast Go.Proofs.YthdimjpofkapfaaW.PrintMore Go.Proofs.Ythdimjpofkapfaa.U
theorem modu (n : Int) (m : Int) (h0 : 1 ≤ m) (h1 : m ≤ 1099511627776) : wrap64 (Int.tmod (IntKind.u64.wrap n) m) = n % 18446744073709551616 % m := by
  have h : 0 ≤ IntKind.u64.wrap n := by rw [wrapU_mod]; omega
  have h2 : 0 ≤ n % 18446744073709551616 % m := Int.emod_nonneg _ (by omega)
  have h3 : n % 18446744073709551616 % m < m := Int.emod_lt_of_pos _ (by omega)
  rw [tmod_pos h, wrapU_mod, w64 (by omega) (by omega)]
theorem marks_j1 {w s e : Int} (w0 : 0 ≤ w) (w1 : w < 18446744073709551616) (s0 : 0 ≤ s) (s1 : s ≤ 8388607) (k : Nat) (hk : 12 ≤ k) : revenantlaw02_LinkMarks.j1 k w e s false = some true := by
  obtain ⟨k, rfl⟩ : ∃ m, k = m + 1 := ⟨k - 1, by omega⟩
  simp only [revenantlaw02_LinkMarks.j1, Bool.false_eq_true, if_false]
  rw [next_f (by omega) w0 w1, if_pos ⟨s0, s1⟩, version_f (by omega) w0 w1]
  by_cases h : w % 1099511627776 = 1099511627775
  · rw [if_pos h]
    simp only [bsome]
    rw [if_neg (by decide), h]
    simp
  · rw [if_neg h]
    simp only [bsome, if_true]
    have hL : IsL s (w % 1099511627776 + 1) := by unfold IsL; omega
    obtain ⟨r0, r1, r2, r3, r4⟩ := wordN_range (m := false) hL
    rw [w64 (x := w % 1099511627776 + 1) (by omega) (by omega), wrapU_small (x := w % 1099511627776 + 1) (by omega) (by omega), if_neg (by omega)]
    have hE : wrap64 (Int.tmod (IntKind.u64.wrap e) (w % 1099511627776 + 1)) = e % 18446744073709551616 % (w % 1099511627776 + 1) := modu e _ (by omega) (by omega)
    have e0 : 0 ≤ e % 18446744073709551616 % (w % 1099511627776 + 1) := Int.emod_nonneg _ (by omega)
    have e1 : e % 18446744073709551616 % (w % 1099511627776 + 1) < w % 1099511627776 + 1 := Int.emod_lt_of_pos _ (by omega)
    rw [hE]
    generalize e % 18446744073709551616 % (w % 1099511627776 + 1) = E at *
    clear hE
    have hLE : IsL s E := by unfold IsL; omega
    have hL1 : IsL 1 E := by unfold IsL; omega
    have q1 := wordN_range (m := false) hLE
    have q2 := wordN_range (m := true) hLE
    have q3 := wordN_range (m := false) hL1
    rw [newer_f (by omega) r0 r1 w0 w1, newer_f (by omega) w0 w1 r0 r1, r4, if_neg (by omega), if_pos (by omega)]
    simp only [bsome, if_true]
    rw [if_pos (by omega)]
    rw [to_f (by omega), to_f (by omega), marked_f (by omega) (by decide) (by decide), isMarked_f r0 r1]
    unfold WordV
    rw [if_pos hLE, if_pos hLE, if_pos hL1]
    simp only [bsome]
    have n1 : ¬ wordN false s (w % 1099511627776 + 1) = wordN false s E := by
      intro h; rw [h] at r4; omega
    have n2 : ¬ wordN false s (w % 1099511627776 + 1) = wordN true s E := by
      intro h; rw [h] at r4; omega
    rw [if_neg n1, if_neg (by decide : ¬ (0 : Int) ≥ 9223372036854775808), if_neg n2]
    have n3 : ¬ wordN false s (w % 1099511627776 + 1) ≥ 9223372036854775808 := by
      intro h; have := r2.1 h; cases this
    rw [decide_eq_false n3]
    simp only [Bool.false_eq_true, if_false]
    rw [newer_f (by omega) q3.1 q3.2.1 r0 r1, r4, q3.2.2.2.2, if_pos (by omega)]
    rfl
theorem LinkMarks (aw : revenantlaw02_awake.f 40 = some true) (w a b e : Int) (hw : (Lit.int .u64 w).wf = true) : revenantlaw02_LinkMarks.f 40 w a b e = some true := by
  rw [wf_u64] at hw
  obtain ⟨w0, w1⟩ := hw
  unfold revenantlaw02_LinkMarks.f
  rw [aw, modu a 8388608 (by decide) (by decide), modu b 1099511627776 (by decide) (by decide)]
  have s0 : 0 ≤ a % 18446744073709551616 % 8388608 ∧ a % 18446744073709551616 % 8388608 ≤ 8388607 := by omega
  have v0 : 0 ≤ b % 18446744073709551616 % 1099511627776 ∧ b % 18446744073709551616 % 1099511627776 ≤ 1099511627775 := by omega
  generalize a % 18446744073709551616 % 8388608 = s at *
  generalize b % 18446744073709551616 % 1099511627776 = v at *
  have hL : IsL s v := by unfold IsL; omega
  obtain ⟨r0, r1, r2, r3, r4⟩ := wordN_range (m := true) hL
  obtain ⟨q0, q1, q2, q3, q4⟩ := wordN_range (m := false) hL
  have r5 := r2.2 rfl
  simp only [bsome, if_true]
  rw [marked_f (by omega) w0 w1]
  unfold WordV
  rw [if_pos hL]
  simp only [bsome]
  have hM : ∀ M : Int, 0 ≤ M → M < 18446744073709551616 → M ≥ 9223372036854775808 → (¬ w ≥ 9223372036854775808 → M = wordN true s v) →
      ((link_IsMarked.f M).bind fun t196 => if t196 = true then (link_Marked.f 40 M 1 1).bind fun t197 => if t197 = M then (link_To.f 40 s v).bind fun t198 => (link_IsMarked.f t198).bind fun t199 => revenantlaw02_LinkMarks.j0 40 w e s v M t199 else revenantlaw02_LinkMarks.j0 40 w e s v M true else revenantlaw02_LinkMarks.j0 40 w e s v M true) = some true := by
    intro M m0 m1 m2 m3
    rw [isMarked_f m0 m1, decide_eq_true m2]
    simp only [bsome, if_true]
    rw [marked_f (by omega) m0 m1, if_pos m2]
    simp only [bsome, if_true]
    rw [to_f (by omega)]
    simp only [bsome]
    unfold WordV
    rw [if_pos hL, isMarked_f q0 q1]
    have n3 : ¬ wordN false s v ≥ 9223372036854775808 := by
      intro h; have := q2.1 h; cases this
    rw [decide_eq_false n3]
    simp only [bsome, revenantlaw02_LinkMarks.j0, Bool.false_eq_true, if_false]
    rw [isMarked_f w0 w1]
    simp only [bsome]
    by_cases h : w ≥ 9223372036854775808
    · rw [decide_eq_true h, if_pos rfl]
      exact marks_j1 w0 w1 s0.1 s0.2 39 (by omega)
    · rw [decide_eq_false h, if_neg (by decide)]
      have := m3 h
      subst this
      rw [slot_f (by omega) r0 r1, version_f (by omega) r0 r1, r3, r4]
      simp only [bsome, if_true, bne_self_eq_false]
      exact marks_j1 w0 w1 s0.1 s0.2 39 (by omega)
  by_cases h : w ≥ 9223372036854775808
  · rw [if_pos h]
    exact hM w w0 w1 h (fun hn => absurd h hn)
  · rw [if_neg h]
    exact hM _ r0 r1 r5 (fun _ => rfl)
theorem RLinkMarks (w a b e : Int) (g : (Lit.int .u64 w).wf = true) (_ : (Lit.int .i64 a).wf = true) (_ : (Lit.int .i64 b).wf = true) (_ : (Lit.int .i64 e).wf = true) :
    ∃ k, revenantlaw02_LinkMarks.f k w a b e = some true := ⟨40, LinkMarks (awake_30 (by omega)) _ _ _ _ g⟩
end Go.Proofs.Ythdimjpofkapfaa.Pure
