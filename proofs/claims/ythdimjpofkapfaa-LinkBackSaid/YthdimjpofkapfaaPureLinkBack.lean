/-
Unlike links have unlike words; a word is a link's, and that link's word. No condition beyond the row's own.
-/
import Derived.Test.YthdimjpofkapfaaTLinkBack
import Derived.Test.YthdimjpofkapfaaLinkLem
namespace Go.Proofs.Ythdimjpofkapfaa.Pure
open Go Go.RowKit Go.Proofs.Ythdimjpofkapfaa.PLinkExact Go.Proofs.YthdimjpofkapfaaW.PrintWords Go.Proofs.YthdimjpofkapfaaW.PrintLast Go.Proofs.YthdimjpofkapfaaW.PrintMore Go.Proofs.Ythdimjpofkapfaa.U
theorem of_word {k : Nat} (hk : 10 ≤ k) {m : Bool} {s v : Int} (h : IsL s v) : link_Of.f k (wordN m s v) = some (m, s, v) := by
  obtain ⟨r0, r1, r2, r3, r4⟩ := wordN_range (m := m) h
  rw [of_f hk r0 r1, r3, r4]
  congr 2
  rw [Bool.eq_iff_iff, decide_eq_true_iff]
  exact r2
theorem word_inj {m m' : Bool} {s v s' v' : Int} (h : IsL s v) (h' : IsL s' v') : (wordN m s v == wordN m' s' v') = (m == m' && (s == s' && v == v')) := by
  obtain ⟨r0, r1, r2, r3, r4⟩ := wordN_range (m := m) h
  obtain ⟨q0, q1, q2, q3, q4⟩ := wordN_range (m := m') h'
  rw [Bool.eq_iff_iff]
  simp only [beq_iff_eq, Bool.and_eq_true]
  constructor
  · intro e
    rw [e] at r2 r3 r4
    refine ⟨?_, by omega, by omega⟩
    rw [Bool.eq_iff_iff, ← r2, q2]
  · rintro ⟨rfl, rfl, rfl⟩
    rfl
theorem LinkBack (aw : revenantlaw02_awake.f 40 = some true) (m : Bool) (s v : Int) (m' : Bool) (s' v' w : Int) (hw : (Lit.int .u64 w).wf = true) : revenantlaw02_LinkBack.f 40 m s v m' s' v' w = some true := by
  rw [wf_u64] at hw
  obtain ⟨w0, w1⟩ := hw
  have hl : IsL (w / 1099511627776 % 8388608) (w % 1099511627776) := by unfold IsL; omega
  have hwd : wordN (decide (w ≥ 9223372036854775808)) (w / 1099511627776 % 8388608) (w % 1099511627776) = w := by
    unfold wordN
    by_cases h : w ≥ 9223372036854775808
    · rw [decide_eq_true h, if_pos rfl]; omega
    · rw [decide_eq_false h]
      simp only [Bool.false_eq_true, if_false]
      omega
  unfold revenantlaw02_LinkBack.f
  rw [aw, of_f (by omega) w0 w1]
  simp only [bsome, if_true]
  rw [isL_f, decide_eq_true hl]
  simp only [bsome, if_true]
  rw [word_f (by omega)]
  simp only [bsome]
  unfold WordV
  rw [if_pos hl, hwd, bne_self_eq_false]
  simp only [revenantlaw02_LinkBack.j0, Bool.false_eq_true, if_false]
  rw [isL_f, isL_f]
  simp only [bsome]
  by_cases h : IsL s v
  · rw [decide_eq_true h, if_pos rfl]
    by_cases h' : IsL s' v'
    · rw [decide_eq_true h']
      simp only [revenantlaw02_LinkBack.j1, Bool.not_true, Bool.false_eq_true, if_false]
      rw [word_f (by omega), word_f (by omega)]
      unfold WordV
      rw [if_pos h, if_pos h']
      simp only [bsome]
      rw [of_word (by omega) h]
      simp only [bsome, beq_self_eq_true, Bool.and_self, if_true]
      rw [word_inj h h']
      simp
    · rw [decide_eq_false h']
      simp only [revenantlaw02_LinkBack.j1, Bool.not_false, if_true]
  · rw [decide_eq_false h]
    simp only [Bool.false_eq_true, if_false, revenantlaw02_LinkBack.j1, if_true]
theorem RLinkBack (m : Bool) (s v : Int) (m' : Bool) (s' v' w : Int) (_ : True ∧ (Lit.int .i64 s).wf = true ∧ (Lit.int .i64 v).wf = true) (_ : True ∧ (Lit.int .i64 s').wf = true ∧ (Lit.int .i64 v').wf = true) (g : (Lit.int .u64 w).wf = true) :
    ∃ k, revenantlaw02_LinkBack.f k m s v m' s' v' w = some true := ⟨40, LinkBack (awake_30 (by omega)) _ _ _ _ _ _ _ g⟩
end Go.Proofs.Ythdimjpofkapfaa.Pure
