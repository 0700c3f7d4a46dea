/-
Of every link the word, and of every word the link, are the document's. No condition beyond the row's own.
-/
import Derived.Test.YthdimjpofkapfaaTLinkExact
import Derived.Test.YthdimjpofkapfaaLinkLem
namespace Go.Proofs.Ythdimjpofkapfaa.Pure
open Go Go.RowKit Go.Proofs.Ythdimjpofkapfaa.PLinkExact Go.Proofs.YthdimjpofkapfaaW.PrintWords Go.Proofs.YthdimjpofkapfaaW.PrintLast Go.Proofs.YthdimjpofkapfaaW.PrintMore Go.Proofs.Ythdimjpofkapfaa.U
theorem LinkExact (aw : revenantlaw02_awake.f 40 = some true) (m : Bool) (s v w : Int) (hw : (Lit.int .u64 w).wf = true) : revenantlaw02_LinkExact.f 40 m s v w = some true := by
  rw [wf_u64] at hw
  obtain ⟨w0, w1⟩ := hw
  unfold revenantlaw02_LinkExact.f
  rw [aw]
  simp only [bsome, if_true, revenantlaw02_form.f]
  rw [of_f (by omega) w0 w1, rof_f w0 w1, isL_f, risL_f, word_f (by omega), rword_f, slot_f (by omega) w0 w1, version_f (by omega) w0 w1, isMarked_f w0 w1]
  simp only [bsome, if_true, bne_self_eq_false, beq_self_eq_true, Bool.false_eq_true, if_false, Bool.not_true, Bool.or_self]
  simp only [revenantlaw02_LinkExact.j0, Bool.false_eq_true, if_false]
  rw [rword_f, rword_f, to_f (by omega), marked_f (by omega) w0 w1]
  simp only [bsome, if_true, decide_eq_true_eq]
  split <;> simp
theorem RLinkExact (m : Bool) (s v w : Int) (_ : True ∧ (Lit.int .i64 s).wf = true ∧ (Lit.int .i64 v).wf = true) (g : (Lit.int .u64 w).wf = true) :
    ∃ k, revenantlaw02_LinkExact.f k m s v w = some true := ⟨40, LinkExact (awake_30 (by omega)) _ _ _ _ g⟩
end Go.Proofs.Ythdimjpofkapfaa.Pure
