/-
MintScripts as a function of numbers.
-/
import Derived.Test.YtcphmelmieedfaaScrLaw
import Derived.Test.YtcphmelmieedfaaWords
namespace Go.Proofs.Ytcphmelmieedfaa.PMintScripts
open Go Go.RowKit Go.Proofs.YtcphmelmieedfaaW.PrintWords Go.Proofs.YtcphmelmieedfaaW.PrintLast Go.Proofs.YtcphmelmieedfaaW.PrintMore Go.Proofs.Ytcphmelmieedfaa.U
set_option linter.unusedVariables false
def revenantlaw34_MintScripts.f (a0 c0 c1 c2 c3 c4 n0 n1 n2 n3 : Int) : Option Bool := if 0 ≤ a0 ∧ a0 < 18446744073709551616 then some true else none
theorem revenantlaw34_MintScripts.calls (a0 c0 c1 c2 c3 c4 n0 n1 n2 n3 : Int) (r : Bool) (w : World) (h : revenantlaw34_MintScripts.f a0 c0 c1 c2 c3 c4 n0 n1 n2 n3 = some r) :
    Calls Try.prog 5 #[.int .u64 a0, .agg #[.int .i64 c0, .int .i64 c1, .int .i64 c2, .int .i64 c3, .int .i64 c4], .agg #[.int .i64 n0, .int .i64 n1, .int .i64 n2, .int .i64 n3]] w fun e w' => e = .returned (.bool r) ∧ Below w.heap.size w w' := by
  unfold revenantlaw34_MintScripts.f at h
  by_cases hc : 0 ≤ a0 ∧ a0 < 18446744073709551616
  · rw [if_pos hc] at h
    obtain rfl := Option.some.inj h
    have := scrT (B a0) c0 c1 c2 c3 c4 n0 n1 n2 n3 w
    rw [I_B_of hc.1 hc.2] at this
    exact this
  · rw [if_neg hc] at h
    cases h
theorem RMintScripts (a0 c0 c1 c2 c3 c4 n0 n1 n2 n3 : Int) (g0 : (Lit.int .u64 a0).wf = true)
    (_ : (Lit.int .i64 c0).wf = true ∧ (Lit.int .i64 c1).wf = true ∧ (Lit.int .i64 c2).wf = true ∧ (Lit.int .i64 c3).wf = true ∧ (Lit.int .i64 c4).wf = true)
    (_ : (Lit.int .i64 n0).wf = true ∧ (Lit.int .i64 n1).wf = true ∧ (Lit.int .i64 n2).wf = true ∧ (Lit.int .i64 n3).wf = true) : revenantlaw34_MintScripts.f a0 c0 c1 c2 c3 c4 n0 n1 n2 n3 = some true :=
  if_pos (wf_u64.1 g0)
end Go.Proofs.Ytcphmelmieedfaa.PMintScripts

