/-
The closed function awake of layer 22, as the printed texts ask for it.
-/
import Derived.Test.YtcphmelmieedfaaTurnsE
namespace Go.Proofs.Ytcphmelmieedfaa.PScriptExact
open Go.RowKit Go.Proofs.YtcphmelmieedfaaW.PrintWords Go.Proofs.YtcphmelmieedfaaW.PrintLast Go.Proofs.YtcphmelmieedfaaW.PrintMore
def revenantlaw22_awake.f : Option Bool := some true
theorem revenantlaw22_awake.calls (r : Bool) (w : World) (h : revenantlaw22_awake.f = some r) : Calls Try.prog 27 #[] w fun e w' => e = .returned (.bool r) ∧ Below w.heap.size w w' := by
  obtain rfl := Option.some.inj h
  exact Go.Proofs.Ytcphmelmieedfaa.PScriptTurns.awake22T w
end Go.Proofs.Ytcphmelmieedfaa.PScriptExact

