import Derived.Test.YtinmmnljicmppaaDoorVTaleV
import Derived.Test.YtinmmnljicmppaaDoorVTalePc
/-
awake in the words of the printed texts.
-/
namespace Go.Proofs.YtinmmnljicmppaaDoor.PTaleApart
open Go Go.RowKit Go.Proofs.YtinmmnljicmppaaDoorW.PrintWords Go.Proofs.YtinmmnljicmppaaDoorW.PrintLast Go.Proofs.YtinmmnljicmppaaDoorW.PrintMore Go.Proofs.YtinmmnljicmppaaDoor.Str
set_option linter.unusedVariables false
def revenantlaw32_awake.f : Option Bool := some true
theorem revenantlaw32_awake.calls (r : Bool) (w : World) (h : revenantlaw32_awake.f = some r) {w0 : World} (ht0 : WT w0) (hb0 : Below w0.heap.size w0 w) :
  Calls Tryd.prog 5 #[] w fun e w' => e = .returned (.bool r) ∧ Below w.heap.size w w' := by
 have h2 : true = r := Option.some.inj h
 subst h2
 exact awake_T w (ht0.below hb0)
end Go.Proofs.YtinmmnljicmppaaDoor.PTaleApart
