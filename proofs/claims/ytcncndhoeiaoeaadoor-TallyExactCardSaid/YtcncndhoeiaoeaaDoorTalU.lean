/-
The law TallyExact, as its row asks for it.
-/
import Derived.LaidMore
import Derived.Lib.LaidTab
import Derived.Stop.LaidErr
import Derived.ProofKit
import Derived.Test.YtcncndhoeiaoeaaDoorTalT
import Derived.Test.YtcncndhoeiaoeaaDoorRows
namespace Go.Proofs.YtcncndhoeiaoeaaDoor.PTallyExact
open Go Go.RowKit Go.Proofs.YtcncndhoeiaoeaaDoorW.PrintWords Go.Proofs.YtcncndhoeiaoeaaDoorW.PrintLast Go.Proofs.YtcncndhoeiaoeaaDoorW.PrintMore Go.Proofs.YtcncndhoeiaoeaaDoor.U
set_option linter.unusedVariables false
/-- What the listed table says of a world. -/
theorem tabOf {W : World} (h : laidMetH Tryd.prog Rows.tallyExactRow.laid W) : TabW W := by
  rw [MakeChecks.laidMetH_plain _ _ _ (by kernel_rfl)] at h
  have h1 : laidMet Tryd.prog (_ :: _ :: _ :: []) W := h
  exact Lib.tabIs_of_head (zs := Lib.pow10Tab) (t := 119) (e := 71) (n := 20) gTab (by kernel_rfl) Tryd.underlying119 Tryd.underlying71 (by kernel_rfl) (by kernel_rfl) (laidMet.tail (laidMet.tail h1))
theorem tallyExact_pure {p : Prop} (x : List S78) (g : p) : (some true : Option Bool) = some true := rfl
theorem tallyExact_calls (A0 : Option Addr) (c0 : Nat) (l0 : List S78) (r : Bool) (w : World) (hr0 : Kd.C k78 w A0 l0.length l0) (hc0 : l0.length ≤ c0) (ht : TabW w) (h : some true = some r) :
    Calls Tryd.prog 7 #[.slice A0 l0.length c0] w fun e w' => e = .returned (.bool r) ∧ Below w.heap.size w w' := by
  obtain rfl := Option.some.inj h
  exact tallyExact_T l0 A0 c0 w hr0 hc0 ht
end Go.Proofs.YtcncndhoeiaoeaaDoor.PTallyExact

