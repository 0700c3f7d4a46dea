/-
script.Check, as the printed texts ask for it.
-/
import Derived.Test.YtcphmelmieedfaaExtConvExact
namespace Go.Proofs.Ytcphmelmieedfaa.PScriptExact
open Go Go.RowKit Go.Proofs.YtcphmelmieedfaaW.PrintWords Go.Proofs.YtcphmelmieedfaaW.PrintLast Go.Proofs.YtcphmelmieedfaaW.PrintMore
set_option linter.unusedVariables false
def script_Check.f (a0_0 a0_1 a0_2 a0_3 a0_4 : Int) (l0_5 : List (List S37)) (l0_6 : List Int) : Option (Int × Int × Int) := some (PScriptTurns.scV a0_0 a0_1 a0_2 a0_3 a0_4 (cvs l0_5) l0_6)
theorem script_Check.calls (a0_0 a0_1 a0_2 a0_3 a0_4 : Int) (A0_5 : Option Addr) (c0_5 : Nat) (l0_5 : List (List S37)) (A0_6 : Option Addr) (c0_6 : Nat) (l0_6 : List Int) (r1 r2 r3 : Int) (w : World) (hr0_5 : Kd.C (Kd.slice 37 k37) w A0_5 l0_5.length l0_5) (hc0_5 : l0_5.length ≤ c0_5) (hr0_6 : Kd.C (Kd.int .i64) w A0_6 l0_6.length l0_6) (hc0_6 : l0_6.length ≤ c0_6)
    (h : script_Check.f a0_0 a0_1 a0_2 a0_3 a0_4 l0_5 l0_6 = some (r1, r2, r3)) :
    Calls Try.prog 25 #[.agg #[.int .i64 a0_0, .int .i64 a0_1, .int .i64 a0_2, .int .i64 a0_3, .int .i64 a0_4, .slice A0_5 l0_5.length c0_5, .slice A0_6 l0_6.length c0_6]] w fun e w' => e = .returned (.agg #[.int .i64 r1, .int .i64 r2, .int .i64 r3]) ∧ Below w.heap.size w w' := by
  have h1 : (cvs l0_5).length = l0_5.length := by unfold cvs; rw [List.length_map]
  have := PScriptTurns.check_T a0_0 a0_1 a0_2 a0_3 a0_4 A0_5 c0_5 (cvs l0_5) A0_6 c0_6 l0_6 w (by rw [h1]; exact C_cvs hr0_5) hr0_6
  rw [Option.some.inj h, h1] at this
  exact this
end Go.Proofs.Ytcphmelmieedfaa.PScriptExact

