/-
The law SoulExact.
-/
import Derived.Test.YtlpnggapndokeaaSoulExactS
import Derived.Test.YtlpnggapndokeaaSoulExactT
namespace Go.Proofs.Ytlpnggapndokeaa.PIdealKeeps
open Go Go.RowKit Go.Proofs.YtlpnggapndokeaaW.PrintWords Go.Proofs.YtlpnggapndokeaaW.PrintLast Go.Proofs.YtlpnggapndokeaaW.PrintMore Go.Proofs.Ytlpnggapndokeaa.M
attribute [local go_sem] max2_int min2_int max_two min_two max_three min_three max_four min_four
set_option linter.unusedVariables false
set_option linter.unusedSimpArgs false
def revenantlaw06_SoulExact.f (xs : List Int) (slot id : Int) : Option Bool := if ∀ x ∈ xs, (Lit.int .i64 x).wf = true then some true else none
theorem revenantlaw06_SoulExact.calls (A0_ : Option Addr) (c0 : Nat) (xs : List Int) (slot id : Int) (r : Bool) (w : World) (hr0 : Kd.C (Kd.int .i64) w A0_ xs.length xs) (hc0 : xs.length ≤ c0) (h : revenantlaw06_SoulExact.f xs slot id = some r) :
    Calls Try.prog 13 #[.slice A0_ xs.length c0, .int .i64 slot, .int .i64 id] w fun e w' => e = .returned (.bool r) ∧ Below w.heap.size w w' := by
  unfold revenantlaw06_SoulExact.f at h
  by_cases hw : ∀ x ∈ xs, (Lit.int .i64 x).wf = true
  · rw [if_pos hw] at h
    obtain rfl := Option.some.inj h
    by_cases hb : xs.length ≤ 100
    · rcases Int.lt_trichotomy id 0 with h | h | h
      · exact exact06Tsn A0_ c0 xs slot id w hr0 hc0 hw hb h
      · exact exact06Tsz A0_ c0 xs slot id w hr0 hc0 hw hb h
      · exact exact06Tsp A0_ c0 xs slot id w hr0 hc0 hw hb h
    · rcases Int.lt_trichotomy id 0 with h | h | h
      · exact exact06Tbn A0_ c0 xs slot id w hr0 hc0 hw (by omega) h
      · exact exact06Tbz A0_ c0 xs slot id w hr0 hc0 hw (by omega) h
      · exact exact06Tbp A0_ c0 xs slot id w hr0 hc0 hw (by omega) h
  · rw [if_neg hw] at h
    cases h
theorem RSoulExact (xs : List Int) (slot id : Int) {P Q R1 R2 : Prop} (g : P ∧ Q ∧ ∀ x ∈ xs, (Lit.int .i64 x).wf = true) (_ : R1) (_ : R2) : revenantlaw06_SoulExact.f xs slot id = some true := if_pos g.2.2
end Go.Proofs.Ytlpnggapndokeaa.PIdealKeeps

