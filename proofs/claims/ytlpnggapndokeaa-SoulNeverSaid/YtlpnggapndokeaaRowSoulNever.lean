/-
THE ROW OF THE STATEMENT SoulNever: whatever its arguments are, the law answers true and its arguments read as they did. No condition beyond the row's own.
-/
import Derived.Test.YtlpnggapndokeaaRows
import Derived.Test.YtlpnggapndokeaaOpens
import Derived.Test.YtlpnggapndokeaaSoulNeverLaw
import Derived.WalkKit
import Derived.ProofKit
import Derived.OpenShut
import Derived.ShutString
import Derived.ChangeOld
import Derived.Below
import Derived.SizedLaws
namespace Go.Proofs.Ytlpnggapndokeaa.rowSoulNever
open Go.ChangeShapes Go.WideShapes Go.ChangeAt Go.RowKit
open Go.ChangeMaps (open_string shut_string)
open Go.Proofs.YtlpnggapndokeaaW.PrintWords Go.Proofs.Ytlpnggapndokeaa.Op Go.Proofs.Ytlpnggapndokeaa.PIdealKeeps
set_option linter.unusedVariables false
set_option linter.unusedSimpArgs false
theorem own : ownKnob Try.prog.godebug = none := by kernel_rfl
theorem laidOut : laidOutB Try.prog = true := by kernel_rfl
set_option maxRecDepth 100000 in
theorem lifted (os : Os) (started : os.Started) (H : Type) (enc : TypeId × Value → H) :
    ReturnsInHanded {} Try.checked os 14 .any (Rows.soulNeverSpec.pre6 enc Try.prog Try.f14 Rows.soulNeverRow.domain false) (Rows.soulNeverSpec.post enc Try.prog Try.f14 false true false false) := by
  refine returnsInHanded_of_change_sized (C := Try.checked) own started (by kernel_rfl) Try.func14
    (ChangeSpec.witness6 (enc := enc) (C := Try.checked) false ⟨#[], #[.slice none 0 0, .slice none 0 0], []⟩ 8 (by kernel_rfl) (by kernel_rfl) (by kernel_rfl) (by kernel_rfl)) ?_
  intro W base args ds gs before hval0 hW hcnd hsz0 _
  have hsz : (DataW.weightsEach Try.prog (Try.f14.params.toList ++ Rows.soulNeverSpec.plain.varTypes Try.prog) (ds ++ gs)).all (· ≤ reachBytes) = true := hsz0
  have hval : ∀ (j : Nat) t v, Try.f14.params[j]? = some t → args[j]? = some v → Value.okWide Try.prog W .any base t v := hval0
  have hW' := hW
  obtain ⟨p, q, hA0, hV, rfl, hfz, hnd⟩ := hW
  have hA : DataW.TrodAll enc Try.prog W 0 (fun _ => true) true Try.f14.params.toList args.toList ds p := hA0
  rw [Try.params14] at hA hval hsz
  obtain ⟨v0, vs0, d0, ds0, p0, q0, hargs, rfl, rfl, h0, r0⟩ := trodAll_cons hA
  obtain ⟨v1, vs1, d1, ds1, p1, q1, rfl, rfl, rfl, h1, r1⟩ := trodAll_cons r0
  obtain ⟨rfl, rfl, rfl⟩ := trodAll_nil r1
  obtain rfl : args = #[v0, v1] := by cases args; simp_all
  obtain ⟨rfl, rfl⟩ := trodVars_none hV
  have k0 := h0
  have lt0 : ∀ x ∈ p0, x.block < W.heap.size := by obtain ⟨m, hm⟩ := k0; exact DataW.trod_lt m _ _ _ hm
  obtain ⟨fu0, hf0⟩ := h0
  obtain ⟨x0, hx0, g0⟩ := (opens_slice (B := 8) Try.underlying56 (by kernel_rfl) (by kernel_rfl) (opens_int Try.underlying3)) H enc W fu0 _ _ _ hf0 (opens_at hsz (j := 0) rfl rfl)
  obtain ⟨A0, len0, c0, rfl⟩ := okWide_slice Try.underlying56 (hval 0 56 v0 rfl rfl)
  obtain ⟨A0', c0', e0, hc0, hr0⟩ := hx0
  simp only [Value.cells] at e0
  obtain ⟨rfl, rfl, rfl⟩ : A0 = A0' ∧ len0 = x0.length ∧ c0 = c0' := by simpa using e0
  have k1 := h1
  have lt1 : ∀ x ∈ p1, x.block < W.heap.size := by obtain ⟨m, hm⟩ := k1; exact DataW.trod_lt m _ _ _ hm
  obtain ⟨fu1, hf1⟩ := h1
  obtain ⟨x1, hx1, g1⟩ := (opens_slice (B := 8) Try.underlying56 (by kernel_rfl) (by kernel_rfl) (opens_int Try.underlying3)) H enc W fu1 _ _ _ hf1 (opens_at hsz (j := 1) rfl rfl)
  obtain ⟨A1, len1, c1, rfl⟩ := okWide_slice Try.underlying56 (hval 1 56 v1 rfl rfl)
  obtain ⟨A1', c1', e1, hc1, hr1⟩ := hx1
  simp only [Value.cells] at e1
  obtain ⟨rfl, rfl, rfl⟩ : A1 = A1' ∧ len1 = x1.length ∧ c1 = c1' := by simpa using e1
  clear hA0 hval0 hsz0 hsz
  have hk := RSoulNever x0 x1 g0 g1
  refine (revenantlaw06_SoulNever.calls (w := W) (r := true) (hr0 := hr0) (hc0 := hc0) (hr1 := hr1) (hc1 := hc1) (h := hk)).mono fun e W' ⟨he, bel⟩ => ?_
  subst he
  exact ⟨_, rfl, _, _, _, [], _, [], hW', trodAll_mk1 (shut_bool Try.underlying4 _), (trodAll_cons_mk (Below.trod laidOut (by kernel_rfl) (of_decide_eq_true (by kernel_rfl)) k0 bel lt0) (trodAll_cons_mk (Below.trod laidOut (by kernel_rfl) (of_decide_eq_true (by kernel_rfl)) k1 bel lt1) trodAll_mk0)), rfl, bel.frame _, fun h => by cases h⟩
theorem over : Rows.soulNeverRow.holds Try.pinned (OpenSpec.ofChange Rows.soulNeverSpec) :=
  OpenClaim.holds_of_wide 14 Try.f14 rfl rfl rfl rfl rfl rfl rfl ⟨rfl, rfl, rfl, rfl, rfl⟩ rfl rfl rfl rfl rfl (by kernel_rfl) Try.func14 (by kernel_rfl)
    (of_decide_eq_true (by kernel_rfl)) (by unfold Func.isWrapper; first | (rw [if_pos (by decide +kernel)]; kernel_rfl) | (rw [if_neg (by decide +kernel)]; exact ⟨rfl, rfl⟩))
    (fun os started H enc _ => lifted os started H enc)
end Go.Proofs.Ytlpnggapndokeaa.rowSoulNever
namespace Go.Proofs.Ytlpnggapndokeaa
/-- The row, under a short name, for the claim. -/
theorem soulNever_holds : Rows.SoulNeverSaid := rowSoulNever.over
#print axioms soulNever_holds
end Go.Proofs.Ytlpnggapndokeaa
