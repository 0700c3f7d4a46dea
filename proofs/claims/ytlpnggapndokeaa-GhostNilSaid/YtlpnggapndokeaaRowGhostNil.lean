/-
THE ROW OF THE STATEMENT GhostNil: whatever its arguments are, the law answers true and its arguments read as they did. No condition beyond the row's own.
-/
import Derived.Test.YtlpnggapndokeaaRows
import Derived.Test.YtlpnggapndokeaaOpens
import Derived.Test.YtlpnggapndokeaaGhostNilLaw
import Derived.WalkKit
import Derived.ProofKit
import Derived.OpenShut
import Derived.ShutString
import Derived.ChangeOld
import Derived.Below
import Derived.SizedLaws
namespace Go.Proofs.Ytlpnggapndokeaa.rowGhostNil
open Go.ChangeShapes Go.WideShapes Go.ChangeAt Go.RowKit
open Go.ChangeMaps (open_string shut_string)
open Go.Proofs.YtlpnggapndokeaaW.PrintWords Go.Proofs.Ytlpnggapndokeaa.Op Go.Proofs.Ytlpnggapndokeaa.PIdealKeeps
set_option linter.unusedVariables false
set_option linter.unusedSimpArgs false
theorem own : ownKnob Try.prog.godebug = none := by kernel_rfl
theorem laidOut : laidOutB Try.prog = true := by kernel_rfl
structure S23 where
  f0 : Int
  f1 : Int
  f2 : Int
def k23 : Kd S23 := Kd.iso (Kd.pair (Kd.int .i64) (Kd.pair (Kd.int .i64) (Kd.int .i64))) (fun x : S23 => (x.f0, x.f1, x.f2))
theorem k23_open {w : World} {x : S23} {cs : List Value} (h : k23.K w x cs) : cs = [.int .i64 x.f0, .int .i64 x.f1, .int .i64 x.f2] := by
  obtain ⟨_, _, rfl, rfl, ⟨_, _, rfl, rfl, rfl⟩⟩ := h
  rfl
def G23 (x : S23) : Prop := (Lit.int .i64 x.f0).wf = true ∧ (Lit.int .i64 x.f1).wf = true ∧ (Lit.int .i64 x.f2).wf = true
theorem opens23 : Opens Try.prog 23 k23 G23 :=
  opens_iso (opens_struct Try.underlying23 (by kernel_rfl) (opensF_cons rfl (by kernel_rfl) (opens_int Try.underlying3) (opensF_cons rfl (by kernel_rfl) (opens_int Try.underlying3) (opensF_one rfl (by kernel_rfl) (opens_int Try.underlying3))))) (fun x : S23 => (x.f0, x.f1, x.f2)) (fun p => ⟨p.1, p.2.1, p.2.2⟩) (fun _ => rfl)
structure S25 where
  f0 : S23
  f1 : Int
def k25 : Kd S25 := Kd.iso (Kd.pair (k23) (Kd.int .i64)) (fun x : S25 => (x.f0, x.f1))
theorem k25_open {w : World} {x : S25} {cs : List Value} (h : k25.K w x cs) : cs = [.int .i64 x.f0.f0, .int .i64 x.f0.f1, .int .i64 x.f0.f2, .int .i64 x.f1] := by
  obtain ⟨_, _, rfl, ⟨_, _, rfl, rfl, ⟨_, _, rfl, rfl, rfl⟩⟩, rfl⟩ := h
  rfl
def G25 (x : S25) : Prop := G23 x.f0 ∧ (Lit.int .i64 x.f1).wf = true
theorem opens25 : Opens Try.prog 25 k25 G25 :=
  opens_iso (opens_struct Try.underlying25 (by kernel_rfl) (opensF_cons rfl (by kernel_rfl) opens23 (opensF_one rfl (by kernel_rfl) (opens_int Try.underlying3)))) (fun x : S25 => (x.f0, x.f1)) (fun p => ⟨p.1, p.2⟩) (fun _ => rfl)
structure S28 where
  f0 : Int
  f1 : Int
  f2 : Bool
def k28 : Kd S28 := Kd.iso (Kd.pair (Kd.int .u64) (Kd.pair (Kd.int .i64) (Kd.bool))) (fun x : S28 => (x.f0, x.f1, x.f2))
theorem k28_open {w : World} {x : S28} {cs : List Value} (h : k28.K w x cs) : cs = [.int .u64 x.f0, .int .i64 x.f1, .bool x.f2] := by
  obtain ⟨_, _, rfl, rfl, ⟨_, _, rfl, rfl, rfl⟩⟩ := h
  rfl
def G28 (x : S28) : Prop := (Lit.int .u64 x.f0).wf = true ∧ (Lit.int .i64 x.f1).wf = true ∧ True
theorem opens28 : Opens Try.prog 28 k28 G28 :=
  opens_iso (opens_struct Try.underlying28 (by kernel_rfl) (opensF_cons rfl (by kernel_rfl) (opens_int Try.underlying26) (opensF_cons rfl (by kernel_rfl) (opens_int Try.underlying3) (opensF_one rfl (by kernel_rfl) (opens_bool Try.underlying4))))) (fun x : S28 => (x.f0, x.f1, x.f2)) (fun p => ⟨p.1, p.2.1, p.2.2⟩) (fun _ => rfl)
set_option maxRecDepth 100000 in
theorem lifted (os : Os) (started : os.Started) (H : Type) (enc : TypeId × Value → H) :
    ReturnsInHanded {} Try.checked os 9 .any (Rows.ghostNilSpec.pre6 enc Try.prog Try.f9 Rows.ghostNilRow.domain false) (Rows.ghostNilSpec.post enc Try.prog Try.f9 false true false false) := by
  refine returnsInHanded_of_change_sized (C := Try.checked) own started (by kernel_rfl) Try.func9
    (ChangeSpec.witness6 (enc := enc) (C := Try.checked) false ⟨#[], #[.agg #[.int .i64 0, .int .i64 0, .int .i64 0, .int .i64 0], .agg #[.int .u64 0, .int .i64 0, .bool false]], []⟩ 8 (by kernel_rfl) (by kernel_rfl) (by kernel_rfl) (by kernel_rfl)) ?_
  intro W base args ds gs before hval0 hW hcnd hsz0 _
  have hsz : (DataW.weightsEach Try.prog (Try.f9.params.toList ++ Rows.ghostNilSpec.plain.varTypes Try.prog) (ds ++ gs)).all (· ≤ reachBytes) = true := hsz0
  have hval : ∀ (j : Nat) t v, Try.f9.params[j]? = some t → args[j]? = some v → Value.okWide Try.prog W .any base t v := hval0
  have hW' := hW
  obtain ⟨p, q, hA0, hV, rfl, hfz, hnd⟩ := hW
  have hA : DataW.TrodAll enc Try.prog W 0 (fun _ => true) true Try.f9.params.toList args.toList ds p := hA0
  rw [Try.params9] at hA hval hsz
  obtain ⟨v0, vs0, d0, ds0, p0, q0, hargs, rfl, rfl, h0, r0⟩ := trodAll_cons hA
  obtain ⟨v1, vs1, d1, ds1, p1, q1, rfl, rfl, rfl, h1, r1⟩ := trodAll_cons r0
  obtain ⟨rfl, rfl, rfl⟩ := trodAll_nil r1
  obtain rfl : args = #[v0, v1] := by cases args; simp_all
  obtain ⟨rfl, rfl⟩ := trodVars_none hV
  have k0 := h0
  have lt0 : ∀ x ∈ p0, x.block < W.heap.size := by obtain ⟨m, hm⟩ := k0; exact DataW.trod_lt m _ _ _ hm
  obtain ⟨fu0, hf0⟩ := h0
  obtain ⟨x0, hx0, g0⟩ := opens25 H enc W fu0 _ _ _ hf0 (opens_at hsz (j := 0) rfl rfl)
  obtain ⟨cs0, rfl, _⟩ := okWide_struct Try.underlying25 (hval 0 25 v0 rfl rfl)
  obtain rfl : cs0 = #[.int .i64 x0.f0.f0, .int .i64 x0.f0.f1, .int .i64 x0.f0.f2, .int .i64 x0.f1] := by
    have := k25_open hx0
    apply Array.ext'
    simpa [Value.cells] using this
  have k1 := h1
  have lt1 : ∀ x ∈ p1, x.block < W.heap.size := by obtain ⟨m, hm⟩ := k1; exact DataW.trod_lt m _ _ _ hm
  obtain ⟨fu1, hf1⟩ := h1
  obtain ⟨x1, hx1, g1⟩ := opens28 H enc W fu1 _ _ _ hf1 (opens_at hsz (j := 1) rfl rfl)
  obtain ⟨cs1, rfl, _⟩ := okWide_struct Try.underlying28 (hval 1 28 v1 rfl rfl)
  obtain rfl : cs1 = #[.int .u64 x1.f0, .int .i64 x1.f1, .bool x1.f2] := by
    have := k28_open hx1
    apply Array.ext'
    simpa [Value.cells] using this
  clear hA0 hval0 hsz0 hsz
  have hk := RGhostNil x0.f0.f0 x0.f0.f1 x0.f0.f2 x0.f1 x1.f0 x1.f1 x1.f2 g0 g1
  refine (revenantlaw08_GhostNil.calls (w := W) (r := true) (h := hk)).mono fun e W' ⟨he, bel⟩ => ?_
  subst he
  exact ⟨_, rfl, _, _, _, [], _, [], hW', trodAll_mk1 (shut_bool Try.underlying4 _), (trodAll_cons_mk (Below.trod laidOut (by kernel_rfl) (of_decide_eq_true (by kernel_rfl)) k0 bel lt0) (trodAll_cons_mk (Below.trod laidOut (by kernel_rfl) (of_decide_eq_true (by kernel_rfl)) k1 bel lt1) trodAll_mk0)), rfl, bel.frame _, fun h => by cases h⟩
theorem over : Rows.ghostNilRow.holds Try.pinned (OpenSpec.ofChange Rows.ghostNilSpec) :=
  OpenClaim.holds_of_wide 9 Try.f9 rfl rfl rfl rfl rfl rfl rfl ⟨rfl, rfl, rfl, rfl, rfl⟩ rfl rfl rfl rfl rfl (by kernel_rfl) Try.func9 (by kernel_rfl)
    (of_decide_eq_true (by kernel_rfl)) (by unfold Func.isWrapper; first | (rw [if_pos (by decide +kernel)]; kernel_rfl) | (rw [if_neg (by decide +kernel)]; exact ⟨rfl, rfl⟩))
    (fun os started H enc _ => lifted os started H enc)
end Go.Proofs.Ytlpnggapndokeaa.rowGhostNil
namespace Go.Proofs.Ytlpnggapndokeaa
/-- The row, under a short name, for the claim. -/
theorem ghostNil_holds : Rows.GhostNilSaid := rowGhostNil.over
#print axioms ghostNil_holds
end Go.Proofs.Ytlpnggapndokeaa
