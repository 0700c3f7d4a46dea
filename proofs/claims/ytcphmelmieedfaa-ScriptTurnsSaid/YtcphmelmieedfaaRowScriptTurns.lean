/-
THE ROW OF THE STATEMENT ScriptTurns: whatever its arguments are, the law answers true and its arguments read as they did. No condition beyond the row's own.
-/
import Derived.Test.YtcphmelmieedfaaRows
import Derived.Test.YtcphmelmieedfaaOpens
import Derived.Test.YtcphmelmieedfaaTurnsLaw
import Derived.WalkKit
import Derived.ProofKit
import Derived.OpenShut
import Derived.ShutString
import Derived.ChangeOld
import Derived.Below
import Derived.SizedLaws
namespace Go.Proofs.Ytcphmelmieedfaa.rowScriptTurns
open Go.ChangeShapes Go.WideShapes Go.ChangeAt Go.RowKit
open Go.ChangeMaps (open_string shut_string)
open Go.Proofs.YtcphmelmieedfaaW.PrintWords Go.Proofs.Ytcphmelmieedfaa.Op Go.Proofs.Ytcphmelmieedfaa.PScriptTurns
set_option linter.unusedVariables false
set_option linter.unusedSimpArgs false
theorem own : ownKnob Try.prog.godebug = none := by kernel_rfl
theorem laidOut : laidOutB Try.prog = true := by kernel_rfl
structure S31 where
  f0 : Int
  f1 : Int
  f2 : Int
  f3 : Int
  f4 : Int
def k31 : Kd S31 := Kd.iso (Kd.pair (Kd.int .i64) (Kd.pair (Kd.int .i64) (Kd.pair (Kd.int .i64) (Kd.pair (Kd.int .i64) (Kd.int .i64))))) (fun x : S31 => (x.f0, x.f1, x.f2, x.f3, x.f4))
theorem k31_open {w : World} {x : S31} {cs : List Value} (h : k31.K w x cs) : cs = [.int .i64 x.f0, .int .i64 x.f1, .int .i64 x.f2, .int .i64 x.f3, .int .i64 x.f4] := by
  obtain ⟨_, _, rfl, rfl, ⟨_, _, rfl, rfl, ⟨_, _, rfl, rfl, ⟨_, _, rfl, rfl, rfl⟩⟩⟩⟩ := h
  rfl
def G31 (x : S31) : Prop := (Lit.int .i64 x.f0).wf = true ∧ (Lit.int .i64 x.f1).wf = true ∧ (Lit.int .i64 x.f2).wf = true ∧ (Lit.int .i64 x.f3).wf = true ∧ (Lit.int .i64 x.f4).wf = true
theorem opens31 : Opens Try.prog 31 k31 G31 :=
  opens_iso (opens_struct Try.underlying31 (by kernel_rfl) (opensF_cons rfl (by kernel_rfl) (opens_int Try.underlying3) (opensF_cons rfl (by kernel_rfl) (opens_int Try.underlying3) (opensF_cons rfl (by kernel_rfl) (opens_int Try.underlying3) (opensF_cons rfl (by kernel_rfl) (opens_int Try.underlying3) (opensF_one rfl (by kernel_rfl) (opens_int Try.underlying3))))))) (fun x : S31 => (x.f0, x.f1, x.f2, x.f3, x.f4)) (fun p => ⟨p.1, p.2.1, p.2.2.1, p.2.2.2.1, p.2.2.2.2⟩) (fun _ => rfl)
def G37 (x : S37) : Prop := (Lit.int .i64 x.f0).wf = true ∧ (Lit.int .u64 x.f1).wf = true ∧ (Lit.int .u64 x.f2).wf = true ∧ (Lit.int .i64 x.f3).wf = true
theorem opens37 : Opens Try.prog 37 k37 G37 :=
  opens_iso (opens_struct Try.underlying37 (by kernel_rfl) (opensF_cons rfl (by kernel_rfl) (opens_int Try.underlying3) (opensF_cons rfl (by kernel_rfl) (opens_int Try.underlying22) (opensF_cons rfl (by kernel_rfl) (opens_int Try.underlying22) (opensF_one rfl (by kernel_rfl) (opens_int Try.underlying3)))))) (fun x : S37 => (x.f0, x.f1, x.f2, x.f3)) (fun p => ⟨p.1, p.2.1, p.2.2.1, p.2.2.2⟩) (fun _ => rfl)
structure S49 where
  f0 : S31
  f1 : List (List (S37))
  f2 : List (Int)
def k49 : Kd S49 := Kd.iso (Kd.pair (k31) (Kd.pair (Kd.slice 55 (Kd.slice 37 (k37))) (Kd.slice 3 (Kd.int .i64)))) (fun x : S49 => (x.f0, x.f1, x.f2))
theorem k49_openS {w : World} {x : S49} {cs : List Value} (h : k49.K w x cs) : ∃ (A5 : Option Addr) (c5 : Nat) (A6 : Option Addr) (c6 : Nat), cs = [.int .i64 x.f0.f0, .int .i64 x.f0.f1, .int .i64 x.f0.f2, .int .i64 x.f0.f3, .int .i64 x.f0.f4, .slice A5 x.f1.length c5, .slice A6 x.f2.length c6] ∧ (x.f1.length ≤ c5 ∧ Kd.C (Kd.slice 37 (k37)) w A5 x.f1.length x.f1) ∧ (x.f2.length ≤ c6 ∧ Kd.C (Kd.int .i64) w A6 x.f2.length x.f2) := by
  obtain ⟨_, _, rfl, h0, ⟨_, _, rfl, ⟨A5, c5, rfl, l5, r5⟩, ⟨A6, c6, rfl, l6, r6⟩⟩⟩ := h
  obtain rfl := k31_open h0
  exact ⟨A5, c5, A6, c6, rfl, ⟨l5, r5⟩, ⟨l6, r6⟩⟩
def G49 (x : S49) : Prop := G31 x.f0 ∧ (x.f1.length ≤ maxLen ∧ x.f1.length * 24 ≤ 140737488351232 ∧ ∀ y ∈ x.f1, (y.length ≤ maxLen ∧ y.length * 32 ≤ 140737488351232 ∧ ∀ y1 ∈ y, G37 y1)) ∧ (x.f2.length ≤ maxLen ∧ x.f2.length * 8 ≤ 140737488351232 ∧ ∀ y ∈ x.f2, (Lit.int .i64 y).wf = true)
theorem opens49 : Opens Try.prog 49 k49 G49 :=
  opens_iso (opens_struct Try.underlying49 (by kernel_rfl) (opensF_cons rfl (by kernel_rfl) opens31 (opensF_cons rfl (by kernel_rfl) (opens_slice (B := 24) Try.underlying47 (by kernel_rfl) (by kernel_rfl) (opens_slice (B := 32) Try.underlying55 (by kernel_rfl) (by kernel_rfl) opens37)) (opensF_one rfl (by kernel_rfl) (opens_slice (B := 8) Try.underlying40 (by kernel_rfl) (by kernel_rfl) (opens_int Try.underlying3)))))) (fun x : S49 => (x.f0, x.f1, x.f2)) (fun p => ⟨p.1, p.2.1, p.2.2⟩) (fun _ => rfl)
set_option maxRecDepth 100000 in
theorem lifted (os : Os) (started : os.Started) (H : Type) (enc : TypeId × Value → H) :
    ReturnsInHanded {} Try.checked os 8 .any (Rows.scriptTurnsSpec.pre6 enc Try.prog Try.f8 Rows.scriptTurnsRow.domain false) (Rows.scriptTurnsSpec.post enc Try.prog Try.f8 false true false false) := by
  refine returnsInHanded_of_change_sized (C := Try.checked) own started (by kernel_rfl) Try.func8
    (ChangeSpec.witness6 (enc := enc) (C := Try.checked) false ⟨#[], #[.agg #[.int .i64 0, .int .i64 0, .int .i64 0, .int .i64 0, .int .i64 0, .slice none 0 0, .slice none 0 0], .int .i64 0, .int .i64 0], []⟩ 8 (by kernel_rfl) (by kernel_rfl) (by kernel_rfl) (by kernel_rfl)) ?_
  intro W base args ds gs before hval0 hW hcnd hsz0 _
  have hsz : (DataW.weightsEach Try.prog (Try.f8.params.toList ++ Rows.scriptTurnsSpec.plain.varTypes Try.prog) (ds ++ gs)).all (· ≤ reachBytes) = true := hsz0
  have hval : ∀ (j : Nat) t v, Try.f8.params[j]? = some t → args[j]? = some v → Value.okWide Try.prog W .any base t v := hval0
  have hW' := hW
  obtain ⟨p, q, hA0, hV, rfl, hfz, hnd⟩ := hW
  have hA : DataW.TrodAll enc Try.prog W 0 (fun _ => true) true Try.f8.params.toList args.toList ds p := hA0
  rw [Try.params8] at hA hval hsz
  obtain ⟨v0, vs0, d0, ds0, p0, q0, hargs, rfl, rfl, h0, r0⟩ := trodAll_cons hA
  obtain ⟨v1, vs1, d1, ds1, p1, q1, rfl, rfl, rfl, h1, r1⟩ := trodAll_cons r0
  obtain ⟨v2, vs2, d2, ds2, p2, q2, rfl, rfl, rfl, h2, r2⟩ := trodAll_cons r1
  obtain ⟨rfl, rfl, rfl⟩ := trodAll_nil r2
  obtain rfl : args = #[v0, v1, v2] := by cases args; simp_all
  obtain ⟨rfl, rfl⟩ := trodVars_none hV
  have k0 := h0
  have lt0 : ∀ x ∈ p0, x.block < W.heap.size := by obtain ⟨m, hm⟩ := k0; exact DataW.trod_lt m _ _ _ hm
  obtain ⟨fu0, hf0⟩ := h0
  obtain ⟨x0, hx0, g0⟩ := opens49 H enc W fu0 _ _ _ hf0 (opens_at hsz (j := 0) rfl rfl)
  obtain ⟨cs0, rfl, _⟩ := okWide_struct Try.underlying49 (hval 0 49 v0 rfl rfl)
  obtain ⟨A0_5, c0_5, A0_6, c0_6, e0, ⟨l0_5, r0_5⟩, ⟨l0_6, r0_6⟩⟩ := k49_openS hx0
  obtain rfl : cs0 = #[.int .i64 x0.f0.f0, .int .i64 x0.f0.f1, .int .i64 x0.f0.f2, .int .i64 x0.f0.f3, .int .i64 x0.f0.f4, .slice A0_5 x0.f1.length c0_5, .slice A0_6 x0.f2.length c0_6] := by
    apply Array.ext'
    simpa [Value.cells] using e0
  have k1 := h1
  have lt1 : ∀ x ∈ p1, x.block < W.heap.size := by obtain ⟨m, hm⟩ := k1; exact DataW.trod_lt m _ _ _ hm
  obtain ⟨fu1, hf1⟩ := h1
  obtain ⟨x1, hx1, g1⟩ := (opens_int Try.underlying3) H enc W fu1 _ _ _ hf1 (opens_at hsz (j := 1) rfl rfl)
  obtain ⟨y1, rfl, _, _, _⟩ := open_int Try.underlying3 (hval 1 3 v1 rfl rfl) k1
  obtain rfl : x1 = y1 := by
    have e : _ = _ := hx1
    simpa [Value.cells, Kd.int, Kd.scalar] using e.symm
  have k2 := h2
  have lt2 : ∀ x ∈ p2, x.block < W.heap.size := by obtain ⟨m, hm⟩ := k2; exact DataW.trod_lt m _ _ _ hm
  obtain ⟨fu2, hf2⟩ := h2
  obtain ⟨x2, hx2, g2⟩ := (opens_int Try.underlying3) H enc W fu2 _ _ _ hf2 (opens_at hsz (j := 2) rfl rfl)
  obtain ⟨y2, rfl, _, _, _⟩ := open_int Try.underlying3 (hval 2 3 v2 rfl rfl) k2
  obtain rfl : x2 = y2 := by
    have e : _ = _ := hx2
    simpa [Value.cells, Kd.int, Kd.scalar] using e.symm
  clear hA0 hval0 hsz0 hsz
  have hk := RScriptTurns x0.f0.f0 x0.f0.f1 x0.f0.f2 x0.f0.f3 x0.f0.f4 x0.f1 x0.f2 x1 x2 g0 g1 g2
  refine (revenantlaw22_ScriptTurns.calls (w := W) (r := true) (hr0_5 := r0_5) (hc0_5 := l0_5) (hr0_6 := r0_6) (hc0_6 := l0_6) (h := hk)).mono fun e W' ⟨he, bel⟩ => ?_
  subst he
  exact ⟨_, rfl, _, _, _, [], _, [], hW', trodAll_mk1 (shut_bool Try.underlying4 _), (trodAll_cons_mk (Below.trod laidOut (by kernel_rfl) (of_decide_eq_true (by kernel_rfl)) k0 bel lt0) (trodAll_cons_mk (Below.trod laidOut (by kernel_rfl) (of_decide_eq_true (by kernel_rfl)) k1 bel lt1) (trodAll_cons_mk (Below.trod laidOut (by kernel_rfl) (of_decide_eq_true (by kernel_rfl)) k2 bel lt2) trodAll_mk0))), rfl, bel.frame _, fun h => by cases h⟩
theorem over : Rows.scriptTurnsRow.holds Try.pinned (OpenSpec.ofChange Rows.scriptTurnsSpec) :=
  OpenClaim.holds_of_wide 8 Try.f8 rfl rfl rfl rfl rfl rfl rfl ⟨rfl, rfl, rfl, rfl, rfl⟩ rfl rfl rfl rfl rfl (by kernel_rfl) Try.func8 (by kernel_rfl)
    (of_decide_eq_true (by kernel_rfl)) (by unfold Func.isWrapper; first | (rw [if_pos (by decide +kernel)]; kernel_rfl) | (rw [if_neg (by decide +kernel)]; exact ⟨rfl, rfl⟩))
    (fun os started H enc _ => lifted os started H enc)
end Go.Proofs.Ytcphmelmieedfaa.rowScriptTurns
namespace Go.Proofs.Ytcphmelmieedfaa
/-- The row, under a short name, for the claim. -/
theorem scriptTurns_holds : Rows.ScriptTurnsSaid := rowScriptTurns.over
#print axioms scriptTurns_holds
end Go.Proofs.Ytcphmelmieedfaa
