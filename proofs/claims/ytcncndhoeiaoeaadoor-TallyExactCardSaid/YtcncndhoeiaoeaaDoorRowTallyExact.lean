/-
THE ROW OF THE STATEMENT TallyExact: whatever its arguments are, the law answers true and its arguments read as they did. No condition beyond the row's own.
-/
import Derived.Test.YtcncndhoeiaoeaaDoorRows
import Derived.Test.YtcncndhoeiaoeaaDoorCards
import Derived.Test.YtcncndhoeiaoeaaDoorTie
import Derived.Test.YtcncndhoeiaoeaaDoorOpens
import Derived.Test.YtcncndhoeiaoeaaDoorTalU
import Derived.WalkKit
import Derived.ProofKit
import Derived.OpenShut
import Derived.ShutString
import Derived.ChangeOld
import Derived.Below
import Derived.SizedLaws
import Derived.LaidMore
import Derived.Stop.Joined
import Derived.SevenTiedAt
namespace Go.Proofs.YtcncndhoeiaoeaaDoor.rowTallyExact
open Go.ChangeShapes Go.WideShapes Go.ChangeAt Go.RowKit
open Go.ChangeMaps (open_string shut_string)
open Go.Proofs.YtcncndhoeiaoeaaDoorW.PrintWords Go.Proofs.YtcncndhoeiaoeaaDoor.Op Go.Proofs.YtcncndhoeiaoeaaDoor.PTallyExact
set_option linter.unusedVariables false
set_option linter.unusedSimpArgs false
theorem own : ownKnob Tryd.prog.godebug = none := by kernel_rfl
theorem laidOut : laidOutB Tryd.prog = true := by kernel_rfl
def G73 (x : S73) : Prop := (Lit.int .i64 x.f0).wf = true ∧ (Lit.int .u64 x.f1).wf = true ∧ (Lit.int .u64 x.f2).wf = true ∧ (Lit.int .i64 x.f3).wf = true
theorem opens73 : Opens Tryd.prog 73 k73 G73 :=
  opens_iso (opens_struct Tryd.underlying73 (by kernel_rfl) (opensF_cons rfl (by kernel_rfl) (opens_int Tryd.underlying3) (opensF_cons rfl (by kernel_rfl) (opens_int Tryd.underlying71) (opensF_cons rfl (by kernel_rfl) (opens_int Tryd.underlying71) (opensF_one rfl (by kernel_rfl) (opens_int Tryd.underlying3)))))) (fun x : S73 => (x.f0, x.f1, x.f2, x.f3)) (fun p => ⟨p.1, p.2.1, p.2.2.1, p.2.2.2⟩) (fun _ => rfl)
def G76 (x : S76) : Prop := (Lit.int .i64 x.f0).wf = true ∧ True ∧ (Lit.int .u64 x.f2).wf = true
theorem opens76 : Opens Tryd.prog 76 k76 G76 :=
  opens_iso (opens_struct Tryd.underlying76 (by kernel_rfl) (opensF_cons rfl (by kernel_rfl) (opens_int Tryd.underlying74) (opensF_cons rfl (by kernel_rfl) (opens_bool Tryd.underlying4) (opensF_one rfl (by kernel_rfl) (opens_int Tryd.underlying71))))) (fun x : S76 => (x.f0, x.f1, x.f2)) (fun p => ⟨p.1, p.2.1, p.2.2⟩) (fun _ => rfl)
def G78 (x : S78) : Prop := (Lit.int .i64 x.f0).wf = true ∧ (Lit.int .i64 x.f1).wf = true ∧ True ∧ G73 x.f3 ∧ (Lit.int .i64 x.f4).wf = true ∧ True ∧ True ∧ G76 x.f7
theorem opens78 : Opens Tryd.prog 78 k78 G78 :=
  opens_iso (opens_struct Tryd.underlying78 (by kernel_rfl) (opensF_cons rfl (by kernel_rfl) (opens_int Tryd.underlying3) (opensF_cons rfl (by kernel_rfl) (opens_int Tryd.underlying3) (opensF_cons rfl (by kernel_rfl) (opens_bool Tryd.underlying4) (opensF_cons rfl (by kernel_rfl) opens73 (opensF_cons rfl (by kernel_rfl) (opens_int Tryd.underlying3) (opensF_cons rfl (by kernel_rfl) (opens_bool Tryd.underlying4) (opensF_cons rfl (by kernel_rfl) (opens_bool Tryd.underlying4) (opensF_one rfl (by kernel_rfl) opens76))))))))) (fun x : S78 => (x.f0, x.f1, x.f2, x.f3, x.f4, x.f5, x.f6, x.f7)) (fun p => ⟨p.1, p.2.1, p.2.2.1, p.2.2.2.1, p.2.2.2.2.1, p.2.2.2.2.2.1, p.2.2.2.2.2.2.1, p.2.2.2.2.2.2.2⟩) (fun _ => rfl)
theorem door_met (os : Os) (args : Array Value) : laidMetH Tryd.prog Rows.tallyExactRow.laid ((World.doorLaid Tryd.prog 24 os).forCall (fun _ _ => 0) ⟨#[], args, []⟩).memory :=
  laidMetH_of_parts3 (fuel := 8) (laidMet_of_run' 8 (by kernel_rfl) (by kernel_rfl)) (by kernel_rfl) (by kernel_rfl)
set_option maxRecDepth 100000 in
theorem lifted (os : Os) (started : os.Started) (H : Type) (enc : TypeId × Value → H) :
    ReturnsInHanded {} Tryd.checked os 7 .any (fun w args => (Rows.tallyExactSpec.pre enc Tryd.prog Tryd.f7 Rows.tallyExactRow.domain false w args ∧ laidMetH Tryd.prog Rows.tallyExactRow.laid w) ∧ sizedMet enc Tryd.prog Tryd.f7 (OpenSpec.ofChange Rows.tallyExactSpec) false w args) (Rows.tallyExactSpec.post enc Tryd.prog Tryd.f7 false true false false) := by
  refine returnsInHanded_of_change_and (C := Tryd.checked) (X := fun w _ => laidMetH Tryd.prog Rows.tallyExactRow.laid w) (fun _ _ _ hh h => h.of_heap hh) own started (by kernel_rfl) Tryd.func7
    (ChangeSpec.witness_shaped (enc := enc) (C := Tryd.checked) (os := os) (X := fun w _ => laidMetH Tryd.prog Rows.tallyExactRow.laid w) false (World.doorLaid Tryd.prog 24 os) #[.slice none 0 0] 8 rfl (World.shaped_of_RefB (by kernel_rfl) (by kernel_rfl)) (by kernel_rfl) (by kernel_rfl) (by kernel_rfl) (door_met os _)) ?_
  intro W base args ds gs before hval0 hW hcnd hsz0 hL _
  have hsz : (DataW.weightsEach Tryd.prog (Tryd.f7.params.toList ++ Rows.tallyExactSpec.plain.varTypes Tryd.prog) (ds ++ gs)).all (· ≤ reachBytes) = true := hsz0
  have hval : ∀ (j : Nat) t v, Tryd.f7.params[j]? = some t → args[j]? = some v → Value.okWide Tryd.prog W .any base t v := hval0
  have hW' := hW
  obtain ⟨p, q, hA0, hV, rfl, hfz, hnd⟩ := hW
  have hA : DataW.TrodAll enc Tryd.prog W 0 (fun _ => true) true Tryd.f7.params.toList args.toList ds p := hA0
  rw [Tryd.params7] at hA hval hsz
  obtain ⟨v0, vs0, d0, ds0, p0, q0, hargs, rfl, rfl, h0, r0⟩ := trodAll_cons hA
  obtain ⟨rfl, rfl, rfl⟩ := trodAll_nil r0
  obtain rfl : args = #[v0] := by cases args; simp_all
  obtain ⟨rfl, rfl⟩ := trodVars_none hV
  have k0 := h0
  have lt0 : ∀ x ∈ p0, x.block < W.heap.size := by obtain ⟨m, hm⟩ := k0; exact DataW.trod_lt m _ _ _ hm
  obtain ⟨fu0, hf0⟩ := h0
  obtain ⟨x0, hx0, g0⟩ := (opens_slice (B := 96) Tryd.underlying46 (by kernel_rfl) (by kernel_rfl) opens78) H enc W fu0 _ _ _ hf0 (opens_at hsz (j := 0) rfl rfl)
  obtain ⟨A0, len0, c0, rfl⟩ := okWide_slice Tryd.underlying46 (hval 0 46 v0 rfl rfl)
  obtain ⟨A0', c0', e0, hc0, hr0⟩ := hx0
  simp only [Value.cells] at e0
  obtain ⟨rfl, rfl, rfl⟩ : A0 = A0' ∧ len0 = x0.length ∧ c0 = c0' := by simpa using e0
  clear hA0 hval0 hsz0 hsz
  have hk := tallyExact_pure x0 g0
  refine (tallyExact_calls (w := W) (r := true) (hr0 := hr0) (hc0 := hc0) (ht := tabOf hL) (h := hk)).mono fun e W' ⟨he, bel⟩ => ?_
  subst he
  exact ⟨_, rfl, _, _, _, [], _, [], hW', trodAll_mk1 (shut_bool Tryd.underlying4 _), (trodAll_cons_mk (Below.trod laidOut (by kernel_rfl) (of_decide_eq_true (by kernel_rfl)) k0 bel lt0) trodAll_mk0), rfl, bel.frame _, fun h => by cases h⟩
theorem over : Rows.tallyExactRow.holds Tryd.pinned (OpenSpec.ofChange Rows.tallyExactSpec) :=
  OpenClaim.holds_of_wide 7 Tryd.f7 rfl rfl rfl rfl rfl rfl rfl ⟨rfl, rfl, rfl, rfl, rfl⟩ rfl rfl rfl rfl rfl (by kernel_rfl) Tryd.func7 (by kernel_rfl)
    (of_decide_eq_true (by kernel_rfl)) (by unfold Func.isWrapper; first | (rw [if_pos (by decide +kernel)]; kernel_rfl) | (rw [if_neg (by decide +kernel)]; exact ⟨rfl, rfl⟩))
    (fun os started H enc _ => lifted os started H enc)
end Go.Proofs.YtcncndhoeiaoeaaDoor.rowTallyExact
namespace Go.Proofs.YtcncndhoeiaoeaaDoor
/-- The row, under a short name, for the claim. -/
theorem tallyExact_holds : Rows.TallyExactSaid := rowTallyExact.over
#print axioms tallyExact_holds
end Go.Proofs.YtcncndhoeiaoeaaDoor
namespace Go.Proofs.YtcncndhoeiaoeaaDoor
open Go
/-- The card: the row, what it lists tied to the program's text. -/
theorem tallyExactCard_holds : Rows.TallyExactCardSaid :=
  Claim7.holds_tied_plain_at .later [] [.data, .data, .data] true (true, "8f843bdbcbc78b8742d9b97ecfd2cd8f3bc15d9dc17ee0497f98512325980756") false
    tallyExact_holds (fun _ h => by cases h) (by kernel_rfl) (fun _ h => by cases h) tallyExact_row_tie rfl ⟨rfl, rfl⟩ (by kernel_rfl) rfl
    (fun f fn hf hfn => by
      obtain rfl : f = 7 := Option.some.inj ((show Tryd.prog.funcNamed "revenant/revenantlaw35.TallyExact" = some 7 by kernel_rfl).symm.trans hf) |>.symm
      obtain rfl : fn = Tryd.f7 := (Option.some.inj (Tryd.func7.symm.trans hfn)).symm
      exact ⟨by kernel_rfl, fun j t ht => by
        rw [Tryd.params7] at ht
        have hm := Array.mem_of_getElem? ht
        simp only [List.mem_toArray, List.mem_cons, List.not_mem_nil, or_false] at hm
        rcases hm with rfl
        exact (show Tryd.prog.wantsStandIn 46 = false by kernel_rfl)⟩)
    (by kernel_rfl)
#print axioms tallyExactCard_holds
end Go.Proofs.YtcncndhoeiaoeaaDoor
