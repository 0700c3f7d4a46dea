import Derived.Test.YtinmmnljicmppaaDoorRows
import Derived.Test.YtinmmnljicmppaaDoorCards
import Derived.Test.YtinmmnljicmppaaDoorTie
import Derived.Test.YtinmmnljicmppaaDoorUOpens
import Derived.Test.YtinmmnljicmppaaDoorUTaleY
import Derived.WalkKit
import Derived.ProofKit
import Derived.OpenShut
import Derived.ShutString
import Derived.ChangeOld
import Derived.Below
import Derived.SizedLaws
import Derived.LaidMore
import Derived.Lay
import Derived.Stop.Joined
import Derived.SevenTiedAt
/-
THE ROW OF THE STATEMENT TaleTells: whatever its arguments are, the law answers true and its arguments read as they did. No condition beyond the row's own.
-/
namespace Go.Proofs.YtinmmnljicmppaaDoor.rowTaleTells
open Go.ChangeShapes Go.WideShapes Go.ChangeAt Go.RowKit
open Go.ChangeMaps (open_string shut_string)
open Go.Proofs.YtinmmnljicmppaaDoorW.PrintWords Go.Proofs.YtinmmnljicmppaaDoor.Op Go.Proofs.YtinmmnljicmppaaDoor.PTaleApart
set_option linter.unusedVariables false
set_option linter.unusedSimpArgs false
theorem own : ownKnob Tryd.prog.godebug = none := by kernel_rfl
theorem laidOut : laidOutB Tryd.prog = true := by kernel_rfl
structure S25 where
  f0 : Int
  f1 : Bool
  f2 : Int
def k25 : Kd S25 := Kd.iso (Kd.pair (Kd.int .i64) (Kd.pair (Kd.bool) (Kd.int .u64))) (fun x : S25 => (x.f0, x.f1, x.f2))
theorem k25_open {w : World} {x : S25} {cs : List Value} (h : k25.K w x cs) : cs = [.int .i64 x.f0, .bool x.f1, .int .u64 x.f2] := by
  obtain ⟨_, _, rfl, rfl, ⟨_, _, rfl, rfl, rfl⟩⟩ := h
  rfl
def G25 (x : S25) : Prop := (Lit.int .i64 x.f0).wf = true ∧ True ∧ (Lit.int .u64 x.f2).wf = true
theorem opens25 : Opens Tryd.prog 25 k25 G25 :=
  opens_iso (opens_struct Tryd.underlying25 (by kernel_rfl) (opensF_cons rfl (by kernel_rfl) (opens_int Tryd.underlying22) (opensF_cons rfl (by kernel_rfl) (opens_bool Tryd.underlying4) (opensF_one rfl (by kernel_rfl) (opens_int Tryd.underlying23))))) (fun x : S25 => (x.f0, x.f1, x.f2)) (fun p => ⟨p.1, p.2.1, p.2.2⟩) (fun _ => rfl)
theorem door_met (os : Os) (args : Array Value) : laidMetH Tryd.prog Rows.taleTellsRow.laid ((World.laidAll Tryd.prog os Rows.taleTellsRow.laid).forCall (fun _ _ => 0) ⟨#[], args, []⟩).memory := by
  rw [MakeChecks.laidMetH_plain _ _ _ (by kernel_rfl)]
  exact laidMet_laidAll args (by kernel_rfl) (by kernel_rfl)
set_option maxRecDepth 100000 in
theorem lifted (os : Os) (started : os.Started) (H : Type) (enc : TypeId × Value → H) :
    ReturnsInHanded {} Tryd.checked os 3 .any (fun w args => (Rows.taleTellsSpec.pre enc Tryd.prog Tryd.f3 Rows.taleTellsRow.domain false w args ∧ laidMetH Tryd.prog Rows.taleTellsRow.laid w) ∧ sizedMet enc Tryd.prog Tryd.f3 (OpenSpec.ofChange Rows.taleTellsSpec) false w args) (Rows.taleTellsSpec.post enc Tryd.prog Tryd.f3 false true false false) := by
  refine wrap_shape (C := Tryd.checked) (X := fun w _ => laidMetH Tryd.prog Rows.taleTellsRow.laid w) (fun _ _ _ hh h => h.of_heap hh) own started (by kernel_rfl) Tryd.func3
    (ChangeSpec.witness_shaped (enc := enc) (C := Tryd.checked) (os := os) (X := fun w _ => laidMetH Tryd.prog Rows.taleTellsRow.laid w) false (World.laidAll Tryd.prog os Rows.taleTellsRow.laid) #[.agg #[.int .i64 0, .bool false, .int .u64 0]] 8 (World.laidAll_os _ _ _) (World.shaped_of_ZipB (by kernel_rfl) (by kernel_rfl)) (by kernel_rfl) (by kernel_rfl) (by kernel_rfl) (door_met os _)) ?_
  intro W base args ds gs before hval0 hW hcnd hsz0 hL hsh _
  have hsz : (DataW.weightsEach Tryd.prog (Tryd.f3.params.toList ++ Rows.taleTellsSpec.plain.varTypes Tryd.prog) (ds ++ gs)).all (· ≤ reachBytes) = true := hsz0
  have hval : ∀ (j : Nat) t v, Tryd.f3.params[j]? = some t → args[j]? = some v → Value.okWide Tryd.prog W .any base t v := hval0
  have hW' := hW
  obtain ⟨p, q, hA0, hV, rfl, hfz, hnd⟩ := hW
  have hA : DataW.TrodAll enc Tryd.prog W 0 (fun _ => true) true Tryd.f3.params.toList args.toList ds p := hA0
  rw [Tryd.params3] at hA hval hsz
  obtain ⟨v0, vs0, d0, ds0, p0, q0, hargs, rfl, rfl, h0, r0⟩ := trodAll_cons hA
  obtain ⟨rfl, rfl, rfl⟩ := trodAll_nil r0
  obtain rfl : args = #[v0] := by cases args; simp_all
  obtain ⟨rfl, rfl⟩ := trodVars_none hV
  have k0 := h0
  have lt0 : ∀ x ∈ p0, x.block < W.heap.size := by obtain ⟨m, hm⟩ := k0; exact DataW.trod_lt m _ _ _ hm
  obtain ⟨fu0, hf0⟩ := h0
  obtain ⟨x0, hx0, g0⟩ := opens25 H enc W fu0 _ _ _ hf0 (opens_at hsz (j := 0) rfl rfl)
  obtain ⟨cs0, rfl, _⟩ := okWide_struct Tryd.underlying25 (hval 0 25 v0 rfl rfl)
  obtain rfl : cs0 = #[.int .i64 x0.f0, .bool x0.f1, .int .u64 x0.f2] := by
    have := k25_open hx0
    apply Array.ext'
    simpa [Value.cells] using this
  clear hA0 hval0 hsz0 hsz
  have hk := tells_law x0.f0 x0.f1 x0.f2 g0
  refine (tells_calls (w := W) (r := true) (ht := tells_wt hL hsh) (h := hk)).mono fun e W' ⟨he, bel⟩ => ?_
  subst he
  exact ⟨_, rfl, _, _, _, [], _, [], hW', trodAll_mk1 (shut_bool Tryd.underlying4 _), (trodAll_cons_mk (Below.trod laidOut (by kernel_rfl) (of_decide_eq_true (by kernel_rfl)) k0 bel lt0) trodAll_mk0), rfl, bel.frame _, fun h => by cases h⟩
theorem over : Rows.taleTellsRow.holds Tryd.pinned (OpenSpec.ofChange Rows.taleTellsSpec) :=
  OpenClaim.holds_of_wide 3 Tryd.f3 rfl rfl rfl rfl rfl rfl rfl ⟨rfl, rfl, rfl, rfl, rfl⟩ rfl rfl rfl rfl rfl (by kernel_rfl) Tryd.func3 (by kernel_rfl)
    (of_decide_eq_true (by kernel_rfl)) (by unfold Func.isWrapper; first | (rw [if_pos (by decide +kernel)]; kernel_rfl) | (rw [if_neg (by decide +kernel)]; exact ⟨rfl, rfl⟩))
    (fun os started H enc _ => lifted os started H enc)
end Go.Proofs.YtinmmnljicmppaaDoor.rowTaleTells
namespace Go.Proofs.YtinmmnljicmppaaDoor
theorem taleTells_holds : Rows.TaleTellsSaid := rowTaleTells.over
#print axioms taleTells_holds
end Go.Proofs.YtinmmnljicmppaaDoor
namespace Go.Proofs.YtinmmnljicmppaaDoor
open Go
theorem taleTellsCard_holds : Rows.TaleTellsCardSaid :=
  Claim7.holds_tied_plain_at .later [] [.data, .data, .data, .data, .sentinel, .sentinel, .pinned] true (true, "647acb670b4818140d16c449fd34cacc85cb61512d04fc82fe2f10442c846f1d") true
    taleTells_holds (fun _ h => by cases h) (by kernel_rfl) (fun _ h => by cases h) taleTells_row_tie rfl ⟨rfl, rfl⟩ (by kernel_rfl) rfl
    (fun f fn hf hfn => by
      obtain rfl : f = 3 := Option.some.inj ((show Tryd.prog.funcNamed "revenant/revenantlaw32.TaleTells" = some 3 by kernel_rfl).symm.trans hf) |>.symm
      obtain rfl : fn = Tryd.f3 := (Option.some.inj (Tryd.func3.symm.trans hfn)).symm
      exact ⟨by kernel_rfl, fun j t ht => by
        rw [Tryd.params3] at ht
        have hm := Array.mem_of_getElem? ht
        simp only [List.mem_toArray, List.mem_cons, List.not_mem_nil, or_false] at hm
        rcases hm with rfl
        exact (show Tryd.prog.wantsStandIn 25 = false by kernel_rfl)⟩)
    (by kernel_rfl)
#print axioms taleTellsCard_holds
end Go.Proofs.YtinmmnljicmppaaDoor
