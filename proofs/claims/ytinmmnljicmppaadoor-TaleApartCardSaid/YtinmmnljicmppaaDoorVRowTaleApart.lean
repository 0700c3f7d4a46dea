import Derived.Test.YtinmmnljicmppaaDoorRows
import Derived.Test.YtinmmnljicmppaaDoorCards
import Derived.Test.YtinmmnljicmppaaDoorTie
import Derived.Test.YtinmmnljicmppaaDoorVOpens
import Derived.Test.YtinmmnljicmppaaDoorVTaleZ
import Derived.WalkKit
import Derived.ProofKit
import Derived.OpenShut
import Derived.ShutString
import Derived.ChangeOld
import Derived.Below
import Derived.SizedLaws
import Derived.LaidMore
import Derived.Lay
import Derived.Stop.Joined
import Derived.SevenTiedAt
/-
THE ROW OF THE STATEMENT TaleApart: whatever its arguments are, the law answers true and its arguments read as they did. No condition beyond the row's own.
-/
namespace Go.Proofs.YtinmmnljicmppaaDoor.rowTaleApart
open Go.ChangeShapes Go.WideShapes Go.ChangeAt Go.RowKit
open Go.ChangeMaps (open_string shut_string)
open Go.Proofs.YtinmmnljicmppaaDoorW.PrintWords Go.Proofs.YtinmmnljicmppaaDoor.Op Go.Proofs.YtinmmnljicmppaaDoor.PTaleApart
set_option linter.unusedVariables false
set_option linter.unusedSimpArgs false
theorem own : ownKnob Tryd.prog.godebug = none := by kernel_rfl
theorem laidOut : laidOutB Tryd.prog = true := by kernel_rfl
def G31 (x : S31) : Prop := (Lit.int .i64 x.f0).wf = true ∧ (Lit.int .i64 x.f1).wf = true ∧ (Lit.int .i64 x.f2).wf = true ∧ (Lit.int .i64 x.f3).wf = true ∧ (Lit.int .i64 x.f4).wf = true
theorem opens31 : Opens Tryd.prog 31 k31 G31 :=
 opens_iso (opens_struct Tryd.underlying31 (by kernel_rfl) (opensF_cons rfl (by kernel_rfl) (opens_int Tryd.underlying3) (opensF_cons rfl (by kernel_rfl) (opens_int Tryd.underlying3) (opensF_cons rfl (by kernel_rfl) (opens_int Tryd.underlying3) (opensF_cons rfl (by kernel_rfl) (opens_int Tryd.underlying3) (opensF_one rfl (by kernel_rfl) (opens_int Tryd.underlying3))))))) (fun x : S31 => (x.f0, x.f1, x.f2, x.f3, x.f4)) (fun p => ⟨p.1, p.2.1, p.2.2.1, p.2.2.2.1, p.2.2.2.2⟩) (fun _ => rfl)
def G33 (x : S33) : Prop := (Lit.int .i64 x.f0).wf = true ∧ (Lit.int .u64 x.f1).wf = true ∧ (Lit.int .u64 x.f2).wf = true ∧ (Lit.int .i64 x.f3).wf = true
theorem opens33 : Opens Tryd.prog 33 k33 G33 :=
 opens_iso (opens_struct Tryd.underlying33 (by kernel_rfl) (opensF_cons rfl (by kernel_rfl) (opens_int Tryd.underlying3) (opensF_cons rfl (by kernel_rfl) (opens_int Tryd.underlying23) (opensF_cons rfl (by kernel_rfl) (opens_int Tryd.underlying23) (opensF_one rfl (by kernel_rfl) (opens_int Tryd.underlying3)))))) (fun x : S33 => (x.f0, x.f1, x.f2, x.f3)) (fun p => ⟨p.1, p.2.1, p.2.2.1, p.2.2.2⟩) (fun _ => rfl)
theorem door_met (os : Os) (args : Array Value) : laidMetH Tryd.prog Rows.taleApartRow.laid ((World.laidAll Tryd.prog os Rows.taleApartRow.laid).forCall (fun _ _ => 0) ⟨#[], args, []⟩).memory := by
 rw [MakeChecks.laidMetH_plain _ _ _ (by kernel_rfl)]
 exact laidMet_laidAll args (by kernel_rfl) (by kernel_rfl)
set_option maxRecDepth 100000 in
theorem lifted (os : Os) (started : os.Started) (H : Type) (enc : TypeId × Value → H) :
  ReturnsInHanded {} Tryd.checked os 4 .any (fun w args => (Rows.taleApartSpec.pre enc Tryd.prog Tryd.f4 Rows.taleApartRow.domain false w args ∧ laidMetH Tryd.prog Rows.taleApartRow.laid w) ∧ sizedMet enc Tryd.prog Tryd.f4 (OpenSpec.ofChange Rows.taleApartSpec) false w args) (Rows.taleApartSpec.post enc Tryd.prog Tryd.f4 false true false false) := by
 refine wrap_shape (C := Tryd.checked) (X := fun w _ => laidMetH Tryd.prog Rows.taleApartRow.laid w) (fun _ _ _ hh h => h.of_heap hh) own started (by kernel_rfl) Tryd.func4
  (ChangeSpec.witness_shaped (enc := enc) (C := Tryd.checked) (os := os) (X := fun w _ => laidMetH Tryd.prog Rows.taleApartRow.laid w) false (World.laidAll Tryd.prog os Rows.taleApartRow.laid) #[.agg #[.int .i64 0, .int .i64 0, .int .i64 0, .int .i64 0, .int .i64 0], .agg #[.int .i64 0, .int .i64 0, .int .i64 0, .int .i64 0, .int .i64 0], .agg #[.int .i64 0, .int .u64 0, .int .u64 0, .int .i64 0], .agg #[.int .i64 0, .int .u64 0, .int .u64 0, .int .i64 0], .slice none 0 0, .slice none 0 0] 8 (World.laidAll_os _ _ _) (World.shaped_of_ZipB (by kernel_rfl) (by kernel_rfl)) (by kernel_rfl) (by kernel_rfl) (by kernel_rfl) (door_met os _)) ?_
 intro W base args ds gs before hval0 hW hcnd hsz0 hL hsh _
 have hsz : (DataW.weightsEach Tryd.prog (Tryd.f4.params.toList ++ Rows.taleApartSpec.plain.varTypes Tryd.prog) (ds ++ gs)).all (· ≤ reachBytes) = true := hsz0
 have hval : ∀ (j : Nat) t v, Tryd.f4.params[j]? = some t → args[j]? = some v → Value.okWide Tryd.prog W .any base t v := hval0
 have hW' := hW
 obtain ⟨p, q, hA0, hV, rfl, hfz, hnd⟩ := hW
 have hA : DataW.TrodAll enc Tryd.prog W 0 (fun _ => true) true Tryd.f4.params.toList args.toList ds p := hA0
 rw [Tryd.params4] at hA hval hsz
 obtain ⟨v0, vs0, d0, ds0, p0, q0, hargs, rfl, rfl, h0, r0⟩ := trodAll_cons hA
 obtain ⟨v1, vs1, d1, ds1, p1, q1, rfl, rfl, rfl, h1, r1⟩ := trodAll_cons r0
 obtain ⟨v2, vs2, d2, ds2, p2, q2, rfl, rfl, rfl, h2, r2⟩ := trodAll_cons r1
 obtain ⟨v3, vs3, d3, ds3, p3, q3, rfl, rfl, rfl, h3, r3⟩ := trodAll_cons r2
 obtain ⟨v4, vs4, d4, ds4, p4, q4, rfl, rfl, rfl, h4, r4⟩ := trodAll_cons r3
 obtain ⟨v5, vs5, d5, ds5, p5, q5, rfl, rfl, rfl, h5, r5⟩ := trodAll_cons r4
 obtain ⟨rfl, rfl, rfl⟩ := trodAll_nil r5
 obtain rfl : args = #[v0, v1, v2, v3, v4, v5] := by cases args; simp_all
 obtain ⟨rfl, rfl⟩ := trodVars_none hV
 have k0 := h0
 have lt0 : ∀ x ∈ p0, x.block < W.heap.size := by obtain ⟨m, hm⟩ := k0; exact DataW.trod_lt m _ _ _ hm
 obtain ⟨fu0, hf0⟩ := h0
 obtain ⟨x0, hx0, g0⟩ := opens31 H enc W fu0 _ _ _ hf0 (opens_at hsz (j := 0) rfl rfl)
 obtain ⟨cs0, rfl, _⟩ := okWide_struct Tryd.underlying31 (hval 0 31 v0 rfl rfl)
 obtain rfl : cs0 = #[.int .i64 x0.f0, .int .i64 x0.f1, .int .i64 x0.f2, .int .i64 x0.f3, .int .i64 x0.f4] := by
  have := k31_open hx0
  apply Array.ext'
  simpa [Value.cells] using this
 have k1 := h1
 have lt1 : ∀ x ∈ p1, x.block < W.heap.size := by obtain ⟨m, hm⟩ := k1; exact DataW.trod_lt m _ _ _ hm
 obtain ⟨fu1, hf1⟩ := h1
 obtain ⟨x1, hx1, g1⟩ := opens31 H enc W fu1 _ _ _ hf1 (opens_at hsz (j := 1) rfl rfl)
 obtain ⟨cs1, rfl, _⟩ := okWide_struct Tryd.underlying31 (hval 1 31 v1 rfl rfl)
 obtain rfl : cs1 = #[.int .i64 x1.f0, .int .i64 x1.f1, .int .i64 x1.f2, .int .i64 x1.f3, .int .i64 x1.f4] := by
  have := k31_open hx1
  apply Array.ext'
  simpa [Value.cells] using this
 have k2 := h2
 have lt2 : ∀ x ∈ p2, x.block < W.heap.size := by obtain ⟨m, hm⟩ := k2; exact DataW.trod_lt m _ _ _ hm
 obtain ⟨fu2, hf2⟩ := h2
 obtain ⟨x2, hx2, g2⟩ := opens33 H enc W fu2 _ _ _ hf2 (opens_at hsz (j := 2) rfl rfl)
 obtain ⟨cs2, rfl, _⟩ := okWide_struct Tryd.underlying33 (hval 2 33 v2 rfl rfl)
 obtain rfl : cs2 = #[.int .i64 x2.f0, .int .u64 x2.f1, .int .u64 x2.f2, .int .i64 x2.f3] := by
  have := k33_open hx2
  apply Array.ext'
  simpa [Value.cells] using this
 have k3 := h3
 have lt3 : ∀ x ∈ p3, x.block < W.heap.size := by obtain ⟨m, hm⟩ := k3; exact DataW.trod_lt m _ _ _ hm
 obtain ⟨fu3, hf3⟩ := h3
 obtain ⟨x3, hx3, g3⟩ := opens33 H enc W fu3 _ _ _ hf3 (opens_at hsz (j := 3) rfl rfl)
 obtain ⟨cs3, rfl, _⟩ := okWide_struct Tryd.underlying33 (hval 3 33 v3 rfl rfl)
 obtain rfl : cs3 = #[.int .i64 x3.f0, .int .u64 x3.f1, .int .u64 x3.f2, .int .i64 x3.f3] := by
  have := k33_open hx3
  apply Array.ext'
  simpa [Value.cells] using this
 have k4 := h4
 have lt4 : ∀ x ∈ p4, x.block < W.heap.size := by obtain ⟨m, hm⟩ := k4; exact DataW.trod_lt m _ _ _ hm
 obtain ⟨fu4, hf4⟩ := h4
 obtain ⟨x4, hx4, g4⟩ := (opens_slice (B := 8) Tryd.underlying34 (by kernel_rfl) (by kernel_rfl) (opens_int Tryd.underlying3)) H enc W fu4 _ _ _ hf4 (opens_at hsz (j := 4) rfl rfl)
 obtain ⟨A4, len4, c4, rfl⟩ := okWide_slice Tryd.underlying34 (hval 4 34 v4 rfl rfl)
 obtain ⟨A4', c4', e4, hc4, hr4⟩ := hx4
 simp only [Value.cells] at e4
 obtain ⟨rfl, rfl, rfl⟩ : A4 = A4' ∧ len4 = x4.length ∧ c4 = c4' := by simpa using e4
 have k5 := h5
 have lt5 : ∀ x ∈ p5, x.block < W.heap.size := by obtain ⟨m, hm⟩ := k5; exact DataW.trod_lt m _ _ _ hm
 obtain ⟨fu5, hf5⟩ := h5
 obtain ⟨x5, hx5, g5⟩ := (opens_slice (B := 8) Tryd.underlying34 (by kernel_rfl) (by kernel_rfl) (opens_int Tryd.underlying3)) H enc W fu5 _ _ _ hf5 (opens_at hsz (j := 5) rfl rfl)
 obtain ⟨A5, len5, c5, rfl⟩ := okWide_slice Tryd.underlying34 (hval 5 34 v5 rfl rfl)
 obtain ⟨A5', c5', e5, hc5, hr5⟩ := hx5
 simp only [Value.cells] at e5
 obtain ⟨rfl, rfl, rfl⟩ : A5 = A5' ∧ len5 = x5.length ∧ c5 = c5' := by simpa using e5
 clear hA0 hval0 hsz0 hsz
 have hk := apart_law x0.f0 x0.f1 x0.f2 x0.f3 x0.f4 x1.f0 x1.f1 x1.f2 x1.f3 x1.f4 x2.f0 x2.f1 x2.f2 x2.f3 x3.f0 x3.f1 x3.f2 x3.f3 x4 x5 g0 g1 g2 g3 g4 g5
 refine (apart_calls (w := W) (r := true) (hr4 := hr4) (hc4 := hc4) (hr5 := hr5) (hc5 := hc5) (ht := apart_wt hL hsh) (h := hk)).mono fun e W' ⟨he, bel⟩ => ?_
 subst he
 exact ⟨_, rfl, _, _, _, [], _, [], hW', trodAll_mk1 (shut_bool Tryd.underlying4 _), (trodAll_cons_mk (Below.trod laidOut (by kernel_rfl) (of_decide_eq_true (by kernel_rfl)) k0 bel lt0) (trodAll_cons_mk (Below.trod laidOut (by kernel_rfl) (of_decide_eq_true (by kernel_rfl)) k1 bel lt1) (trodAll_cons_mk (Below.trod laidOut (by kernel_rfl) (of_decide_eq_true (by kernel_rfl)) k2 bel lt2) (trodAll_cons_mk (Below.trod laidOut (by kernel_rfl) (of_decide_eq_true (by kernel_rfl)) k3 bel lt3) (trodAll_cons_mk (Below.trod laidOut (by kernel_rfl) (of_decide_eq_true (by kernel_rfl)) k4 bel lt4) (trodAll_cons_mk (Below.trod laidOut (by kernel_rfl) (of_decide_eq_true (by kernel_rfl)) k5 bel lt5) trodAll_mk0)))))), rfl, bel.frame _, fun h => by cases h⟩
theorem over : Rows.taleApartRow.holds Tryd.pinned (OpenSpec.ofChange Rows.taleApartSpec) :=
 OpenClaim.holds_of_wide 4 Tryd.f4 rfl rfl rfl rfl rfl rfl rfl ⟨rfl, rfl, rfl, rfl, rfl⟩ rfl rfl rfl rfl rfl (by kernel_rfl) Tryd.func4 (by kernel_rfl)
  (of_decide_eq_true (by kernel_rfl)) (by unfold Func.isWrapper; first | (rw [if_pos (by decide +kernel)]; kernel_rfl) | (rw [if_neg (by decide +kernel)]; exact ⟨rfl, rfl⟩))
  (fun os started H enc _ => lifted os started H enc)
end Go.Proofs.YtinmmnljicmppaaDoor.rowTaleApart
namespace Go.Proofs.YtinmmnljicmppaaDoor
theorem taleApart_holds : Rows.TaleApartSaid := rowTaleApart.over
#print axioms taleApart_holds
end Go.Proofs.YtinmmnljicmppaaDoor
namespace Go.Proofs.YtinmmnljicmppaaDoor
open Go
theorem taleApartCard_holds : Rows.TaleApartCardSaid :=
 Claim7.holds_tied_plain_at .later [] [.data, .data, .data, .data, .sentinel, .sentinel, .pinned] true (true, "647acb670b4818140d16c449fd34cacc85cb61512d04fc82fe2f10442c846f1d") true
  taleApart_holds (fun _ h => by cases h) (by kernel_rfl) (fun _ h => by cases h) taleApart_row_tie rfl ⟨rfl, rfl⟩ (by kernel_rfl) rfl
  (fun f fn hf hfn => by
   obtain rfl : f = 4 := Option.some.inj ((show Tryd.prog.funcNamed "revenant/revenantlaw32.TaleApart" = some 4 by kernel_rfl).symm.trans hf) |>.symm
   obtain rfl : fn = Tryd.f4 := (Option.some.inj (Tryd.func4.symm.trans hfn)).symm
   exact ⟨by kernel_rfl, fun j t ht => by
    rw [Tryd.params4] at ht
    have hm := Array.mem_of_getElem? ht
    simp only [List.mem_toArray, List.mem_cons, List.not_mem_nil, or_false] at hm
    rcases hm with rfl | rfl | rfl | rfl | rfl | rfl
    ·exact (show Tryd.prog.wantsStandIn 31 = false by kernel_rfl)
    ·exact (show Tryd.prog.wantsStandIn 31 = false by kernel_rfl)
    ·exact (show Tryd.prog.wantsStandIn 33 = false by kernel_rfl)
    ·exact (show Tryd.prog.wantsStandIn 33 = false by kernel_rfl)
    ·exact (show Tryd.prog.wantsStandIn 34 = false by kernel_rfl)
    ·exact (show Tryd.prog.wantsStandIn 34 = false by kernel_rfl)⟩)
  (by kernel_rfl)
#print axioms taleApartCard_holds
end Go.Proofs.YtinmmnljicmppaaDoor
