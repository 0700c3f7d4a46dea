/-
  No cell of these rows narrows 'for every input' (looked for: loops, veiled, ifaces, maps, wideKeys, modest, calm, conditions, laid).
  DERIVED. THE GIVEN ROWS OF THIS SEAT. 5 by the template 'for every input the law returns true; each argument reads behind the call as it read before'; 0 by the template 'total and deterministic' (their statements: YtcphmelmieedfabTotals.lean).
  GIVEN WITH THE SEED: the statements are not yours to turn. If you find one false, say at which input.
  Laid BY PROGRAM, IN A SANDBOX (cutbox-rows.mjs): the forced cells as the released guide's own fill.sh prints them over the translation 26e09c671c3c235d… (all of the seat's roots in one cut). By AI agents, Wed Nov 11 2026. No macro, syntax, notation, axiom, sorry.
-/
import Derived.Test.YtcphmelmieedfabChecked
import GoSem.Claim
import GoSem.ClaimJoined
import GoSem.ClaimMapViews
import Derived.JoinedTies
import Derived.KernelRfl
namespace Go.Proofs.Ytcphmelmieedfab
/- THE CELL 'sum', in the pinned program and in every row, IS THE sha256 OF THE DUMP (.gsa) THAT YtcphmelmieedfabProg.lean LOADS. Nothing in Lean hashes anything: it is a label: what it is worth is what the hold of that sum in a sandbox is worth. -/
noncomputable def Try.pinned : Pinned := { name := "ytcphmelmieedfab", sum := "26e09c671c3c235d1b8bacb6c04f2f5e34fee8803e26a904ae6d5d95eccaa407", checked := Try.checked }
namespace Rows
def none {H : Type} : Left H := { results := [], args := [] }

/-- 'revenantlaw21.SpecExact': WHATEVER THE INPUT: true; the input reads as it did. -/
def specExactSpec : ChangeSpec := { name := "specExact", fn := fun _ => fun
  | [d1, d2] => { results := [.lit (.bool true)], args := [d1, d2] }
  | _ => none }
def specExactRow : OpenClaim := { program := "ytcphmelmieedfab", sum := "26e09c671c3c235d1b8bacb6c04f2f5e34fee8803e26a904ae6d5d95eccaa407", func := "revenant/revenantlaw21.SpecExact", spec := "specExact", plainKeys := false, apart := false }
def SpecExactSaid : Prop := specExactRow.holds Try.pinned (OpenSpec.ofChange specExactSpec)

/-- ITS FALSE NEIGHBOUR: 'it returns false'. Refute it at one input. -/
def specExactWrong : ChangeSpec := { name := "specExact", fn := fun _ => fun
  | [d1, d2] => { results := [.lit (.bool false)], args := [d1, d2] }
  | _ => none }
def SpecExactWrongFalsely : Prop := specExactRow.holds Try.pinned (OpenSpec.ofChange specExactWrong)

/-- 'revenantlaw21.SpecApart': WHATEVER THE INPUT: true; the input reads as it did. -/
def specApartSpec : ChangeSpec := { name := "specApart", fn := fun _ => fun
  | [d1, d2, d3] => { results := [.lit (.bool true)], args := [d1, d2, d3] }
  | _ => none }
def specApartRow : OpenClaim := { program := "ytcphmelmieedfab", sum := "26e09c671c3c235d1b8bacb6c04f2f5e34fee8803e26a904ae6d5d95eccaa407", func := "revenant/revenantlaw21.SpecApart", spec := "specApart", plainKeys := false, apart := false }
def SpecApartSaid : Prop := specApartRow.holds Try.pinned (OpenSpec.ofChange specApartSpec)

/-- ITS FALSE NEIGHBOUR: 'it returns false'. Refute it at one input. -/
def specApartWrong : ChangeSpec := { name := "specApart", fn := fun _ => fun
  | [d1, d2, d3] => { results := [.lit (.bool false)], args := [d1, d2, d3] }
  | _ => none }
def SpecApartWrongFalsely : Prop := specApartRow.holds Try.pinned (OpenSpec.ofChange specApartWrong)

/-- 'revenantlaw21.SpecValues': WHATEVER THE INPUT: true; the input reads as it did. -/
def specValuesSpec : ChangeSpec := { name := "specValues", fn := fun _ => fun
  | [d1, d2, d3] => { results := [.lit (.bool true)], args := [d1, d2, d3] }
  | _ => none }
def specValuesRow : OpenClaim := { program := "ytcphmelmieedfab", sum := "26e09c671c3c235d1b8bacb6c04f2f5e34fee8803e26a904ae6d5d95eccaa407", func := "revenant/revenantlaw21.SpecValues", spec := "specValues", plainKeys := false, apart := false }
def SpecValuesSaid : Prop := specValuesRow.holds Try.pinned (OpenSpec.ofChange specValuesSpec)

/-- ITS FALSE NEIGHBOUR: 'it returns false'. Refute it at one input. -/
def specValuesWrong : ChangeSpec := { name := "specValues", fn := fun _ => fun
  | [d1, d2, d3] => { results := [.lit (.bool false)], args := [d1, d2, d3] }
  | _ => none }
def SpecValuesWrongFalsely : Prop := specValuesRow.holds Try.pinned (OpenSpec.ofChange specValuesWrong)

/-- 'revenantlaw21.SpecMay': WHATEVER THE INPUT: true; the input reads as it did. -/
def specMaySpec : ChangeSpec := { name := "specMay", fn := fun _ => fun
  | [d1, d2, d3] => { results := [.lit (.bool true)], args := [d1, d2, d3] }
  | _ => none }
def specMayRow : OpenClaim := { program := "ytcphmelmieedfab", sum := "26e09c671c3c235d1b8bacb6c04f2f5e34fee8803e26a904ae6d5d95eccaa407", func := "revenant/revenantlaw21.SpecMay", spec := "specMay", plainKeys := false, apart := false }
def SpecMaySaid : Prop := specMayRow.holds Try.pinned (OpenSpec.ofChange specMaySpec)

/-- ITS FALSE NEIGHBOUR: 'it returns false'. Refute it at one input. -/
def specMayWrong : ChangeSpec := { name := "specMay", fn := fun _ => fun
  | [d1, d2, d3] => { results := [.lit (.bool false)], args := [d1, d2, d3] }
  | _ => none }
def SpecMayWrongFalsely : Prop := specMayRow.holds Try.pinned (OpenSpec.ofChange specMayWrong)

/-- 'revenantlaw21.SpecPairs': WHATEVER THE INPUT: true; the input reads as it did. -/
def specPairsSpec : ChangeSpec := { name := "specPairs", fn := fun _ => fun
  | [d1, d2] => { results := [.lit (.bool true)], args := [d1, d2] }
  | _ => none }
def specPairsRow : OpenClaim := { program := "ytcphmelmieedfab", sum := "26e09c671c3c235d1b8bacb6c04f2f5e34fee8803e26a904ae6d5d95eccaa407", func := "revenant/revenantlaw21.SpecPairs", spec := "specPairs", plainKeys := false, apart := false }
def SpecPairsSaid : Prop := specPairsRow.holds Try.pinned (OpenSpec.ofChange specPairsSpec)

/-- ITS FALSE NEIGHBOUR: 'it returns false'. Refute it at one input. -/
def specPairsWrong : ChangeSpec := { name := "specPairs", fn := fun _ => fun
  | [d1, d2] => { results := [.lit (.bool false)], args := [d1, d2] }
  | _ => none }
def SpecPairsWrongFalsely : Prop := specPairsRow.holds Try.pinned (OpenSpec.ofChange specPairsWrong)

/- THE SECOND FORM. 'bulk': how many values and letters a reading holds, each counted each time it is reached (what is shared counts as often as it is met; a slice's spare places count too). A statement '..UptoSaid' is the law's where the arguments, and the package variables that the reading takes, are together of bulk at most 1048576: NARROWER than '..Said'. Prove '..Said' where nothing that the law and all that it calls make is longer than what came in: it says more and counts as full. Else prove '..UptoSaid'. A law counts once. -/
mutual
def uptoBulk {H : Type} : DataW H → Nat
  | .lit (.string bytes) => bytes.length + 1
  | .lit _ => 1
  | .nil => 1
  | .ptr d => uptoBulk d + 1
  | .slice elems spare => uptoBulkAll elems + uptoBulkAll spare + 1
  | .agg parts => uptoBulkAll parts + 1
  | .iface _ d => uptoBulk d + 1
  | .map entries => uptoBulkEntries entries + 1
  | .held _ => 1
def uptoBulkAll {H : Type} : List (DataW H) → Nat
  | [] => 0
  | d :: r => uptoBulk d + uptoBulkAll r
def uptoBulkEntries {H : Type} : List (Lit × DataW H) → Nat
  | [] => 0
  | x :: r => uptoBulkEntry x + uptoBulkEntries r
def uptoBulkEntry {H : Type} : Lit × DataW H → Nat
  | (.string bytes, d) => bytes.length + uptoBulk d + 1
  | (_, d) => uptoBulk d + 1
 end
def uptoSmall : (H : Type) → List (DataW H) → Bool := fun _ ds => decide (uptoBulkAll ds ≤ 1048576)
def OpenSpec.upto (s : _root_.Go.ChangeSpec) : _root_.Go.OpenSpec := { _root_.Go.OpenSpec.ofChange s with cond := some uptoSmall }

/-- 'revenantlaw21.SpecExact', WHERE WHAT IT READS IS OF BULK AT MOST 1048576: true; the input reads as it did. -/
def specExactUptoRow : OpenClaim := { program := "ytcphmelmieedfab", sum := "26e09c671c3c235d1b8bacb6c04f2f5e34fee8803e26a904ae6d5d95eccaa407", func := "revenant/revenantlaw21.SpecExact", spec := "specExact", plainKeys := false, apart := false, narrowed := true }
def SpecExactUptoSaid : Prop := specExactUptoRow.holds Try.pinned (OpenSpec.upto specExactSpec)

/-- 'revenantlaw21.SpecApart', WHERE WHAT IT READS IS OF BULK AT MOST 1048576: true; the input reads as it did. -/
def specApartUptoRow : OpenClaim := { program := "ytcphmelmieedfab", sum := "26e09c671c3c235d1b8bacb6c04f2f5e34fee8803e26a904ae6d5d95eccaa407", func := "revenant/revenantlaw21.SpecApart", spec := "specApart", plainKeys := false, apart := false, narrowed := true }
def SpecApartUptoSaid : Prop := specApartUptoRow.holds Try.pinned (OpenSpec.upto specApartSpec)

/-- 'revenantlaw21.SpecValues', WHERE WHAT IT READS IS OF BULK AT MOST 1048576: true; the input reads as it did. -/
def specValuesUptoRow : OpenClaim := { program := "ytcphmelmieedfab", sum := "26e09c671c3c235d1b8bacb6c04f2f5e34fee8803e26a904ae6d5d95eccaa407", func := "revenant/revenantlaw21.SpecValues", spec := "specValues", plainKeys := false, apart := false, narrowed := true }
def SpecValuesUptoSaid : Prop := specValuesUptoRow.holds Try.pinned (OpenSpec.upto specValuesSpec)

/-- 'revenantlaw21.SpecMay', WHERE WHAT IT READS IS OF BULK AT MOST 1048576: true; the input reads as it did. -/
def specMayUptoRow : OpenClaim := { program := "ytcphmelmieedfab", sum := "26e09c671c3c235d1b8bacb6c04f2f5e34fee8803e26a904ae6d5d95eccaa407", func := "revenant/revenantlaw21.SpecMay", spec := "specMay", plainKeys := false, apart := false, narrowed := true }
def SpecMayUptoSaid : Prop := specMayUptoRow.holds Try.pinned (OpenSpec.upto specMaySpec)

/-- 'revenantlaw21.SpecPairs', WHERE WHAT IT READS IS OF BULK AT MOST 1048576: true; the input reads as it did. -/
def specPairsUptoRow : OpenClaim := { program := "ytcphmelmieedfab", sum := "26e09c671c3c235d1b8bacb6c04f2f5e34fee8803e26a904ae6d5d95eccaa407", func := "revenant/revenantlaw21.SpecPairs", spec := "specPairs", plainKeys := false, apart := false, narrowed := true }
def SpecPairsUptoSaid : Prop := specPairsUptoRow.holds Try.pinned (OpenSpec.upto specPairsSpec)

end Rows
end Go.Proofs.Ytcphmelmieedfab
