/-
  No cell of these rows narrows 'for every input' (looked for: loops, veiled, ifaces, maps, wideKeys, modest, calm, conditions, laid).
  DERIVED. THE GIVEN ROWS OF THIS SEAT. 3 by the template 'for every input the law returns true; each argument reads behind the call as it read before'; 0 by the template 'total and deterministic' (their statements: YtgbnefhfhgkpmaaTotals.lean).
  GIVEN WITH THE SEED: the statements are not yours to turn. If you find one false, say at which input.
  Laid BY PROGRAM, IN A SANDBOX (cutbox-rows.mjs): the forced cells as the released guide's own fill.sh prints them over the translation fa882f05a4fc16d9… (all of the seat's roots in one cut). By AI agents, Wed Nov 11 2026. No macro, syntax, notation, axiom, sorry.
-/
import Derived.Test.YtgbnefhfhgkpmaaChecked
import GoSem.Claim
import GoSem.ClaimJoined
import GoSem.ClaimMapViews
import Derived.JoinedTies
import Derived.KernelRfl
namespace Go.Proofs.Ytgbnefhfhgkpmaa
/- THE CELL 'sum', in the pinned program and in every row, IS THE sha256 OF THE DUMP (.gsa) THAT YtgbnefhfhgkpmaaProg.lean LOADS. Nothing in Lean hashes anything: it is a label: what it is worth is what the hold of that sum in a sandbox is worth. -/
noncomputable def Try.pinned : Pinned := { name := "ytgbnefhfhgkpmaa", sum := "fa882f05a4fc16d91558449fe545b1fcbc9772b36d38c106d2bd19262fbafda0", checked := Try.checked }
namespace Rows
def none {H : Type} : Left H := { results := [], args := [] }

/-- 'revenantlaw03.ConfGrows': WHATEVER THE INPUT: true; the input reads as it did. -/
def confGrowsSpec : ChangeSpec := { name := "confGrows", fn := fun _ => fun
  | [d1, d2, d3] => { results := [.lit (.bool true)], args := [d1, d2, d3] }
  | _ => none }
def confGrowsRow : OpenClaim := { program := "ytgbnefhfhgkpmaa", sum := "fa882f05a4fc16d91558449fe545b1fcbc9772b36d38c106d2bd19262fbafda0", func := "revenant/revenantlaw03.ConfGrows", spec := "confGrows", apart := false }
def ConfGrowsSaid : Prop := confGrowsRow.holds Try.pinned (OpenSpec.ofChange confGrowsSpec)

/-- ITS FALSE NEIGHBOUR: 'it returns false'. Refute it at one input. -/
def confGrowsWrong : ChangeSpec := { name := "confGrows", fn := fun _ => fun
  | [d1, d2, d3] => { results := [.lit (.bool false)], args := [d1, d2, d3] }
  | _ => none }
def ConfGrowsWrongFalsely : Prop := confGrowsRow.holds Try.pinned (OpenSpec.ofChange confGrowsWrong)

/-- 'revenantlaw03.ConfExact': WHATEVER THE INPUT: true; the input reads as it did. -/
def confExactSpec : ChangeSpec := { name := "confExact", fn := fun _ => fun
  | [d1, d2, d3] => { results := [.lit (.bool true)], args := [d1, d2, d3] }
  | _ => none }
def confExactRow : OpenClaim := { program := "ytgbnefhfhgkpmaa", sum := "fa882f05a4fc16d91558449fe545b1fcbc9772b36d38c106d2bd19262fbafda0", func := "revenant/revenantlaw03.ConfExact", spec := "confExact", apart := false }
def ConfExactSaid : Prop := confExactRow.holds Try.pinned (OpenSpec.ofChange confExactSpec)

/-- ITS FALSE NEIGHBOUR: 'it returns false'. Refute it at one input. -/
def confExactWrong : ChangeSpec := { name := "confExact", fn := fun _ => fun
  | [d1, d2, d3] => { results := [.lit (.bool false)], args := [d1, d2, d3] }
  | _ => none }
def ConfExactWrongFalsely : Prop := confExactRow.holds Try.pinned (OpenSpec.ofChange confExactWrong)

/-- 'revenantlaw03.ConfOps': WHATEVER THE INPUT: true; the input reads as it did. -/
def confOpsSpec : ChangeSpec := { name := "confOps", fn := fun _ => fun
  | [d1, d2, d3, d4] => { results := [.lit (.bool true)], args := [d1, d2, d3, d4] }
  | _ => none }
def confOpsRow : OpenClaim := { program := "ytgbnefhfhgkpmaa", sum := "fa882f05a4fc16d91558449fe545b1fcbc9772b36d38c106d2bd19262fbafda0", func := "revenant/revenantlaw03.ConfOps", spec := "confOps", apart := false }
def ConfOpsSaid : Prop := confOpsRow.holds Try.pinned (OpenSpec.ofChange confOpsSpec)

/-- ITS FALSE NEIGHBOUR: 'it returns false'. Refute it at one input. -/
def confOpsWrong : ChangeSpec := { name := "confOps", fn := fun _ => fun
  | [d1, d2, d3, d4] => { results := [.lit (.bool false)], args := [d1, d2, d3, d4] }
  | _ => none }
def ConfOpsWrongFalsely : Prop := confOpsRow.holds Try.pinned (OpenSpec.ofChange confOpsWrong)

/- THE SECOND FORM. 'bulk': how many values and letters a reading holds, each counted each time it is reached (what is shared counts as often as it is met; a slice's spare places count too). A statement '..UptoSaid' is the law's where the arguments, and the package variables that the reading takes, are together of bulk at most 1048576: NARROWER than '..Said'. Prove '..Said' where nothing that the law and all that it calls make is longer than what came in: it says more and counts as full. Else prove '..UptoSaid'. A law counts once. -/
mutual
def uptoBulk {H : Type} : DataW H → Nat
  | .lit (.string bytes) => bytes.length + 1
  | .lit _ => 1
  | .nil => 1
  | .ptr d => uptoBulk d + 1
  | .slice elems spare => uptoBulkAll elems + uptoBulkAll spare + 1
  | .agg parts => uptoBulkAll parts + 1
  | .iface _ d => uptoBulk d + 1
  | .map entries => uptoBulkEntries entries + 1
  | .held _ => 1
def uptoBulkAll {H : Type} : List (DataW H) → Nat
  | [] => 0
  | d :: r => uptoBulk d + uptoBulkAll r
def uptoBulkEntries {H : Type} : List (Lit × DataW H) → Nat
  | [] => 0
  | x :: r => uptoBulkEntry x + uptoBulkEntries r
def uptoBulkEntry {H : Type} : Lit × DataW H → Nat
  | (.string bytes, d) => bytes.length + uptoBulk d + 1
  | (_, d) => uptoBulk d + 1
 end
def uptoSmall : (H : Type) → List (DataW H) → Bool := fun _ ds => decide (uptoBulkAll ds ≤ 1048576)
def OpenSpec.upto (s : _root_.Go.ChangeSpec) : _root_.Go.OpenSpec := { _root_.Go.OpenSpec.ofChange s with cond := some uptoSmall }

/-- 'revenantlaw03.ConfGrows', WHERE WHAT IT READS IS OF BULK AT MOST 1048576: true; the input reads as it did. -/
def confGrowsUptoRow : OpenClaim := { program := "ytgbnefhfhgkpmaa", sum := "fa882f05a4fc16d91558449fe545b1fcbc9772b36d38c106d2bd19262fbafda0", func := "revenant/revenantlaw03.ConfGrows", spec := "confGrows", apart := false, narrowed := true }
def ConfGrowsUptoSaid : Prop := confGrowsUptoRow.holds Try.pinned (OpenSpec.upto confGrowsSpec)

/-- 'revenantlaw03.ConfExact', WHERE WHAT IT READS IS OF BULK AT MOST 1048576: true; the input reads as it did. -/
def confExactUptoRow : OpenClaim := { program := "ytgbnefhfhgkpmaa", sum := "fa882f05a4fc16d91558449fe545b1fcbc9772b36d38c106d2bd19262fbafda0", func := "revenant/revenantlaw03.ConfExact", spec := "confExact", apart := false, narrowed := true }
def ConfExactUptoSaid : Prop := confExactUptoRow.holds Try.pinned (OpenSpec.upto confExactSpec)

/-- 'revenantlaw03.ConfOps', WHERE WHAT IT READS IS OF BULK AT MOST 1048576: true; the input reads as it did. -/
def confOpsUptoRow : OpenClaim := { program := "ytgbnefhfhgkpmaa", sum := "fa882f05a4fc16d91558449fe545b1fcbc9772b36d38c106d2bd19262fbafda0", func := "revenant/revenantlaw03.ConfOps", spec := "confOps", apart := false, narrowed := true }
def ConfOpsUptoSaid : Prop := confOpsUptoRow.holds Try.pinned (OpenSpec.upto confOpsSpec)

end Rows
end Go.Proofs.Ytgbnefhfhgkpmaa
