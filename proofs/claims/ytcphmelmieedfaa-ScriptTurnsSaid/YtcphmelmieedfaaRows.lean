/-
  No cell of these rows narrows 'for every input' (looked for: loops, veiled, ifaces, maps, wideKeys, modest, calm, conditions, laid).
  DERIVED. THE GIVEN ROWS OF THIS SEAT. 7 by the template 'for every input the law returns true; each argument reads behind the call as it read before'; 0 by the template 'total and deterministic' (their statements: YtcphmelmieedfaaTotals.lean).
  GIVEN WITH THE SEED: the statements are not yours to turn. If you find one false, say at which input.
  Laid BY PROGRAM, IN A SANDBOX (cutbox-rows.mjs): the forced cells as the released guide's own fill.sh prints them over the translation 93af681666f72a58… (all of the seat's roots in one cut). By AI agents, Wed Nov 11 2026. No macro, syntax, notation, axiom, sorry.
-/
import Derived.Test.YtcphmelmieedfaaChecked
import GoSem.Claim
import GoSem.ClaimJoined
import GoSem.ClaimMapViews
import Derived.JoinedTies
import Derived.KernelRfl
namespace Go.Proofs.Ytcphmelmieedfaa
/- THE CELL 'sum', in the pinned program and in every row, IS THE sha256 OF THE DUMP (.gsa) THAT YtcphmelmieedfaaProg.lean LOADS. Nothing in Lean hashes anything: it is a label: what it is worth is what the hold of that sum in a sandbox is worth. -/
noncomputable def Try.pinned : Pinned := { name := "ytcphmelmieedfaa", sum := "93af681666f72a58576f6140a10e0ec23f82604ae428e6eb99e675be6858340c", checked := Try.checked }
namespace Rows
def none {H : Type} : Left H := { results := [], args := [] }

/-- 'revenantlaw34.MintExact': WHATEVER THE INPUT: true; the input reads as it did. -/
def mintExactSpec : ChangeSpec := { name := "mintExact", fn := fun _ => fun
  | [d1, d2] => { results := [.lit (.bool true)], args := [d1, d2] }
  | _ => none }
def mintExactRow : OpenClaim := { program := "ytcphmelmieedfaa", sum := "93af681666f72a58576f6140a10e0ec23f82604ae428e6eb99e675be6858340c", func := "revenant/revenantlaw34.MintExact", spec := "mintExact", apart := false }
def MintExactSaid : Prop := mintExactRow.holds Try.pinned (OpenSpec.ofChange mintExactSpec)

/-- ITS FALSE NEIGHBOUR: 'it returns false'. Refute it at one input. -/
def mintExactWrong : ChangeSpec := { name := "mintExact", fn := fun _ => fun
  | [d1, d2] => { results := [.lit (.bool false)], args := [d1, d2] }
  | _ => none }
def MintExactWrongFalsely : Prop := mintExactRow.holds Try.pinned (OpenSpec.ofChange mintExactWrong)

/-- 'revenantlaw34.MintSame': WHATEVER THE INPUT: true; the input reads as it did. -/
def mintSameSpec : ChangeSpec := { name := "mintSame", fn := fun _ => fun
  | [d1, d2, d3, d4] => { results := [.lit (.bool true)], args := [d1, d2, d3, d4] }
  | _ => none }
def mintSameRow : OpenClaim := { program := "ytcphmelmieedfaa", sum := "93af681666f72a58576f6140a10e0ec23f82604ae428e6eb99e675be6858340c", func := "revenant/revenantlaw34.MintSame", spec := "mintSame", apart := false }
def MintSameSaid : Prop := mintSameRow.holds Try.pinned (OpenSpec.ofChange mintSameSpec)

/-- ITS FALSE NEIGHBOUR: 'it returns false'. Refute it at one input. -/
def mintSameWrong : ChangeSpec := { name := "mintSame", fn := fun _ => fun
  | [d1, d2, d3, d4] => { results := [.lit (.bool false)], args := [d1, d2, d3, d4] }
  | _ => none }
def MintSameWrongFalsely : Prop := mintSameRow.holds Try.pinned (OpenSpec.ofChange mintSameWrong)

/-- 'revenantlaw34.MintScripts': WHATEVER THE INPUT: true; the input reads as it did. -/
def mintScriptsSpec : ChangeSpec := { name := "mintScripts", fn := fun _ => fun
  | [d1, d2, d3] => { results := [.lit (.bool true)], args := [d1, d2, d3] }
  | _ => none }
def mintScriptsRow : OpenClaim := { program := "ytcphmelmieedfaa", sum := "93af681666f72a58576f6140a10e0ec23f82604ae428e6eb99e675be6858340c", func := "revenant/revenantlaw34.MintScripts", spec := "mintScripts", unfollowed := true, recurses := true, apart := false }
def MintScriptsSaid : Prop := mintScriptsRow.holds Try.pinned (OpenSpec.ofChange mintScriptsSpec)

/-- ITS FALSE NEIGHBOUR: 'it returns false'. Refute it at one input. -/
def mintScriptsWrong : ChangeSpec := { name := "mintScripts", fn := fun _ => fun
  | [d1, d2, d3] => { results := [.lit (.bool false)], args := [d1, d2, d3] }
  | _ => none }
def MintScriptsWrongFalsely : Prop := mintScriptsRow.holds Try.pinned (OpenSpec.ofChange mintScriptsWrong)

/-- 'revenantlaw34.MintCan': WHATEVER THE INPUT: true; the input reads as it did. -/
def mintCanSpec : ChangeSpec := { name := "mintCan", fn := fun _ => fun
  | [d1, d2, d3] => { results := [.lit (.bool true)], args := [d1, d2, d3] }
  | _ => none }
def mintCanRow : OpenClaim := { program := "ytcphmelmieedfaa", sum := "93af681666f72a58576f6140a10e0ec23f82604ae428e6eb99e675be6858340c", func := "revenant/revenantlaw34.MintCan", spec := "mintCan", unfollowed := true, recurses := true, apart := false }
def MintCanSaid : Prop := mintCanRow.holds Try.pinned (OpenSpec.ofChange mintCanSpec)

/-- ITS FALSE NEIGHBOUR: 'it returns false'. Refute it at one input. -/
def mintCanWrong : ChangeSpec := { name := "mintCan", fn := fun _ => fun
  | [d1, d2, d3] => { results := [.lit (.bool false)], args := [d1, d2, d3] }
  | _ => none }
def MintCanWrongFalsely : Prop := mintCanRow.holds Try.pinned (OpenSpec.ofChange mintCanWrong)

/-- 'revenantlaw22.ScriptExact': WHATEVER THE INPUT: true; the input reads as it did. -/
def scriptExactSpec : ChangeSpec := { name := "scriptExact", fn := fun _ => fun
  | [d1, d2] => { results := [.lit (.bool true)], args := [d1, d2] }
  | _ => none }
def scriptExactRow : OpenClaim := { program := "ytcphmelmieedfaa", sum := "93af681666f72a58576f6140a10e0ec23f82604ae428e6eb99e675be6858340c", func := "revenant/revenantlaw22.ScriptExact", spec := "scriptExact", unfollowed := true, recurses := true, apart := false }
def ScriptExactSaid : Prop := scriptExactRow.holds Try.pinned (OpenSpec.ofChange scriptExactSpec)

/-- ITS FALSE NEIGHBOUR: 'it returns false'. Refute it at one input. -/
def scriptExactWrong : ChangeSpec := { name := "scriptExact", fn := fun _ => fun
  | [d1, d2] => { results := [.lit (.bool false)], args := [d1, d2] }
  | _ => none }
def ScriptExactWrongFalsely : Prop := scriptExactRow.holds Try.pinned (OpenSpec.ofChange scriptExactWrong)

/-- 'revenantlaw22.ScriptTurns': WHATEVER THE INPUT: true; the input reads as it did. -/
def scriptTurnsSpec : ChangeSpec := { name := "scriptTurns", fn := fun _ => fun
  | [d1, d2, d3] => { results := [.lit (.bool true)], args := [d1, d2, d3] }
  | _ => none }
def scriptTurnsRow : OpenClaim := { program := "ytcphmelmieedfaa", sum := "93af681666f72a58576f6140a10e0ec23f82604ae428e6eb99e675be6858340c", func := "revenant/revenantlaw22.ScriptTurns", spec := "scriptTurns", unfollowed := true, recurses := true, apart := false }
def ScriptTurnsSaid : Prop := scriptTurnsRow.holds Try.pinned (OpenSpec.ofChange scriptTurnsSpec)

/-- ITS FALSE NEIGHBOUR: 'it returns false'. Refute it at one input. -/
def scriptTurnsWrong : ChangeSpec := { name := "scriptTurns", fn := fun _ => fun
  | [d1, d2, d3] => { results := [.lit (.bool false)], args := [d1, d2, d3] }
  | _ => none }
def ScriptTurnsWrongFalsely : Prop := scriptTurnsRow.holds Try.pinned (OpenSpec.ofChange scriptTurnsWrong)

/-- 'revenantlaw22.ScriptCounts': WHATEVER THE INPUT: true; the input reads as it did. -/
def scriptCountsSpec : ChangeSpec := { name := "scriptCounts", fn := fun _ => fun
  | [d1, d2] => { results := [.lit (.bool true)], args := [d1, d2] }
  | _ => none }
def scriptCountsRow : OpenClaim := { program := "ytcphmelmieedfaa", sum := "93af681666f72a58576f6140a10e0ec23f82604ae428e6eb99e675be6858340c", func := "revenant/revenantlaw22.ScriptCounts", spec := "scriptCounts", unfollowed := true, recurses := true, apart := false }
def ScriptCountsSaid : Prop := scriptCountsRow.holds Try.pinned (OpenSpec.ofChange scriptCountsSpec)

/-- ITS FALSE NEIGHBOUR: 'it returns false'. Refute it at one input. -/
def scriptCountsWrong : ChangeSpec := { name := "scriptCounts", fn := fun _ => fun
  | [d1, d2] => { results := [.lit (.bool false)], args := [d1, d2] }
  | _ => none }
def ScriptCountsWrongFalsely : Prop := scriptCountsRow.holds Try.pinned (OpenSpec.ofChange scriptCountsWrong)

/- THE SECOND FORM. 'bulk': how many values and letters a reading holds, each counted each time it is reached (what is shared counts as often as it is met; a slice's spare places count too). A statement '..UptoSaid' is the law's where the arguments, and the package variables that the reading takes, are together of bulk at most 1048576: NARROWER than '..Said'. Prove '..Said' where nothing that the law and all that it calls make is longer than what came in: it says more and counts as full. Else prove '..UptoSaid'. A law counts once. -/
mutual
def uptoBulk {H : Type} : DataW H → Nat
  | .lit (.string bytes) => bytes.length + 1
  | .lit _ => 1
  | .nil => 1
  | .ptr d => uptoBulk d + 1
  | .slice elems spare => uptoBulkAll elems + uptoBulkAll spare + 1
  | .agg parts => uptoBulkAll parts + 1
  | .iface _ d => uptoBulk d + 1
  | .map entries => uptoBulkEntries entries + 1
  | .held _ => 1
def uptoBulkAll {H : Type} : List (DataW H) → Nat
  | [] => 0
  | d :: r => uptoBulk d + uptoBulkAll r
def uptoBulkEntries {H : Type} : List (Lit × DataW H) → Nat
  | [] => 0
  | x :: r => uptoBulkEntry x + uptoBulkEntries r
def uptoBulkEntry {H : Type} : Lit × DataW H → Nat
  | (.string bytes, d) => bytes.length + uptoBulk d + 1
  | (_, d) => uptoBulk d + 1
 end
def uptoSmall : (H : Type) → List (DataW H) → Bool := fun _ ds => decide (uptoBulkAll ds ≤ 1048576)
def OpenSpec.upto (s : _root_.Go.ChangeSpec) : _root_.Go.OpenSpec := { _root_.Go.OpenSpec.ofChange s with cond := some uptoSmall }

/-- 'revenantlaw34.MintExact', WHERE WHAT IT READS IS OF BULK AT MOST 1048576: true; the input reads as it did. -/
def mintExactUptoRow : OpenClaim := { program := "ytcphmelmieedfaa", sum := "93af681666f72a58576f6140a10e0ec23f82604ae428e6eb99e675be6858340c", func := "revenant/revenantlaw34.MintExact", spec := "mintExact", apart := false, narrowed := true }
def MintExactUptoSaid : Prop := mintExactUptoRow.holds Try.pinned (OpenSpec.upto mintExactSpec)

/-- 'revenantlaw34.MintSame', WHERE WHAT IT READS IS OF BULK AT MOST 1048576: true; the input reads as it did. -/
def mintSameUptoRow : OpenClaim := { program := "ytcphmelmieedfaa", sum := "93af681666f72a58576f6140a10e0ec23f82604ae428e6eb99e675be6858340c", func := "revenant/revenantlaw34.MintSame", spec := "mintSame", apart := false, narrowed := true }
def MintSameUptoSaid : Prop := mintSameUptoRow.holds Try.pinned (OpenSpec.upto mintSameSpec)

/-- 'revenantlaw34.MintScripts', WHERE WHAT IT READS IS OF BULK AT MOST 1048576: true; the input reads as it did. -/
def mintScriptsUptoRow : OpenClaim := { program := "ytcphmelmieedfaa", sum := "93af681666f72a58576f6140a10e0ec23f82604ae428e6eb99e675be6858340c", func := "revenant/revenantlaw34.MintScripts", spec := "mintScripts", unfollowed := true, recurses := true, apart := false, narrowed := true }
def MintScriptsUptoSaid : Prop := mintScriptsUptoRow.holds Try.pinned (OpenSpec.upto mintScriptsSpec)

/-- 'revenantlaw34.MintCan', WHERE WHAT IT READS IS OF BULK AT MOST 1048576: true; the input reads as it did. -/
def mintCanUptoRow : OpenClaim := { program := "ytcphmelmieedfaa", sum := "93af681666f72a58576f6140a10e0ec23f82604ae428e6eb99e675be6858340c", func := "revenant/revenantlaw34.MintCan", spec := "mintCan", unfollowed := true, recurses := true, apart := false, narrowed := true }
def MintCanUptoSaid : Prop := mintCanUptoRow.holds Try.pinned (OpenSpec.upto mintCanSpec)

/-- 'revenantlaw22.ScriptExact', WHERE WHAT IT READS IS OF BULK AT MOST 1048576: true; the input reads as it did. -/
def scriptExactUptoRow : OpenClaim := { program := "ytcphmelmieedfaa", sum := "93af681666f72a58576f6140a10e0ec23f82604ae428e6eb99e675be6858340c", func := "revenant/revenantlaw22.ScriptExact", spec := "scriptExact", unfollowed := true, recurses := true, apart := false, narrowed := true }
def ScriptExactUptoSaid : Prop := scriptExactUptoRow.holds Try.pinned (OpenSpec.upto scriptExactSpec)

/-- 'revenantlaw22.ScriptTurns', WHERE WHAT IT READS IS OF BULK AT MOST 1048576: true; the input reads as it did. -/
def scriptTurnsUptoRow : OpenClaim := { program := "ytcphmelmieedfaa", sum := "93af681666f72a58576f6140a10e0ec23f82604ae428e6eb99e675be6858340c", func := "revenant/revenantlaw22.ScriptTurns", spec := "scriptTurns", unfollowed := true, recurses := true, apart := false, narrowed := true }
def ScriptTurnsUptoSaid : Prop := scriptTurnsUptoRow.holds Try.pinned (OpenSpec.upto scriptTurnsSpec)

/-- 'revenantlaw22.ScriptCounts', WHERE WHAT IT READS IS OF BULK AT MOST 1048576: true; the input reads as it did. -/
def scriptCountsUptoRow : OpenClaim := { program := "ytcphmelmieedfaa", sum := "93af681666f72a58576f6140a10e0ec23f82604ae428e6eb99e675be6858340c", func := "revenant/revenantlaw22.ScriptCounts", spec := "scriptCounts", unfollowed := true, recurses := true, apart := false, narrowed := true }
def ScriptCountsUptoSaid : Prop := scriptCountsUptoRow.holds Try.pinned (OpenSpec.upto scriptCountsSpec)

end Rows
end Go.Proofs.Ytcphmelmieedfaa
