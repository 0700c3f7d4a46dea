/-
  No cell of these rows narrows 'for every input' (looked for: loops, veiled, ifaces, maps, wideKeys, modest, calm, conditions, laid).
  DERIVED. THE GIVEN ROWS OF THIS SEAT. 13 by the template 'for every input the law returns true; each argument reads behind the call as it read before'; 0 by the template 'total and deterministic' (their statements: YtmdncdepdnpjiaaTotals.lean).
  GIVEN WITH THE SEED: the statements are not yours to turn. If you find one false, say at which input.
  Laid BY PROGRAM, IN A SANDBOX (cutbox-rows.mjs): the forced cells as the released guide's own fill.sh prints them over the translation a136932229e3353b… (all of the seat's roots in one cut). By AI agents, Wed Nov 11 2026. No macro, syntax, notation, axiom, sorry.
-/
import Derived.Test.YtmdncdepdnpjiaaChecked
import GoSem.Claim
import GoSem.ClaimJoined
import GoSem.ClaimMapViews
import Derived.JoinedTies
import Derived.KernelRfl
namespace Go.Proofs.Ytmdncdepdnpjiaa
/- THE CELL 'sum', in the pinned program and in every row, IS THE sha256 OF THE DUMP (.gsa) THAT YtmdncdepdnpjiaaProg.lean LOADS. Nothing in Lean hashes anything: it is a label: what it is worth is what the hold of that sum in a sandbox is worth. -/
noncomputable def Try.pinned : Pinned := { name := "ytmdncdepdnpjiaa", sum := "a136932229e3353be11ec592c04134d039894d60ef0c566aff7eac2ec8881212", checked := Try.checked }
namespace Rows
def none {H : Type} : Left H := { results := [], args := [] }

/-- 'revenantlaw01.FieldExact': WHATEVER THE INPUT: true; the input reads as it did. -/
def fieldExactSpec : ChangeSpec := { name := "fieldExact", fn := fun _ => fun
  | [d1, d2, d3] => { results := [.lit (.bool true)], args := [d1, d2, d3] }
  | _ => none }
def fieldExactRow : OpenClaim := { program := "ytmdncdepdnpjiaa", sum := "a136932229e3353be11ec592c04134d039894d60ef0c566aff7eac2ec8881212", func := "revenant/revenantlaw01.FieldExact", spec := "fieldExact", apart := false }
def FieldExactSaid : Prop := fieldExactRow.holds Try.pinned (OpenSpec.ofChange fieldExactSpec)

/-- ITS FALSE NEIGHBOUR: 'it returns false'. Refute it at one input. -/
def fieldExactWrong : ChangeSpec := { name := "fieldExact", fn := fun _ => fun
  | [d1, d2, d3] => { results := [.lit (.bool false)], args := [d1, d2, d3] }
  | _ => none }
def FieldExactWrongFalsely : Prop := fieldExactRow.holds Try.pinned (OpenSpec.ofChange fieldExactWrong)

/-- 'revenantlaw01.FieldTurns': WHATEVER THE INPUT: true; the input reads as it did. -/
def fieldTurnsSpec : ChangeSpec := { name := "fieldTurns", fn := fun _ => fun
  | [d1, d2] => { results := [.lit (.bool true)], args := [d1, d2] }
  | _ => none }
def fieldTurnsRow : OpenClaim := { program := "ytmdncdepdnpjiaa", sum := "a136932229e3353be11ec592c04134d039894d60ef0c566aff7eac2ec8881212", func := "revenant/revenantlaw01.FieldTurns", spec := "fieldTurns", apart := false }
def FieldTurnsSaid : Prop := fieldTurnsRow.holds Try.pinned (OpenSpec.ofChange fieldTurnsSpec)

/-- ITS FALSE NEIGHBOUR: 'it returns false'. Refute it at one input. -/
def fieldTurnsWrong : ChangeSpec := { name := "fieldTurns", fn := fun _ => fun
  | [d1, d2] => { results := [.lit (.bool false)], args := [d1, d2] }
  | _ => none }
def FieldTurnsWrongFalsely : Prop := fieldTurnsRow.holds Try.pinned (OpenSpec.ofChange fieldTurnsWrong)

/-- 'revenantlaw01.FieldSigns': WHATEVER THE INPUT: true; the input reads as it did. -/
def fieldSignsSpec : ChangeSpec := { name := "fieldSigns", fn := fun _ => fun
  | [d1, d2, d3, d4] => { results := [.lit (.bool true)], args := [d1, d2, d3, d4] }
  | _ => none }
def fieldSignsRow : OpenClaim := { program := "ytmdncdepdnpjiaa", sum := "a136932229e3353be11ec592c04134d039894d60ef0c566aff7eac2ec8881212", func := "revenant/revenantlaw01.FieldSigns", spec := "fieldSigns", apart := false }
def FieldSignsSaid : Prop := fieldSignsRow.holds Try.pinned (OpenSpec.ofChange fieldSignsSpec)

/-- ITS FALSE NEIGHBOUR: 'it returns false'. Refute it at one input. -/
def fieldSignsWrong : ChangeSpec := { name := "fieldSigns", fn := fun _ => fun
  | [d1, d2, d3, d4] => { results := [.lit (.bool false)], args := [d1, d2, d3, d4] }
  | _ => none }
def FieldSignsWrongFalsely : Prop := fieldSignsRow.holds Try.pinned (OpenSpec.ofChange fieldSignsWrong)

/-- 'revenantlaw01.FieldBack': WHATEVER THE INPUT: true; the input reads as it did. -/
def fieldBackSpec : ChangeSpec := { name := "fieldBack", fn := fun _ => fun
  | [d1, d2, d3, d4, d5] => { results := [.lit (.bool true)], args := [d1, d2, d3, d4, d5] }
  | _ => none }
def fieldBackRow : OpenClaim := { program := "ytmdncdepdnpjiaa", sum := "a136932229e3353be11ec592c04134d039894d60ef0c566aff7eac2ec8881212", func := "revenant/revenantlaw01.FieldBack", spec := "fieldBack", apart := false }
def FieldBackSaid : Prop := fieldBackRow.holds Try.pinned (OpenSpec.ofChange fieldBackSpec)

/-- ITS FALSE NEIGHBOUR: 'it returns false'. Refute it at one input. -/
def fieldBackWrong : ChangeSpec := { name := "fieldBack", fn := fun _ => fun
  | [d1, d2, d3, d4, d5] => { results := [.lit (.bool false)], args := [d1, d2, d3, d4, d5] }
  | _ => none }
def FieldBackWrongFalsely : Prop := fieldBackRow.holds Try.pinned (OpenSpec.ofChange fieldBackWrong)

/-- 'revenantlaw03.ConfGrows': WHATEVER THE INPUT: true; the input reads as it did. -/
def confGrowsSpec : ChangeSpec := { name := "confGrows", fn := fun _ => fun
  | [d1, d2, d3] => { results := [.lit (.bool true)], args := [d1, d2, d3] }
  | _ => none }
def confGrowsRow : OpenClaim := { program := "ytmdncdepdnpjiaa", sum := "a136932229e3353be11ec592c04134d039894d60ef0c566aff7eac2ec8881212", func := "revenant/revenantlaw03.ConfGrows", spec := "confGrows", apart := false }
def ConfGrowsSaid : Prop := confGrowsRow.holds Try.pinned (OpenSpec.ofChange confGrowsSpec)

/-- ITS FALSE NEIGHBOUR: 'it returns false'. Refute it at one input. -/
def confGrowsWrong : ChangeSpec := { name := "confGrows", fn := fun _ => fun
  | [d1, d2, d3] => { results := [.lit (.bool false)], args := [d1, d2, d3] }
  | _ => none }
def ConfGrowsWrongFalsely : Prop := confGrowsRow.holds Try.pinned (OpenSpec.ofChange confGrowsWrong)

/-- 'revenantlaw12.MixExact': WHATEVER THE INPUT: true; the input reads as it did. -/
def mixExactSpec : ChangeSpec := { name := "mixExact", fn := fun _ => fun
  | [d1, d2] => { results := [.lit (.bool true)], args := [d1, d2] }
  | _ => none }
def mixExactRow : OpenClaim := { program := "ytmdncdepdnpjiaa", sum := "a136932229e3353be11ec592c04134d039894d60ef0c566aff7eac2ec8881212", func := "revenant/revenantlaw12.MixExact", spec := "mixExact", apart := false }
def MixExactSaid : Prop := mixExactRow.holds Try.pinned (OpenSpec.ofChange mixExactSpec)

/-- ITS FALSE NEIGHBOUR: 'it returns false'. Refute it at one input. -/
def mixExactWrong : ChangeSpec := { name := "mixExact", fn := fun _ => fun
  | [d1, d2] => { results := [.lit (.bool false)], args := [d1, d2] }
  | _ => none }
def MixExactWrongFalsely : Prop := mixExactRow.holds Try.pinned (OpenSpec.ofChange mixExactWrong)

/-- 'revenantlaw12.MixSpreads': WHATEVER THE INPUT: true; the input reads as it did. -/
def mixSpreadsSpec : ChangeSpec := { name := "mixSpreads", fn := fun _ => fun
  | [d1, d2] => { results := [.lit (.bool true)], args := [d1, d2] }
  | _ => none }
def mixSpreadsRow : OpenClaim := { program := "ytmdncdepdnpjiaa", sum := "a136932229e3353be11ec592c04134d039894d60ef0c566aff7eac2ec8881212", func := "revenant/revenantlaw12.MixSpreads", spec := "mixSpreads", apart := false }
def MixSpreadsSaid : Prop := mixSpreadsRow.holds Try.pinned (OpenSpec.ofChange mixSpreadsSpec)

/-- ITS FALSE NEIGHBOUR: 'it returns false'. Refute it at one input. -/
def mixSpreadsWrong : ChangeSpec := { name := "mixSpreads", fn := fun _ => fun
  | [d1, d2] => { results := [.lit (.bool false)], args := [d1, d2] }
  | _ => none }
def MixSpreadsWrongFalsely : Prop := mixSpreadsRow.holds Try.pinned (OpenSpec.ofChange mixSpreadsWrong)

/-- 'revenantlaw12.MixBack': WHATEVER THE INPUT: true; the input reads as it did. -/
def mixBackSpec : ChangeSpec := { name := "mixBack", fn := fun _ => fun
  | [d1, d2] => { results := [.lit (.bool true)], args := [d1, d2] }
  | _ => none }
def mixBackRow : OpenClaim := { program := "ytmdncdepdnpjiaa", sum := "a136932229e3353be11ec592c04134d039894d60ef0c566aff7eac2ec8881212", func := "revenant/revenantlaw12.MixBack", spec := "mixBack", apart := false }
def MixBackSaid : Prop := mixBackRow.holds Try.pinned (OpenSpec.ofChange mixBackSpec)

/-- ITS FALSE NEIGHBOUR: 'it returns false'. Refute it at one input. -/
def mixBackWrong : ChangeSpec := { name := "mixBack", fn := fun _ => fun
  | [d1, d2] => { results := [.lit (.bool false)], args := [d1, d2] }
  | _ => none }
def MixBackWrongFalsely : Prop := mixBackRow.holds Try.pinned (OpenSpec.ofChange mixBackWrong)

/-- 'revenantlaw12.MixHalves': WHATEVER THE INPUT: true; the input reads as it did. -/
def mixHalvesSpec : ChangeSpec := { name := "mixHalves", fn := fun _ => fun
  | [d1, d2] => { results := [.lit (.bool true)], args := [d1, d2] }
  | _ => none }
def mixHalvesRow : OpenClaim := { program := "ytmdncdepdnpjiaa", sum := "a136932229e3353be11ec592c04134d039894d60ef0c566aff7eac2ec8881212", func := "revenant/revenantlaw12.MixHalves", spec := "mixHalves", apart := false }
def MixHalvesSaid : Prop := mixHalvesRow.holds Try.pinned (OpenSpec.ofChange mixHalvesSpec)

/-- ITS FALSE NEIGHBOUR: 'it returns false'. Refute it at one input. -/
def mixHalvesWrong : ChangeSpec := { name := "mixHalves", fn := fun _ => fun
  | [d1, d2] => { results := [.lit (.bool false)], args := [d1, d2] }
  | _ => none }
def MixHalvesWrongFalsely : Prop := mixHalvesRow.holds Try.pinned (OpenSpec.ofChange mixHalvesWrong)

/-- 'revenantlaw01.FieldPacks': WHATEVER THE INPUT: true; the input reads as it did. -/
def fieldPacksSpec : ChangeSpec := { name := "fieldPacks", fn := fun _ => fun
  | [d1, d2, d3] => { results := [.lit (.bool true)], args := [d1, d2, d3] }
  | _ => none }
def fieldPacksRow : OpenClaim := { program := "ytmdncdepdnpjiaa", sum := "a136932229e3353be11ec592c04134d039894d60ef0c566aff7eac2ec8881212", func := "revenant/revenantlaw01.FieldPacks", spec := "fieldPacks", apart := false }
def FieldPacksSaid : Prop := fieldPacksRow.holds Try.pinned (OpenSpec.ofChange fieldPacksSpec)

/-- ITS FALSE NEIGHBOUR: 'it returns false'. Refute it at one input. -/
def fieldPacksWrong : ChangeSpec := { name := "fieldPacks", fn := fun _ => fun
  | [d1, d2, d3] => { results := [.lit (.bool false)], args := [d1, d2, d3] }
  | _ => none }
def FieldPacksWrongFalsely : Prop := fieldPacksRow.holds Try.pinned (OpenSpec.ofChange fieldPacksWrong)

/-- 'revenantlaw01.FieldWhole': WHATEVER THE INPUT: true; the input reads as it did. -/
def fieldWholeSpec : ChangeSpec := { name := "fieldWhole", fn := fun _ => fun
  | [d1, d2] => { results := [.lit (.bool true)], args := [d1, d2] }
  | _ => none }
def fieldWholeRow : OpenClaim := { program := "ytmdncdepdnpjiaa", sum := "a136932229e3353be11ec592c04134d039894d60ef0c566aff7eac2ec8881212", func := "revenant/revenantlaw01.FieldWhole", spec := "fieldWhole", apart := false }
def FieldWholeSaid : Prop := fieldWholeRow.holds Try.pinned (OpenSpec.ofChange fieldWholeSpec)

/-- ITS FALSE NEIGHBOUR: 'it returns false'. Refute it at one input. -/
def fieldWholeWrong : ChangeSpec := { name := "fieldWhole", fn := fun _ => fun
  | [d1, d2] => { results := [.lit (.bool false)], args := [d1, d2] }
  | _ => none }
def FieldWholeWrongFalsely : Prop := fieldWholeRow.holds Try.pinned (OpenSpec.ofChange fieldWholeWrong)

/-- 'revenantlaw03.ConfExact': WHATEVER THE INPUT: true; the input reads as it did. -/
def confExactSpec : ChangeSpec := { name := "confExact", fn := fun _ => fun
  | [d1, d2, d3] => { results := [.lit (.bool true)], args := [d1, d2, d3] }
  | _ => none }
def confExactRow : OpenClaim := { program := "ytmdncdepdnpjiaa", sum := "a136932229e3353be11ec592c04134d039894d60ef0c566aff7eac2ec8881212", func := "revenant/revenantlaw03.ConfExact", spec := "confExact", apart := false }
def ConfExactSaid : Prop := confExactRow.holds Try.pinned (OpenSpec.ofChange confExactSpec)

/-- ITS FALSE NEIGHBOUR: 'it returns false'. Refute it at one input. -/
def confExactWrong : ChangeSpec := { name := "confExact", fn := fun _ => fun
  | [d1, d2, d3] => { results := [.lit (.bool false)], args := [d1, d2, d3] }
  | _ => none }
def ConfExactWrongFalsely : Prop := confExactRow.holds Try.pinned (OpenSpec.ofChange confExactWrong)

/-- 'revenantlaw03.ConfOps': WHATEVER THE INPUT: true; the input reads as it did. -/
def confOpsSpec : ChangeSpec := { name := "confOps", fn := fun _ => fun
  | [d1, d2, d3, d4] => { results := [.lit (.bool true)], args := [d1, d2, d3, d4] }
  | _ => none }
def confOpsRow : OpenClaim := { program := "ytmdncdepdnpjiaa", sum := "a136932229e3353be11ec592c04134d039894d60ef0c566aff7eac2ec8881212", func := "revenant/revenantlaw03.ConfOps", spec := "confOps", apart := false }
def ConfOpsSaid : Prop := confOpsRow.holds Try.pinned (OpenSpec.ofChange confOpsSpec)

/-- ITS FALSE NEIGHBOUR: 'it returns false'. Refute it at one input. -/
def confOpsWrong : ChangeSpec := { name := "confOps", fn := fun _ => fun
  | [d1, d2, d3, d4] => { results := [.lit (.bool false)], args := [d1, d2, d3, d4] }
  | _ => none }
def ConfOpsWrongFalsely : Prop := confOpsRow.holds Try.pinned (OpenSpec.ofChange confOpsWrong)

/- THE SECOND FORM. 'bulk': how many values and letters a reading holds, each counted each time it is reached (what is shared counts as often as it is met; a slice's spare places count too). A statement '..UptoSaid' is the law's where the arguments, and the package variables that the reading takes, are together of bulk at most 1048576: NARROWER than '..Said'. Prove '..Said' where nothing that the law and all that it calls make is longer than what came in: it says more and counts as full. Else prove '..UptoSaid'. A law counts once. -/
mutual
def uptoBulk {H : Type} : DataW H → Nat
  | .lit (.string bytes) => bytes.length + 1
  | .lit _ => 1
  | .nil => 1
  | .ptr d => uptoBulk d + 1
  | .slice elems spare => uptoBulkAll elems + uptoBulkAll spare + 1
  | .agg parts => uptoBulkAll parts + 1
  | .iface _ d => uptoBulk d + 1
  | .map entries => uptoBulkEntries entries + 1
  | .held _ => 1
def uptoBulkAll {H : Type} : List (DataW H) → Nat
  | [] => 0
  | d :: r => uptoBulk d + uptoBulkAll r
def uptoBulkEntries {H : Type} : List (Lit × DataW H) → Nat
  | [] => 0
  | x :: r => uptoBulkEntry x + uptoBulkEntries r
def uptoBulkEntry {H : Type} : Lit × DataW H → Nat
  | (.string bytes, d) => bytes.length + uptoBulk d + 1
  | (_, d) => uptoBulk d + 1
 end
def uptoSmall : (H : Type) → List (DataW H) → Bool := fun _ ds => decide (uptoBulkAll ds ≤ 1048576)
def OpenSpec.upto (s : _root_.Go.ChangeSpec) : _root_.Go.OpenSpec := { _root_.Go.OpenSpec.ofChange s with cond := some uptoSmall }

/-- 'revenantlaw01.FieldExact', WHERE WHAT IT READS IS OF BULK AT MOST 1048576: true; the input reads as it did. -/
def fieldExactUptoRow : OpenClaim := { program := "ytmdncdepdnpjiaa", sum := "a136932229e3353be11ec592c04134d039894d60ef0c566aff7eac2ec8881212", func := "revenant/revenantlaw01.FieldExact", spec := "fieldExact", apart := false, narrowed := true }
def FieldExactUptoSaid : Prop := fieldExactUptoRow.holds Try.pinned (OpenSpec.upto fieldExactSpec)

/-- 'revenantlaw01.FieldTurns', WHERE WHAT IT READS IS OF BULK AT MOST 1048576: true; the input reads as it did. -/
def fieldTurnsUptoRow : OpenClaim := { program := "ytmdncdepdnpjiaa", sum := "a136932229e3353be11ec592c04134d039894d60ef0c566aff7eac2ec8881212", func := "revenant/revenantlaw01.FieldTurns", spec := "fieldTurns", apart := false, narrowed := true }
def FieldTurnsUptoSaid : Prop := fieldTurnsUptoRow.holds Try.pinned (OpenSpec.upto fieldTurnsSpec)

/-- 'revenantlaw01.FieldSigns', WHERE WHAT IT READS IS OF BULK AT MOST 1048576: true; the input reads as it did. -/
def fieldSignsUptoRow : OpenClaim := { program := "ytmdncdepdnpjiaa", sum := "a136932229e3353be11ec592c04134d039894d60ef0c566aff7eac2ec8881212", func := "revenant/revenantlaw01.FieldSigns", spec := "fieldSigns", apart := false, narrowed := true }
def FieldSignsUptoSaid : Prop := fieldSignsUptoRow.holds Try.pinned (OpenSpec.upto fieldSignsSpec)

/-- 'revenantlaw01.FieldBack', WHERE WHAT IT READS IS OF BULK AT MOST 1048576: true; the input reads as it did. -/
def fieldBackUptoRow : OpenClaim := { program := "ytmdncdepdnpjiaa", sum := "a136932229e3353be11ec592c04134d039894d60ef0c566aff7eac2ec8881212", func := "revenant/revenantlaw01.FieldBack", spec := "fieldBack", apart := false, narrowed := true }
def FieldBackUptoSaid : Prop := fieldBackUptoRow.holds Try.pinned (OpenSpec.upto fieldBackSpec)

/-- 'revenantlaw03.ConfGrows', WHERE WHAT IT READS IS OF BULK AT MOST 1048576: true; the input reads as it did. -/
def confGrowsUptoRow : OpenClaim := { program := "ytmdncdepdnpjiaa", sum := "a136932229e3353be11ec592c04134d039894d60ef0c566aff7eac2ec8881212", func := "revenant/revenantlaw03.ConfGrows", spec := "confGrows", apart := false, narrowed := true }
def ConfGrowsUptoSaid : Prop := confGrowsUptoRow.holds Try.pinned (OpenSpec.upto confGrowsSpec)

/-- 'revenantlaw12.MixExact', WHERE WHAT IT READS IS OF BULK AT MOST 1048576: true; the input reads as it did. -/
def mixExactUptoRow : OpenClaim := { program := "ytmdncdepdnpjiaa", sum := "a136932229e3353be11ec592c04134d039894d60ef0c566aff7eac2ec8881212", func := "revenant/revenantlaw12.MixExact", spec := "mixExact", apart := false, narrowed := true }
def MixExactUptoSaid : Prop := mixExactUptoRow.holds Try.pinned (OpenSpec.upto mixExactSpec)

/-- 'revenantlaw12.MixSpreads', WHERE WHAT IT READS IS OF BULK AT MOST 1048576: true; the input reads as it did. -/
def mixSpreadsUptoRow : OpenClaim := { program := "ytmdncdepdnpjiaa", sum := "a136932229e3353be11ec592c04134d039894d60ef0c566aff7eac2ec8881212", func := "revenant/revenantlaw12.MixSpreads", spec := "mixSpreads", apart := false, narrowed := true }
def MixSpreadsUptoSaid : Prop := mixSpreadsUptoRow.holds Try.pinned (OpenSpec.upto mixSpreadsSpec)

/-- 'revenantlaw12.MixBack', WHERE WHAT IT READS IS OF BULK AT MOST 1048576: true; the input reads as it did. -/
def mixBackUptoRow : OpenClaim := { program := "ytmdncdepdnpjiaa", sum := "a136932229e3353be11ec592c04134d039894d60ef0c566aff7eac2ec8881212", func := "revenant/revenantlaw12.MixBack", spec := "mixBack", apart := false, narrowed := true }
def MixBackUptoSaid : Prop := mixBackUptoRow.holds Try.pinned (OpenSpec.upto mixBackSpec)

/-- 'revenantlaw12.MixHalves', WHERE WHAT IT READS IS OF BULK AT MOST 1048576: true; the input reads as it did. -/
def mixHalvesUptoRow : OpenClaim := { program := "ytmdncdepdnpjiaa", sum := "a136932229e3353be11ec592c04134d039894d60ef0c566aff7eac2ec8881212", func := "revenant/revenantlaw12.MixHalves", spec := "mixHalves", apart := false, narrowed := true }
def MixHalvesUptoSaid : Prop := mixHalvesUptoRow.holds Try.pinned (OpenSpec.upto mixHalvesSpec)

/-- 'revenantlaw01.FieldPacks', WHERE WHAT IT READS IS OF BULK AT MOST 1048576: true; the input reads as it did. -/
def fieldPacksUptoRow : OpenClaim := { program := "ytmdncdepdnpjiaa", sum := "a136932229e3353be11ec592c04134d039894d60ef0c566aff7eac2ec8881212", func := "revenant/revenantlaw01.FieldPacks", spec := "fieldPacks", apart := false, narrowed := true }
def FieldPacksUptoSaid : Prop := fieldPacksUptoRow.holds Try.pinned (OpenSpec.upto fieldPacksSpec)

/-- 'revenantlaw01.FieldWhole', WHERE WHAT IT READS IS OF BULK AT MOST 1048576: true; the input reads as it did. -/
def fieldWholeUptoRow : OpenClaim := { program := "ytmdncdepdnpjiaa", sum := "a136932229e3353be11ec592c04134d039894d60ef0c566aff7eac2ec8881212", func := "revenant/revenantlaw01.FieldWhole", spec := "fieldWhole", apart := false, narrowed := true }
def FieldWholeUptoSaid : Prop := fieldWholeUptoRow.holds Try.pinned (OpenSpec.upto fieldWholeSpec)

/-- 'revenantlaw03.ConfExact', WHERE WHAT IT READS IS OF BULK AT MOST 1048576: true; the input reads as it did. -/
def confExactUptoRow : OpenClaim := { program := "ytmdncdepdnpjiaa", sum := "a136932229e3353be11ec592c04134d039894d60ef0c566aff7eac2ec8881212", func := "revenant/revenantlaw03.ConfExact", spec := "confExact", apart := false, narrowed := true }
def ConfExactUptoSaid : Prop := confExactUptoRow.holds Try.pinned (OpenSpec.upto confExactSpec)

/-- 'revenantlaw03.ConfOps', WHERE WHAT IT READS IS OF BULK AT MOST 1048576: true; the input reads as it did. -/
def confOpsUptoRow : OpenClaim := { program := "ytmdncdepdnpjiaa", sum := "a136932229e3353be11ec592c04134d039894d60ef0c566aff7eac2ec8881212", func := "revenant/revenantlaw03.ConfOps", spec := "confOps", apart := false, narrowed := true }
def ConfOpsUptoSaid : Prop := confOpsUptoRow.holds Try.pinned (OpenSpec.upto confOpsSpec)

end Rows
end Go.Proofs.Ytmdncdepdnpjiaa
