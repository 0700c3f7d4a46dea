/-
  No cell of these rows narrows 'for every input' (looked for: loops, veiled, ifaces, maps, wideKeys, modest, calm, conditions, laid).
  DERIVED. THE GIVEN ROWS OF THIS SEAT. 12 by the template 'for every input the law returns true; each argument reads behind the call as it read before'; 0 by the template 'total and deterministic' (their statements: YtlpnggapndokeaaTotals.lean).
  GIVEN WITH THE SEED: the statements are not yours to turn. If you find one false, say at which input.
  Laid BY PROGRAM, IN A SANDBOX (cutbox-rows.mjs): the forced cells as the released guide's own fill.sh prints them over the translation 846ecc0e572868a9… (all of the seat's roots in one cut). By AI agents, Wed Nov 11 2026. No macro, syntax, notation, axiom, sorry.
-/
import Derived.Test.YtlpnggapndokeaaChecked
import GoSem.Claim
import GoSem.ClaimJoined
import GoSem.ClaimMapViews
import Derived.JoinedTies
import Derived.KernelRfl
namespace Go.Proofs.Ytlpnggapndokeaa
/- THE CELL 'sum', in the pinned program and in every row, IS THE sha256 OF THE DUMP (.gsa) THAT YtlpnggapndokeaaProg.lean LOADS. Nothing in Lean hashes anything: it is a label: what it is worth is what the hold of that sum in a sandbox is worth. -/
noncomputable def Try.pinned : Pinned := { name := "ytlpnggapndokeaa", sum := "846ecc0e572868a9b801cad5d447561ff0eb03e93ed4babf4ee5a9cde84d62dc", checked := Try.checked }
namespace Rows
def none {H : Type} : Left H := { results := [], args := [] }

/-- 'revenantlaw09.IdealNil': WHATEVER THE INPUT: true; the input reads as it did. -/
def idealNilSpec : ChangeSpec := { name := "idealNil", fn := fun _ => fun
  | [d1, d2] => { results := [.lit (.bool true)], args := [d1, d2] }
  | _ => none }
def idealNilRow : OpenClaim := { program := "ytlpnggapndokeaa", sum := "846ecc0e572868a9b801cad5d447561ff0eb03e93ed4babf4ee5a9cde84d62dc", func := "revenant/revenantlaw09.IdealNil", spec := "idealNil", plainKeys := false, apart := false }
def IdealNilSaid : Prop := idealNilRow.holds Try.pinned (OpenSpec.ofChange idealNilSpec)

/-- ITS FALSE NEIGHBOUR: 'it returns false'. Refute it at one input. -/
def idealNilWrong : ChangeSpec := { name := "idealNil", fn := fun _ => fun
  | [d1, d2] => { results := [.lit (.bool false)], args := [d1, d2] }
  | _ => none }
def IdealNilWrongFalsely : Prop := idealNilRow.holds Try.pinned (OpenSpec.ofChange idealNilWrong)

/-- 'revenantlaw09.IdealKeeps': WHATEVER THE INPUT: true; the input reads as it did. -/
def idealKeepsSpec : ChangeSpec := { name := "idealKeeps", fn := fun _ => fun
  | [d1, d2, d3, d4] => { results := [.lit (.bool true)], args := [d1, d2, d3, d4] }
  | _ => none }
def idealKeepsRow : OpenClaim := { program := "ytlpnggapndokeaa", sum := "846ecc0e572868a9b801cad5d447561ff0eb03e93ed4babf4ee5a9cde84d62dc", func := "revenant/revenantlaw09.IdealKeeps", spec := "idealKeeps", plainKeys := false, apart := false }
def IdealKeepsSaid : Prop := idealKeepsRow.holds Try.pinned (OpenSpec.ofChange idealKeepsSpec)

/-- ITS FALSE NEIGHBOUR: 'it returns false'. Refute it at one input. -/
def idealKeepsWrong : ChangeSpec := { name := "idealKeeps", fn := fun _ => fun
  | [d1, d2, d3, d4] => { results := [.lit (.bool false)], args := [d1, d2, d3, d4] }
  | _ => none }
def IdealKeepsWrongFalsely : Prop := idealKeepsRow.holds Try.pinned (OpenSpec.ofChange idealKeepsWrong)

/-- 'revenantlaw09.IdealExact': WHATEVER THE INPUT: true; the input reads as it did. -/
def idealExactSpec : ChangeSpec := { name := "idealExact", fn := fun _ => fun
  | [d] => { results := [.lit (.bool true)], args := [d] }
  | _ => none }
def idealExactRow : OpenClaim := { program := "ytlpnggapndokeaa", sum := "846ecc0e572868a9b801cad5d447561ff0eb03e93ed4babf4ee5a9cde84d62dc", func := "revenant/revenantlaw09.IdealExact", spec := "idealExact", plainKeys := false, apart := false }
def IdealExactSaid : Prop := idealExactRow.holds Try.pinned (OpenSpec.ofChange idealExactSpec)

/-- ITS FALSE NEIGHBOUR: 'it returns false'. Refute it at one input. -/
def idealExactWrong : ChangeSpec := { name := "idealExact", fn := fun _ => fun
  | [d] => { results := [.lit (.bool false)], args := [d] }
  | _ => none }
def IdealExactWrongFalsely : Prop := idealExactRow.holds Try.pinned (OpenSpec.ofChange idealExactWrong)

/-- 'revenantlaw09.IdealPlain': WHATEVER THE INPUT: true; the input reads as it did. -/
def idealPlainSpec : ChangeSpec := { name := "idealPlain", fn := fun _ => fun
  | [d] => { results := [.lit (.bool true)], args := [d] }
  | _ => none }
def idealPlainRow : OpenClaim := { program := "ytlpnggapndokeaa", sum := "846ecc0e572868a9b801cad5d447561ff0eb03e93ed4babf4ee5a9cde84d62dc", func := "revenant/revenantlaw09.IdealPlain", spec := "idealPlain", plainKeys := false, apart := false }
def IdealPlainSaid : Prop := idealPlainRow.holds Try.pinned (OpenSpec.ofChange idealPlainSpec)

/-- ITS FALSE NEIGHBOUR: 'it returns false'. Refute it at one input. -/
def idealPlainWrong : ChangeSpec := { name := "idealPlain", fn := fun _ => fun
  | [d] => { results := [.lit (.bool false)], args := [d] }
  | _ => none }
def IdealPlainWrongFalsely : Prop := idealPlainRow.holds Try.pinned (OpenSpec.ofChange idealPlainWrong)

/-- 'revenantlaw08.GhostFresh': WHATEVER THE INPUT: true; the input reads as it did. -/
def ghostFreshSpec : ChangeSpec := { name := "ghostFresh", fn := fun _ => fun
  | [d1, d2, d3] => { results := [.lit (.bool true)], args := [d1, d2, d3] }
  | _ => none }
def ghostFreshRow : OpenClaim := { program := "ytlpnggapndokeaa", sum := "846ecc0e572868a9b801cad5d447561ff0eb03e93ed4babf4ee5a9cde84d62dc", func := "revenant/revenantlaw08.GhostFresh", spec := "ghostFresh", plainKeys := false, apart := false }
def GhostFreshSaid : Prop := ghostFreshRow.holds Try.pinned (OpenSpec.ofChange ghostFreshSpec)

/-- ITS FALSE NEIGHBOUR: 'it returns false'. Refute it at one input. -/
def ghostFreshWrong : ChangeSpec := { name := "ghostFresh", fn := fun _ => fun
  | [d1, d2, d3] => { results := [.lit (.bool false)], args := [d1, d2, d3] }
  | _ => none }
def GhostFreshWrongFalsely : Prop := ghostFreshRow.holds Try.pinned (OpenSpec.ofChange ghostFreshWrong)

/-- 'revenantlaw08.GhostExact': WHATEVER THE INPUT: true; the input reads as it did. -/
def ghostExactSpec : ChangeSpec := { name := "ghostExact", fn := fun _ => fun
  | [d] => { results := [.lit (.bool true)], args := [d] }
  | _ => none }
def ghostExactRow : OpenClaim := { program := "ytlpnggapndokeaa", sum := "846ecc0e572868a9b801cad5d447561ff0eb03e93ed4babf4ee5a9cde84d62dc", func := "revenant/revenantlaw08.GhostExact", spec := "ghostExact", plainKeys := false, apart := false }
def GhostExactSaid : Prop := ghostExactRow.holds Try.pinned (OpenSpec.ofChange ghostExactSpec)

/-- ITS FALSE NEIGHBOUR: 'it returns false'. Refute it at one input. -/
def ghostExactWrong : ChangeSpec := { name := "ghostExact", fn := fun _ => fun
  | [d] => { results := [.lit (.bool false)], args := [d] }
  | _ => none }
def GhostExactWrongFalsely : Prop := ghostExactRow.holds Try.pinned (OpenSpec.ofChange ghostExactWrong)

/-- 'revenantlaw08.GhostNil': WHATEVER THE INPUT: true; the input reads as it did. -/
def ghostNilSpec : ChangeSpec := { name := "ghostNil", fn := fun _ => fun
  | [d1, d2] => { results := [.lit (.bool true)], args := [d1, d2] }
  | _ => none }
def ghostNilRow : OpenClaim := { program := "ytlpnggapndokeaa", sum := "846ecc0e572868a9b801cad5d447561ff0eb03e93ed4babf4ee5a9cde84d62dc", func := "revenant/revenantlaw08.GhostNil", spec := "ghostNil", inPlace := ["maps.clone"], plainKeys := false, apart := false }
def GhostNilSaid : Prop := ghostNilRow.holds Try.pinned (OpenSpec.ofChange ghostNilSpec)

/-- ITS FALSE NEIGHBOUR: 'it returns false'. Refute it at one input. -/
def ghostNilWrong : ChangeSpec := { name := "ghostNil", fn := fun _ => fun
  | [d1, d2] => { results := [.lit (.bool false)], args := [d1, d2] }
  | _ => none }
def GhostNilWrongFalsely : Prop := ghostNilRow.holds Try.pinned (OpenSpec.ofChange ghostNilWrong)

/-- 'revenantlaw08.GhostErased': WHATEVER THE INPUT: true; the input reads as it did. -/
def ghostErasedSpec : ChangeSpec := { name := "ghostErased", fn := fun _ => fun
  | [d] => { results := [.lit (.bool true)], args := [d] }
  | _ => none }
def ghostErasedRow : OpenClaim := { program := "ytlpnggapndokeaa", sum := "846ecc0e572868a9b801cad5d447561ff0eb03e93ed4babf4ee5a9cde84d62dc", func := "revenant/revenantlaw08.GhostErased", spec := "ghostErased", inPlace := ["maps.clone"], plainKeys := false, apart := false }
def GhostErasedSaid : Prop := ghostErasedRow.holds Try.pinned (OpenSpec.ofChange ghostErasedSpec)

/-- ITS FALSE NEIGHBOUR: 'it returns false'. Refute it at one input. -/
def ghostErasedWrong : ChangeSpec := { name := "ghostErased", fn := fun _ => fun
  | [d] => { results := [.lit (.bool false)], args := [d] }
  | _ => none }
def GhostErasedWrongFalsely : Prop := ghostErasedRow.holds Try.pinned (OpenSpec.ofChange ghostErasedWrong)

/-- 'revenantlaw10.ShadeExact': WHATEVER THE INPUT: true; the input reads as it did. -/
def shadeExactSpec : ChangeSpec := { name := "shadeExact", fn := fun _ => fun
  | [d1, d2] => { results := [.lit (.bool true)], args := [d1, d2] }
  | _ => none }
def shadeExactRow : OpenClaim := { program := "ytlpnggapndokeaa", sum := "846ecc0e572868a9b801cad5d447561ff0eb03e93ed4babf4ee5a9cde84d62dc", func := "revenant/revenantlaw10.ShadeExact", spec := "shadeExact", inPlace := ["maps.clone"], plainKeys := false, apart := false }
def ShadeExactSaid : Prop := shadeExactRow.holds Try.pinned (OpenSpec.ofChange shadeExactSpec)

/-- ITS FALSE NEIGHBOUR: 'it returns false'. Refute it at one input. -/
def shadeExactWrong : ChangeSpec := { name := "shadeExact", fn := fun _ => fun
  | [d1, d2] => { results := [.lit (.bool false)], args := [d1, d2] }
  | _ => none }
def ShadeExactWrongFalsely : Prop := shadeExactRow.holds Try.pinned (OpenSpec.ofChange shadeExactWrong)

/-- 'revenantlaw10.ShadeGhost': WHATEVER THE INPUT: true; the input reads as it did. -/
def shadeGhostSpec : ChangeSpec := { name := "shadeGhost", fn := fun _ => fun
  | [d1, d2] => { results := [.lit (.bool true)], args := [d1, d2] }
  | _ => none }
def shadeGhostRow : OpenClaim := { program := "ytlpnggapndokeaa", sum := "846ecc0e572868a9b801cad5d447561ff0eb03e93ed4babf4ee5a9cde84d62dc", func := "revenant/revenantlaw10.ShadeGhost", spec := "shadeGhost", inPlace := ["maps.clone"], plainKeys := false, apart := false }
def ShadeGhostSaid : Prop := shadeGhostRow.holds Try.pinned (OpenSpec.ofChange shadeGhostSpec)

/-- ITS FALSE NEIGHBOUR: 'it returns false'. Refute it at one input. -/
def shadeGhostWrong : ChangeSpec := { name := "shadeGhost", fn := fun _ => fun
  | [d1, d2] => { results := [.lit (.bool false)], args := [d1, d2] }
  | _ => none }
def ShadeGhostWrongFalsely : Prop := shadeGhostRow.holds Try.pinned (OpenSpec.ofChange shadeGhostWrong)

/-- 'revenantlaw06.SoulExact': WHATEVER THE INPUT: true; the input reads as it did. -/
def soulExactSpec : ChangeSpec := { name := "soulExact", fn := fun _ => fun
  | [d1, d2, d3] => { results := [.lit (.bool true)], args := [d1, d2, d3] }
  | _ => none }
def soulExactRow : OpenClaim := { program := "ytlpnggapndokeaa", sum := "846ecc0e572868a9b801cad5d447561ff0eb03e93ed4babf4ee5a9cde84d62dc", func := "revenant/revenantlaw06.SoulExact", spec := "soulExact", unfollowed := true, recurses := true, plainKeys := false, apart := false }
def SoulExactSaid : Prop := soulExactRow.holds Try.pinned (OpenSpec.ofChange soulExactSpec)

/-- ITS FALSE NEIGHBOUR: 'it returns false'. Refute it at one input. -/
def soulExactWrong : ChangeSpec := { name := "soulExact", fn := fun _ => fun
  | [d1, d2, d3] => { results := [.lit (.bool false)], args := [d1, d2, d3] }
  | _ => none }
def SoulExactWrongFalsely : Prop := soulExactRow.holds Try.pinned (OpenSpec.ofChange soulExactWrong)

/-- 'revenantlaw06.SoulNever': WHATEVER THE INPUT: true; the input reads as it did. -/
def soulNeverSpec : ChangeSpec := { name := "soulNever", fn := fun _ => fun
  | [d1, d2] => { results := [.lit (.bool true)], args := [d1, d2] }
  | _ => none }
def soulNeverRow : OpenClaim := { program := "ytlpnggapndokeaa", sum := "846ecc0e572868a9b801cad5d447561ff0eb03e93ed4babf4ee5a9cde84d62dc", func := "revenant/revenantlaw06.SoulNever", spec := "soulNever", unfollowed := true, recurses := true, plainKeys := false, apart := false }
def SoulNeverSaid : Prop := soulNeverRow.holds Try.pinned (OpenSpec.ofChange soulNeverSpec)

/-- ITS FALSE NEIGHBOUR: 'it returns false'. Refute it at one input. -/
def soulNeverWrong : ChangeSpec := { name := "soulNever", fn := fun _ => fun
  | [d1, d2] => { results := [.lit (.bool false)], args := [d1, d2] }
  | _ => none }
def SoulNeverWrongFalsely : Prop := soulNeverRow.holds Try.pinned (OpenSpec.ofChange soulNeverWrong)

/- THE SECOND FORM. 'bulk': how many values and letters a reading holds, each counted each time it is reached (what is shared counts as often as it is met; a slice's spare places count too). A statement '..UptoSaid' is the law's where the arguments, and the package variables that the reading takes, are together of bulk at most 1048576: NARROWER than '..Said'. Prove '..Said' where nothing that the law and all that it calls make is longer than what came in: it says more and counts as full. Else prove '..UptoSaid'. A law counts once. -/
mutual
def uptoBulk {H : Type} : DataW H → Nat
  | .lit (.string bytes) => bytes.length + 1
  | .lit _ => 1
  | .nil => 1
  | .ptr d => uptoBulk d + 1
  | .slice elems spare => uptoBulkAll elems + uptoBulkAll spare + 1
  | .agg parts => uptoBulkAll parts + 1
  | .iface _ d => uptoBulk d + 1
  | .map entries => uptoBulkEntries entries + 1
  | .held _ => 1
def uptoBulkAll {H : Type} : List (DataW H) → Nat
  | [] => 0
  | d :: r => uptoBulk d + uptoBulkAll r
def uptoBulkEntries {H : Type} : List (Lit × DataW H) → Nat
  | [] => 0
  | x :: r => uptoBulkEntry x + uptoBulkEntries r
def uptoBulkEntry {H : Type} : Lit × DataW H → Nat
  | (.string bytes, d) => bytes.length + uptoBulk d + 1
  | (_, d) => uptoBulk d + 1
 end
def uptoSmall : (H : Type) → List (DataW H) → Bool := fun _ ds => decide (uptoBulkAll ds ≤ 1048576)
def OpenSpec.upto (s : _root_.Go.ChangeSpec) : _root_.Go.OpenSpec := { _root_.Go.OpenSpec.ofChange s with cond := some uptoSmall }

/-- 'revenantlaw09.IdealNil', WHERE WHAT IT READS IS OF BULK AT MOST 1048576: true; the input reads as it did. -/
def idealNilUptoRow : OpenClaim := { program := "ytlpnggapndokeaa", sum := "846ecc0e572868a9b801cad5d447561ff0eb03e93ed4babf4ee5a9cde84d62dc", func := "revenant/revenantlaw09.IdealNil", spec := "idealNil", plainKeys := false, apart := false, narrowed := true }
def IdealNilUptoSaid : Prop := idealNilUptoRow.holds Try.pinned (OpenSpec.upto idealNilSpec)

/-- 'revenantlaw09.IdealKeeps', WHERE WHAT IT READS IS OF BULK AT MOST 1048576: true; the input reads as it did. -/
def idealKeepsUptoRow : OpenClaim := { program := "ytlpnggapndokeaa", sum := "846ecc0e572868a9b801cad5d447561ff0eb03e93ed4babf4ee5a9cde84d62dc", func := "revenant/revenantlaw09.IdealKeeps", spec := "idealKeeps", plainKeys := false, apart := false, narrowed := true }
def IdealKeepsUptoSaid : Prop := idealKeepsUptoRow.holds Try.pinned (OpenSpec.upto idealKeepsSpec)

/-- 'revenantlaw09.IdealExact', WHERE WHAT IT READS IS OF BULK AT MOST 1048576: true; the input reads as it did. -/
def idealExactUptoRow : OpenClaim := { program := "ytlpnggapndokeaa", sum := "846ecc0e572868a9b801cad5d447561ff0eb03e93ed4babf4ee5a9cde84d62dc", func := "revenant/revenantlaw09.IdealExact", spec := "idealExact", plainKeys := false, apart := false, narrowed := true }
def IdealExactUptoSaid : Prop := idealExactUptoRow.holds Try.pinned (OpenSpec.upto idealExactSpec)

/-- 'revenantlaw09.IdealPlain', WHERE WHAT IT READS IS OF BULK AT MOST 1048576: true; the input reads as it did. -/
def idealPlainUptoRow : OpenClaim := { program := "ytlpnggapndokeaa", sum := "846ecc0e572868a9b801cad5d447561ff0eb03e93ed4babf4ee5a9cde84d62dc", func := "revenant/revenantlaw09.IdealPlain", spec := "idealPlain", plainKeys := false, apart := false, narrowed := true }
def IdealPlainUptoSaid : Prop := idealPlainUptoRow.holds Try.pinned (OpenSpec.upto idealPlainSpec)

/-- 'revenantlaw08.GhostFresh', WHERE WHAT IT READS IS OF BULK AT MOST 1048576: true; the input reads as it did. -/
def ghostFreshUptoRow : OpenClaim := { program := "ytlpnggapndokeaa", sum := "846ecc0e572868a9b801cad5d447561ff0eb03e93ed4babf4ee5a9cde84d62dc", func := "revenant/revenantlaw08.GhostFresh", spec := "ghostFresh", plainKeys := false, apart := false, narrowed := true }
def GhostFreshUptoSaid : Prop := ghostFreshUptoRow.holds Try.pinned (OpenSpec.upto ghostFreshSpec)

/-- 'revenantlaw08.GhostExact', WHERE WHAT IT READS IS OF BULK AT MOST 1048576: true; the input reads as it did. -/
def ghostExactUptoRow : OpenClaim := { program := "ytlpnggapndokeaa", sum := "846ecc0e572868a9b801cad5d447561ff0eb03e93ed4babf4ee5a9cde84d62dc", func := "revenant/revenantlaw08.GhostExact", spec := "ghostExact", plainKeys := false, apart := false, narrowed := true }
def GhostExactUptoSaid : Prop := ghostExactUptoRow.holds Try.pinned (OpenSpec.upto ghostExactSpec)

/-- 'revenantlaw08.GhostNil', WHERE WHAT IT READS IS OF BULK AT MOST 1048576: true; the input reads as it did. -/
def ghostNilUptoRow : OpenClaim := { program := "ytlpnggapndokeaa", sum := "846ecc0e572868a9b801cad5d447561ff0eb03e93ed4babf4ee5a9cde84d62dc", func := "revenant/revenantlaw08.GhostNil", spec := "ghostNil", inPlace := ["maps.clone"], plainKeys := false, apart := false, narrowed := true }
def GhostNilUptoSaid : Prop := ghostNilUptoRow.holds Try.pinned (OpenSpec.upto ghostNilSpec)

/-- 'revenantlaw08.GhostErased', WHERE WHAT IT READS IS OF BULK AT MOST 1048576: true; the input reads as it did. -/
def ghostErasedUptoRow : OpenClaim := { program := "ytlpnggapndokeaa", sum := "846ecc0e572868a9b801cad5d447561ff0eb03e93ed4babf4ee5a9cde84d62dc", func := "revenant/revenantlaw08.GhostErased", spec := "ghostErased", inPlace := ["maps.clone"], plainKeys := false, apart := false, narrowed := true }
def GhostErasedUptoSaid : Prop := ghostErasedUptoRow.holds Try.pinned (OpenSpec.upto ghostErasedSpec)

/-- 'revenantlaw10.ShadeExact', WHERE WHAT IT READS IS OF BULK AT MOST 1048576: true; the input reads as it did. -/
def shadeExactUptoRow : OpenClaim := { program := "ytlpnggapndokeaa", sum := "846ecc0e572868a9b801cad5d447561ff0eb03e93ed4babf4ee5a9cde84d62dc", func := "revenant/revenantlaw10.ShadeExact", spec := "shadeExact", inPlace := ["maps.clone"], plainKeys := false, apart := false, narrowed := true }
def ShadeExactUptoSaid : Prop := shadeExactUptoRow.holds Try.pinned (OpenSpec.upto shadeExactSpec)

/-- 'revenantlaw10.ShadeGhost', WHERE WHAT IT READS IS OF BULK AT MOST 1048576: true; the input reads as it did. -/
def shadeGhostUptoRow : OpenClaim := { program := "ytlpnggapndokeaa", sum := "846ecc0e572868a9b801cad5d447561ff0eb03e93ed4babf4ee5a9cde84d62dc", func := "revenant/revenantlaw10.ShadeGhost", spec := "shadeGhost", inPlace := ["maps.clone"], plainKeys := false, apart := false, narrowed := true }
def ShadeGhostUptoSaid : Prop := shadeGhostUptoRow.holds Try.pinned (OpenSpec.upto shadeGhostSpec)

/-- 'revenantlaw06.SoulExact', WHERE WHAT IT READS IS OF BULK AT MOST 1048576: true; the input reads as it did. -/
def soulExactUptoRow : OpenClaim := { program := "ytlpnggapndokeaa", sum := "846ecc0e572868a9b801cad5d447561ff0eb03e93ed4babf4ee5a9cde84d62dc", func := "revenant/revenantlaw06.SoulExact", spec := "soulExact", unfollowed := true, recurses := true, plainKeys := false, apart := false, narrowed := true }
def SoulExactUptoSaid : Prop := soulExactUptoRow.holds Try.pinned (OpenSpec.upto soulExactSpec)

/-- 'revenantlaw06.SoulNever', WHERE WHAT IT READS IS OF BULK AT MOST 1048576: true; the input reads as it did. -/
def soulNeverUptoRow : OpenClaim := { program := "ytlpnggapndokeaa", sum := "846ecc0e572868a9b801cad5d447561ff0eb03e93ed4babf4ee5a9cde84d62dc", func := "revenant/revenantlaw06.SoulNever", spec := "soulNever", unfollowed := true, recurses := true, plainKeys := false, apart := false, narrowed := true }
def SoulNeverUptoSaid : Prop := soulNeverUptoRow.holds Try.pinned (OpenSpec.upto soulNeverSpec)

end Rows
end Go.Proofs.Ytlpnggapndokeaa
