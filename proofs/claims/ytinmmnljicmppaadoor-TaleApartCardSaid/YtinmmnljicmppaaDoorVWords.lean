import Derived.Test.YtinmmnljicmppaaDoorVWMore
import Derived.Laws.BitsLemmas
import Derived.RowKit
/-
WORDS OF 64 BITS: numbers, words, and their bits.
-/
namespace Go.Proofs.YtinmmnljicmppaaDoor.U
open Go Go.RowKit
set_option linter.unusedVariables false
def B (x : Int) : BitVec 64 := BitVec.ofInt 64 x
def Apart (a n b m : Nat) : Prop := a + n ≤ b ∨ b + m ≤ a
instance (a n b m : Nat) : Decidable (Apart a n b m) := by unfold Apart; exact inferInstance
open Go.Proofs.YtinmmnljicmppaaDoorW.PrintWords Go.Proofs.YtinmmnljicmppaaDoorW.PrintMore
theorem bsome {α β : Type} (a : α) (f : α → Option β) : (some a).bind f = f a := by rw [Option.bind_some]
theorem wf_u64 {x : Int} : (Lit.int .u64 x).wf = true ↔ 0 ≤ x ∧ x < 18446744073709551616 := by
 simp [Lit.wf, IntKind.min, IntKind.max, IntKind.signed, IntKind.bits]; omega
theorem wf_i64 {x : Int} : (Lit.int .i64 x).wf = true ↔ -9223372036854775808 ≤ x ∧ x < 9223372036854775808 := by
 simp [Lit.wf, IntKind.min, IntKind.max, IntKind.signed, IntKind.bits]; omega
theorem w64 {x : Int} (h0 : -9223372036854775808 ≤ x) (h1 : x < 9223372036854775808) : wrap64 x = x := by unfold wrap64; omega
end Go.Proofs.YtinmmnljicmppaaDoor.U
