import Derived.Test.YtinmmnljicmppaaDoorVTaleM
import Derived.Test.YtinmmnljicmppaaDoorVTaleL
/-
What has been read of a script: the reader's state.
-/
namespace Go.Proofs.YtinmmnljicmppaaDoor.PTaleApart
open Go Go.RowKit Go.Proofs.YtinmmnljicmppaaDoorW.PrintWords Go.Proofs.YtinmmnljicmppaaDoorW.PrintLast Go.Proofs.YtinmmnljicmppaaDoorW.PrintMore Go.Proofs.YtinmmnljicmppaaDoor.Str
set_option linter.unusedVariables false
set_option linter.unusedSimpArgs false
structure RS where
 a : Int
 b : Int
 c : Int
 d : Int
 e : Int
 ops : List (List S33)
 picks : List Int
 full : Bool
 done : Bool
def RS.none : RS := ⟨0, 0, 0, 0, 0, [], [], false, false⟩
def growL (l : List (List S33)) (n : Nat) : List (List S33) := l ++ List.replicate (n - l.length) []
theorem growL_len (l : List (List S33)) (n : Nat) : (growL l n).length = max l.length n := by unfold growL; simp; omega
theorem growL_id (l : List (List S33)) (n : Nat) (h : n ≤ l.length) : growL l n = l := by unfold growL; rw [show n - l.length = 0 by omega]; simp
theorem growL_step (l : List (List S33)) (n : Nat) (h : l.length < n) : growL l n = growL (l ++ [[]]) n := by
 unfold growL
 rw [show n - l.length = (n - (l ++ [[]]).length) + 1 by simp; omega, List.replicate_succ]
 simp
def RS.opS (s : RS) (line : ByteArray) : RS × Bool :=
 let r := readOpV s.a s.b s.c s.d s.e line
 if r.2.2.2.2.2 ≠ 0 ∨ s.full = true ∨ r.1 < (s.ops.length : Int) - 1 then (s, false)
 else if ((growL s.ops (r.1 + 1).toNat).getD r.1.toNat []).length = 64 then ({ s with ops := growL s.ops (r.1 + 1).toNat }, false)
 else ({ s with ops := (growL s.ops (r.1 + 1).toNat).set r.1.toNat ((growL s.ops (r.1 + 1).toNat).getD r.1.toNat [] ++ [⟨r.2.1, r.2.2.1, r.2.2.2.1, r.2.2.2.2.1⟩]) }, true)
def RS.countS (s : RS) (n : Int) : RS × Bool :=
 if n ≤ (s.ops.length : Int) ∨ 64 < n ∨ s.full = true then (s, false) else ({ s with ops := growL s.ops n.toNat, full := true }, true)
end Go.Proofs.YtinmmnljicmppaaDoor.PTaleApart
