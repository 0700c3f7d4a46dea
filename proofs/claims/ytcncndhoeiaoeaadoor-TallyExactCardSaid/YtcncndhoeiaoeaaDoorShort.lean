/-
A walk of a region in short lemmas.
-/
import Derived.Test.YtcncndhoeiaoeaaDoorWMore
namespace Go.Proofs.YtcncndhoeiaoeaaDoor.PTallyExact
open Go Go.RowKit Go.Proofs.YtcncndhoeiaoeaaDoorW.PrintWords Go.Proofs.YtcncndhoeiaoeaaDoorW.PrintLast Go.Proofs.YtcncndhoeiaoeaaDoorW.PrintMore
def lbL : Nat → Nat → List Bool
  | 0, _ => []
  | n + 1, k => Nat.beq (k % 2) 1 :: lbL n (k / 2)
/-- Which of n operations have come up: the bits of k. -/
def lb (n k : Nat) : Array Bool := (lbL n k).toArray
section
variable {P : Program} {ops : Array Oper} {Q : Exit → Act → World → Prop} {md : Region.Mode} {S : World → Prop} {ds : List Nat}
/-- One operation of a region that yields in every world. -/
theorem pS {oi : Oper} {v : Value} {fuel : Nat} {l : Array Bool} {a : Act} {w : World} (i : Nat) (N' : Option Tmp) (l' : Array Bool) (hi : ops[i]? = some oi) (hN : oi.dst = N') (hc : anyB md ops l l' i = true)
    (hQ : ∀ c a w, Q (.panic c) (a.put oi.dst v) w → Q (.panic c) a w) (hw : Region.wanted oi (yielded ops a.tmps) = true) (hr : ∀ w', (execOp a.eval oi).run P w' = .ok (.value v) w') {a' : Act} (ha : a.put N' v = a')
    (h : wpAnyLast P md ops Q S ds fuel l' a' w) : wpAnyLast P md ops Q S ds (fuel + 1) l a w := pure_ l' hi hN hc hQ (Or.inl ⟨hw, hr⟩) ha h
/-- One that is not carried out. -/
theorem pO {oi : Oper} {fuel : Nat} {l : Array Bool} {a a' : Act} {w : World} (i : Nat) (N' : Option Tmp) (l' : Array Bool) (hi : ops[i]? = some oi) (hN : oi.dst = N') (hc : anyB md ops l l' i = true)
    (hQ : ∀ c a w, Q (.panic c) (a.put oi.dst undef) w → Q (.panic c) a w) (hw : Region.wanted oi (yielded ops a.tmps) = false) (ha : a.put N' undef = a')
    (h : wpAnyLast P md ops Q S ds fuel l' a' w) : wpAnyLast P md ops Q S ds (fuel + 1) l a w := pure_ l' hi hN hc hQ (Or.inr ⟨hw, rfl⟩) ha h
/-- One that reads. -/
theorem tS {oi : Oper} {v : Value} {fuel : Nat} {l : Array Bool} {a : Act} {w : World} (i : Nat) (N' : Option Tmp) (l' : Array Bool) (hi : ops[i]? = some oi) (hN : oi.dst = N') (hc : takeB md ops ds l l' i = true)
    (hQ : ∀ c a w, Q (.panic c) (a.put oi.dst v) w → Q (.panic c) a w) (hS : S w) (hw : Region.wanted oi (yielded ops a.tmps) = true) (hr : ∀ w', S w' → (execOp a.eval oi).run P w' = .ok (.value v) w') {a' : Act} (ha : a.put N' v = a')
    (h : wpAnyLast P md ops Q S ds fuel l' a' w) : wpAnyLast P md ops Q S ds (fuel + 1) l a w := take_ l' hi hN hc hQ (Or.inl ⟨hw, hr⟩) hS ha h
end
end Go.Proofs.YtcncndhoeiaoeaaDoor.PTallyExact

