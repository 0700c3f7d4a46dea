import Derived.Test.YtinmmnljicmppaaDoorVWWords
/- What was taken from a world is in all that grew of it: by the classes' search, no row a step. -/
namespace Go.Proofs.YtinmmnljicmppaaDoor.PTaleApart
open Go Go.RowKit Go.Proofs.YtinmmnljicmppaaDoorW.PrintWords
class Up (a b : World) : Prop where
 blk : ∀ {g : Nat} {o : Obj}, a.heap[g]? = some o → b.heap[g]? = some o
 bel : ∀ {w : World}, Below w.heap.size w a → Below w.heap.size w b
instance (priority := low) Up.refl (a : World) : Up a a := ⟨fun h => h, fun h => h⟩
instance Up.alloc (a b : World) (o : Obj) [h : Up a b] : Up a (b.alloc o) := ⟨fun k => blk_alloc (h.blk k) o, fun k => below_alloc (h.bel k) o⟩
instance Up.drew (a b : World) [h : Up a b] : Up a b.drew := ⟨fun k => h.blk k, fun k => (h.bel k).drew⟩
instance Up.drewN (a b : World) (n : Nat) [h : Up a b] : Up a (b.drewN n) := ⟨fun k => h.blk k, fun k => pw_below_drewN (h.bel k) n⟩
theorem up {a b : World} {g : Nat} {o : Obj} (k : a.heap[g]? = some o) [h : Up a b] : b.heap[g]? = some o := h.blk k
theorem upB {a b w : World} (k : Below w.heap.size w a) [h : Up a b] : Below w.heap.size w b := h.bel k
end Go.Proofs.YtinmmnljicmppaaDoor.PTaleApart
