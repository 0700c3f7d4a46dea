/-
Of nothing there is nothing: the law answers true, whatever its arguments are.
-/
import Derived.Test.YtlpnggapndokeaaGhostAw
namespace Go.Proofs.Ytlpnggapndokeaa.PIdealKeeps
open Go Go.RowKit Go.Proofs.YtlpnggapndokeaaW.PrintWords Go.Proofs.YtlpnggapndokeaaW.PrintLast Go.Proofs.YtlpnggapndokeaaW.PrintMore Go.Proofs.Ytlpnggapndokeaa.M Go.Proofs.Ytlpnggapndokeaa.U
attribute [local go_sem] max2_int min2_int max_two min_two max_three min_three max_four min_four
set_option linter.unusedVariables false
set_option linter.unusedSimpArgs false
set_option maxHeartbeats 16000000 in
set_option maxRecDepth 100000 in
theorem nil08T (kd sl pt id x y : Int) (st : Bool) (w : World) : Calls Try.prog 9 #[.agg #[.int .i64 kd, .int .i64 sl, .int .i64 pt, .int .i64 id], .agg #[.int .u64 x, .int .i64 y, .bool st]] w fun e w' => e = .returned (.bool true) ∧ Below w.heap.size w w' := by
  have hu25 := Try.underlying25
  have hu28 := Try.underlying28
  have hu38 := Try.underlying38
  have hu23 := Try.underlying23
  have e28 := eq28
  have e38 := eq38
  have XA := Aside0.mk (blk_alloc (blk_new w (.cells #[.int .i64 kd, .int .i64 sl, .int .i64 pt, .int .i64 id] 25)) (.cells #[.int .u64 x, .int .i64 y, .bool st] 28))
  have XB := Aside0.mk (blk_new2 w (.cells #[.int .i64 kd, .int .i64 sl, .int .i64 pt, .int .i64 id] 25) (.cells #[.int .u64 x, .int .i64 y, .bool st] 28))
  have B := Aside0.mk (below_alloc (below_alloc (Below.refl w.heap.size w) (.cells #[.int .i64 kd, .int .i64 sl, .int .i64 pt, .int .i64 id] 25)) (.cells #[.int .u64 x, .int .i64 y, .bool st] 28))
  go_enter Try.func9, Try.ntmps9
  go_wp2_with fail
  generalize (w.alloc (.cells #[.int .i64 kd, .int .i64 sl, .int .i64 pt, .int .i64 id] 25)).alloc (.cells #[.int .u64 x, .int .i64 y, .bool st] 28) = w1 at *
  refine (awake08_T _).mono ?_
  rintro e w2 ⟨rfl, hb⟩
  have XA' := Aside0.mk (blk_below XA.out hb)
  have XB' := Aside0.mk (blk_below XB.out hb)
  have B' := Aside0.mk (below_step B.out hb)
  clear hb XA XB B
  have XA := XA'
  have XB := XB'
  have B := B'
  clear XA' XB' B'
  have p0 : w2.cell? ⟨w.heap.size, 0, none⟩ = some (.int .i64 kd) := (blk_cell XA.out 0).trans rfl
  have p1 : w2.cell? ⟨w.heap.size, 1, none⟩ = some (.int .i64 sl) := (blk_cell XA.out 1).trans rfl
  have p2 : w2.cell? ⟨w.heap.size, 2, none⟩ = some (.int .i64 pt) := (blk_cell XA.out 2).trans rfl
  have p3 : w2.cell? ⟨w.heap.size, 3, none⟩ = some (.int .i64 id) := (blk_cell XA.out 3).trans rfl
  have q0 : w2.cell? ⟨w.heap.size + 1, 0, none⟩ = some (.int .u64 x) := (blk_cell XB.out 0).trans rfl
  have q1 : w2.cell? ⟨w.heap.size + 1, 1, none⟩ = some (.int .i64 y) := (blk_cell XB.out 1).trans rfl
  have q2 : w2.cell? ⟨w.heap.size + 1, 2, none⟩ = some (.bool st) := (blk_cell XB.out 2).trans rfl
  go_wp2_with fail
  refine (gstoreNil_T kd sl pt id x y st _).mono ?_
  rintro e w3 ⟨rfl, hb⟩
  have XA' := Aside0.mk (blk_below XA.out hb)
  have XB' := Aside0.mk (blk_below XB.out hb)
  have B' := Aside0.mk (below_step B.out hb)
  clear hb XA XB B p0 p1 p2 p3 q0 q1 q2
  have XA := XA'
  have XB := XB'
  have B := B'
  clear XA' XB' B'
  have p0 : w3.cell? ⟨w.heap.size, 0, none⟩ = some (.int .i64 kd) := (blk_cell XA.out 0).trans rfl
  have p1 : w3.cell? ⟨w.heap.size, 1, none⟩ = some (.int .i64 sl) := (blk_cell XA.out 1).trans rfl
  have p2 : w3.cell? ⟨w.heap.size, 2, none⟩ = some (.int .i64 pt) := (blk_cell XA.out 2).trans rfl
  have p3 : w3.cell? ⟨w.heap.size, 3, none⟩ = some (.int .i64 id) := (blk_cell XA.out 3).trans rfl
  have q0 : w3.cell? ⟨w.heap.size + 1, 0, none⟩ = some (.int .u64 x) := (blk_cell XB.out 0).trans rfl
  have q1 : w3.cell? ⟨w.heap.size + 1, 1, none⟩ = some (.int .i64 y) := (blk_cell XB.out 1).trans rfl
  have q2 : w3.cell? ⟨w.heap.size + 1, 2, none⟩ = some (.bool st) := (blk_cell XB.out 2).trans rfl
  go_wp2_with fail
  refine (gloadNil_T kd sl pt id _).mono ?_
  rintro e w4 ⟨rfl, hb⟩
  have XA' := Aside0.mk (blk_below XA.out hb)
  have XB' := Aside0.mk (blk_below XB.out hb)
  have B' := Aside0.mk (below_step B.out hb)
  clear hb XA XB B p0 p1 p2 p3 q0 q1 q2
  have XA := XA'
  have XB := XB'
  have B := B'
  clear XA' XB' B'
  have p0 : w4.cell? ⟨w.heap.size, 0, none⟩ = some (.int .i64 kd) := (blk_cell XA.out 0).trans rfl
  have p1 : w4.cell? ⟨w.heap.size, 1, none⟩ = some (.int .i64 sl) := (blk_cell XA.out 1).trans rfl
  have p2 : w4.cell? ⟨w.heap.size, 2, none⟩ = some (.int .i64 pt) := (blk_cell XA.out 2).trans rfl
  have p3 : w4.cell? ⟨w.heap.size, 3, none⟩ = some (.int .i64 id) := (blk_cell XA.out 3).trans rfl
  have q0 : w4.cell? ⟨w.heap.size + 1, 0, none⟩ = some (.int .u64 x) := (blk_cell XB.out 0).trans rfl
  have q1 : w4.cell? ⟨w.heap.size + 1, 1, none⟩ = some (.int .i64 y) := (blk_cell XB.out 1).trans rfl
  have q2 : w4.cell? ⟨w.heap.size + 1, 2, none⟩ = some (.bool st) := (blk_cell XB.out 2).trans rfl
  go_wp2_with fail
  refine (gswapNil_T kd sl pt id x y x y st st _).mono ?_
  rintro e w5 ⟨rfl, hb⟩
  have XA' := Aside0.mk (blk_below XA.out hb)
  have XB' := Aside0.mk (blk_below XB.out hb)
  have B' := Aside0.mk (below_step B.out hb)
  clear hb XA XB B p0 p1 p2 p3 q0 q1 q2
  have XA := XA'
  have XB := XB'
  have B := B'
  clear XA' XB' B'
  have p0 : w5.cell? ⟨w.heap.size, 0, none⟩ = some (.int .i64 kd) := (blk_cell XA.out 0).trans rfl
  have p1 : w5.cell? ⟨w.heap.size, 1, none⟩ = some (.int .i64 sl) := (blk_cell XA.out 1).trans rfl
  have p2 : w5.cell? ⟨w.heap.size, 2, none⟩ = some (.int .i64 pt) := (blk_cell XA.out 2).trans rfl
  have p3 : w5.cell? ⟨w.heap.size, 3, none⟩ = some (.int .i64 id) := (blk_cell XA.out 3).trans rfl
  have q0 : w5.cell? ⟨w.heap.size + 1, 0, none⟩ = some (.int .u64 x) := (blk_cell XB.out 0).trans rfl
  have q1 : w5.cell? ⟨w.heap.size + 1, 1, none⟩ = some (.int .i64 y) := (blk_cell XB.out 1).trans rfl
  have q2 : w5.cell? ⟨w.heap.size + 1, 2, none⟩ = some (.bool st) := (blk_cell XB.out 2).trans rfl
  go_wp2_with fail
  refine (gaddNil_T kd sl pt id 3 _).mono ?_
  rintro e w6 ⟨rfl, hb⟩
  have XA' := Aside0.mk (blk_below XA.out hb)
  have XB' := Aside0.mk (blk_below XB.out hb)
  have B' := Aside0.mk (below_step B.out hb)
  clear hb XA XB B p0 p1 p2 p3 q0 q1 q2
  have XA := XA'
  have XB := XB'
  have B := B'
  clear XA' XB' B'
  have p0 : w6.cell? ⟨w.heap.size, 0, none⟩ = some (.int .i64 kd) := (blk_cell XA.out 0).trans rfl
  have p1 : w6.cell? ⟨w.heap.size, 1, none⟩ = some (.int .i64 sl) := (blk_cell XA.out 1).trans rfl
  have p2 : w6.cell? ⟨w.heap.size, 2, none⟩ = some (.int .i64 pt) := (blk_cell XA.out 2).trans rfl
  have p3 : w6.cell? ⟨w.heap.size, 3, none⟩ = some (.int .i64 id) := (blk_cell XA.out 3).trans rfl
  have q0 : w6.cell? ⟨w.heap.size + 1, 0, none⟩ = some (.int .u64 x) := (blk_cell XB.out 0).trans rfl
  have q1 : w6.cell? ⟨w.heap.size + 1, 1, none⟩ = some (.int .i64 y) := (blk_cell XB.out 1).trans rfl
  have q2 : w6.cell? ⟨w.heap.size + 1, 2, none⟩ = some (.bool st) := (blk_cell XB.out 2).trans rfl
  go_wp2_with fail
  refine (gbornNil_T 1 _).mono ?_
  rintro e w7 ⟨rfl, hb⟩
  have XA' := Aside0.mk (blk_below XA.out hb)
  have XB' := Aside0.mk (blk_below XB.out hb)
  have B' := Aside0.mk (below_step B.out hb)
  clear hb XA XB B p0 p1 p2 p3 q0 q1 q2
  have XA := XA'
  have XB := XB'
  have B := B'
  clear XA' XB' B'
  have p0 : w7.cell? ⟨w.heap.size, 0, none⟩ = some (.int .i64 kd) := (blk_cell XA.out 0).trans rfl
  have p1 : w7.cell? ⟨w.heap.size, 1, none⟩ = some (.int .i64 sl) := (blk_cell XA.out 1).trans rfl
  have p2 : w7.cell? ⟨w.heap.size, 2, none⟩ = some (.int .i64 pt) := (blk_cell XA.out 2).trans rfl
  have p3 : w7.cell? ⟨w.heap.size, 3, none⟩ = some (.int .i64 id) := (blk_cell XA.out 3).trans rfl
  have q0 : w7.cell? ⟨w.heap.size + 1, 0, none⟩ = some (.int .u64 x) := (blk_cell XB.out 0).trans rfl
  have q1 : w7.cell? ⟨w.heap.size + 1, 1, none⟩ = some (.int .i64 y) := (blk_cell XB.out 1).trans rfl
  have q2 : w7.cell? ⟨w.heap.size + 1, 2, none⟩ = some (.bool st) := (blk_cell XB.out 2).trans rfl
  go_wp2_with fail
  refine (gpeekNil_T kd sl pt _).mono ?_
  rintro e w8 ⟨rfl, hb⟩
  have XA' := Aside0.mk (blk_below XA.out hb)
  have XB' := Aside0.mk (blk_below XB.out hb)
  have B' := Aside0.mk (below_step B.out hb)
  clear hb XA XB B p0 p1 p2 p3 q0 q1 q2
  have XA := XA'
  have XB := XB'
  have B := B'
  clear XA' XB' B'
  have p0 : w8.cell? ⟨w.heap.size, 0, none⟩ = some (.int .i64 kd) := (blk_cell XA.out 0).trans rfl
  have p1 : w8.cell? ⟨w.heap.size, 1, none⟩ = some (.int .i64 sl) := (blk_cell XA.out 1).trans rfl
  have p2 : w8.cell? ⟨w.heap.size, 2, none⟩ = some (.int .i64 pt) := (blk_cell XA.out 2).trans rfl
  have p3 : w8.cell? ⟨w.heap.size, 3, none⟩ = some (.int .i64 id) := (blk_cell XA.out 3).trans rfl
  have q0 : w8.cell? ⟨w.heap.size + 1, 0, none⟩ = some (.int .u64 x) := (blk_cell XB.out 0).trans rfl
  have q1 : w8.cell? ⟨w.heap.size + 1, 1, none⟩ = some (.int .i64 y) := (blk_cell XB.out 1).trans rfl
  have q2 : w8.cell? ⟨w.heap.size + 1, 2, none⟩ = some (.bool st) := (blk_cell XB.out 2).trans rfl
  go_wp2_with fail
  refine (gcountNil_T _).mono ?_
  rintro e w9 ⟨rfl, hb⟩
  have XA' := Aside0.mk (blk_below XA.out hb)
  have XB' := Aside0.mk (blk_below XB.out hb)
  have B' := Aside0.mk (below_step B.out hb)
  clear hb XA XB B p0 p1 p2 p3 q0 q1 q2
  have XA := XA'
  have XB := XB'
  have B := B'
  clear XA' XB' B'
  have p0 : w9.cell? ⟨w.heap.size, 0, none⟩ = some (.int .i64 kd) := (blk_cell XA.out 0).trans rfl
  have p1 : w9.cell? ⟨w.heap.size, 1, none⟩ = some (.int .i64 sl) := (blk_cell XA.out 1).trans rfl
  have p2 : w9.cell? ⟨w.heap.size, 2, none⟩ = some (.int .i64 pt) := (blk_cell XA.out 2).trans rfl
  have p3 : w9.cell? ⟨w.heap.size, 3, none⟩ = some (.int .i64 id) := (blk_cell XA.out 3).trans rfl
  have q0 : w9.cell? ⟨w.heap.size + 1, 0, none⟩ = some (.int .u64 x) := (blk_cell XB.out 0).trans rfl
  have q1 : w9.cell? ⟨w.heap.size + 1, 1, none⟩ = some (.int .i64 y) := (blk_cell XB.out 1).trans rfl
  have q2 : w9.cell? ⟨w.heap.size + 1, 2, none⟩ = some (.bool st) := (blk_cell XB.out 2).trans rfl
  go_wp2_with fail
  refine (gcellsNil_T _).mono ?_
  rintro e w10 ⟨rfl, hb⟩
  have XA' := Aside0.mk (blk_below XA.out hb)
  have XB' := Aside0.mk (blk_below XB.out hb)
  have B' := Aside0.mk (below_step B.out hb)
  clear hb XA XB B p0 p1 p2 p3 q0 q1 q2
  have XA := XA'
  have XB := XB'
  have B := B'
  clear XA' XB' B'
  have p0 : w10.cell? ⟨w.heap.size, 0, none⟩ = some (.int .i64 kd) := (blk_cell XA.out 0).trans rfl
  have p1 : w10.cell? ⟨w.heap.size, 1, none⟩ = some (.int .i64 sl) := (blk_cell XA.out 1).trans rfl
  have p2 : w10.cell? ⟨w.heap.size, 2, none⟩ = some (.int .i64 pt) := (blk_cell XA.out 2).trans rfl
  have p3 : w10.cell? ⟨w.heap.size, 3, none⟩ = some (.int .i64 id) := (blk_cell XA.out 3).trans rfl
  have q0 : w10.cell? ⟨w.heap.size + 1, 0, none⟩ = some (.int .u64 x) := (blk_cell XB.out 0).trans rfl
  have q1 : w10.cell? ⟨w.heap.size + 1, 1, none⟩ = some (.int .i64 y) := (blk_cell XB.out 1).trans rfl
  have q2 : w10.cell? ⟨w.heap.size + 1, 2, none⟩ = some (.bool st) := (blk_cell XB.out 2).trans rfl
  go_wp2_with fail
  refine (gsoulsNil_T _).mono ?_
  rintro e w11 ⟨rfl, rfl⟩
  go_wp2_with fail
  refine (gstaleNil_T _).mono ?_
  rintro e w12 ⟨rfl, rfl⟩
  go_wp2_with fail
  refine (gfaultsNil_T _).mono ?_
  rintro e w13 ⟨rfl, rfl⟩
  go_wp2_with fail
  go_ret
  exact ⟨rfl, B.out⟩
def revenantlaw08_GhostNil.f (kd sl pt id x y : Int) (st : Bool) : Option Bool := some true
theorem revenantlaw08_GhostNil.calls (kd sl pt id x y : Int) (st : Bool) (r : Bool) (w : World) (h : revenantlaw08_GhostNil.f kd sl pt id x y st = some r) :
    Calls Try.prog 9 #[.agg #[.int .i64 kd, .int .i64 sl, .int .i64 pt, .int .i64 id], .agg #[.int .u64 x, .int .i64 y, .bool st]] w fun e w' => e = .returned (.bool r) ∧ Below w.heap.size w w' := by
  obtain rfl := Option.some.inj h
  exact nil08T kd sl pt id x y st w
theorem RGhostNil (kd sl pt id x y : Int) (st : Bool) {P Q : Prop} (_ : P) (_ : Q) : revenantlaw08_GhostNil.f kd sl pt id x y st = some true := rfl
end Go.Proofs.Ytlpnggapndokeaa.PIdealKeeps

