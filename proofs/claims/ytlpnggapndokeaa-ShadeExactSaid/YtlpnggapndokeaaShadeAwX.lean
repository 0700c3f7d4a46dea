/-
awake of layer 10 answers true.
-/
import Derived.Test.YtlpnggapndokeaaShadeBX
import Derived.Test.YtlpnggapndokeaaShadeKinds
import Derived.Test.YtlpnggapndokeaaIdealAw
namespace Go.Proofs.Ytlpnggapndokeaa.PIdealKeeps
open Go Go.RowKit Go.Proofs.YtlpnggapndokeaaW.PrintWords Go.Proofs.YtlpnggapndokeaaW.PrintLast Go.Proofs.YtlpnggapndokeaaW.PrintMore Go.Proofs.Ytlpnggapndokeaa.M Go.Proofs.Ytlpnggapndokeaa.U
attribute [local go_sem] max2_int min2_int max_two min_two max_three min_three max_four min_four
set_option linter.unusedVariables false
set_option linter.unusedSimpArgs false
set_option maxHeartbeats 16000000 in
set_option maxRecDepth 100000 in
theorem awake10_T (w : World) : Calls Try.prog 54 #[] w fun e w' => e = .returned (.bool true) ∧ Below w.heap.size w w' := by
  have hu25 := Try.underlying25
  have hu28 := Try.underlying28
  have hu23 := Try.underlying23
  have hu82 := Try.underlying82
  have e28 := eq28
  have hR : (Kd.int .u64).R 26 (w.alloc (.cells #[.int .u64 7, .int .u64 8] 26)) w.heap.size (fun _ => True) (.slice (some ⟨w.heap.size, 0, none⟩) 2 2) [7, 8] := Kd.R_of_own (enc := Value.int .u64) (xs := [7, 8]) (World.ownsRow_lit (base := w.heap.size) (e := 26) (size := 1) w #[.int .u64 7, .int .u64 8] 2 (Nat.le_refl _) (by decide) rfl) (fun _ _ => trivial)
  have HR := Aside0.mk (Kd.R_reads' hR).2.2
  have B0 := Aside0.mk (below_alloc (Below.refl w.heap.size w) (.cells #[.int .u64 7, .int .u64 8] 26))
  clear hR
  go_enter Try.func54, Try.ntmps54
  go_wp2_with fail
  refine (snew_T (some ⟨w.heap.size, 0, none⟩) 2 [7, 8] _ HR.out (by decide) (by decide)).mono ?_
  rintro e w1 ⟨gh, gg, gp, gc, gm, gl, gs, g3, sv, rfl, h1, h2⟩
  have I := Aside0.mk (h1.rebase (w0 := w) B0.out.size)
  have B := Aside0.mk (below_step B0.out h2)
  clear h1 h2 B0 HR
  go_wp2_with fail
  refine (place_Of.calls 1 3 5 1 3 w1 rfl).mono ?_
  rintro e w2 ⟨rfl, hb⟩
  have In := Aside0.mk (I.out.below hb)
  have Bn := Aside0.mk (below_step B.out hb)
  clear hb I B 
  have I := In
  clear In
  have B := Bn
  clear Bn
  go_wp2_with fail
  refine (sborn_T gh gg gp gc gm gl gs g3 G0 sv [7, 8] 1 w w2 I.out B.out (by decide)).mono ?_
  rintro e w3 ⟨rfl, h1, h2, h3, h4⟩
  have In := Aside0.mk h1
  have Bn := Aside0.mk h2
  clear h1 h2 h3 I B  h4
  have I := In
  clear In
  have B := Bn
  clear Bn
  rw [show bornId G0.row 1 = 1 from rfl]
  have In := Aside0.mk (I.out.alloc (.cells #[.int .i64 5, .int .i64 1, .int .i64 3, .int .i64 1] 25))
  have Bn := Aside0.mk (below_alloc B.out (.cells #[.int .i64 5, .int .i64 1, .int .i64 3, .int .i64 1] 25))
  have GA := Aside0.mk (blk_new w3 (.cells #[.int .i64 5, .int .i64 1, .int .i64 3, .int .i64 1] 25))
  clear I B 
  have I := In
  clear In
  have B := Bn
  clear Bn
  have a0 : (w3.alloc (.cells #[.int .i64 5, .int .i64 1, .int .i64 3, .int .i64 1] 25)).cell? ⟨w3.heap.size, 0, none⟩ = some (.int .i64 5) := (blk_cell GA.out 0).trans rfl
  have a1 : (w3.alloc (.cells #[.int .i64 5, .int .i64 1, .int .i64 3, .int .i64 1] 25)).cell? ⟨w3.heap.size, 1, none⟩ = some (.int .i64 1) := (blk_cell GA.out 1).trans rfl
  have a2 : (w3.alloc (.cells #[.int .i64 5, .int .i64 1, .int .i64 3, .int .i64 1] 25)).cell? ⟨w3.heap.size, 2, none⟩ = some (.int .i64 3) := (blk_cell GA.out 2).trans rfl
  have a3 : (w3.alloc (.cells #[.int .i64 5, .int .i64 1, .int .i64 3, .int .i64 1] 25)).cell? ⟨w3.heap.size, 3, none⟩ = some (.int .i64 1) := (blk_cell GA.out 3).trans rfl
  go_wp2_with fail
  clear a0 a1 a2 a3
  generalize w3.alloc (.cells #[.int .i64 5, .int .i64 1, .int .i64 3, .int .i64 1] 25) = w4 at *
  generalize w3.heap.size = ga at *
  refine (sstore_T gh gg gp gc gm gl gs g3 _ sv [7, 8] 5 1 3 1 5 0 false w w4 I.out B.out).mono ?_
  rintro e w5 ⟨rfl, h1, h2, h3⟩
  have GAn := Aside0.mk (I.out.ghost.staysT h3 GA.out (by decide) (by decide))
  have In := Aside0.mk h1
  have Bn := Aside0.mk h2
  clear h1 h2 h3 I B GA
  have I := In
  clear In
  have B := Bn
  clear Bn
  have GA := GAn
  clear GAn
  obtain ⟨G, hG⟩ : ∃ G, gstoreG (gbornG G0 1) (5, 1, 3) 1 5 0 false = G := ⟨_, rfl⟩
  have V1 := Aside0.mk (show getw G.p.m (5, 1, 3) = 5 by rw [← hG]; decide)
  have V2 := Aside0.mk (show (get G.leads (5, 1, 3)).getD 0 = 0 by rw [← hG]; decide)
  have V3 := Aside0.mk (show staleR G ((5, 1, 3) : K3).1 ((5, 1, 3) : K3).2.1 1 = false by rw [← hG]; decide)
  have V4 := Aside0.mk (show G.stale = 0 ∧ G.faults = 0 ∧ G.row = [1] ∧ G.now = [(1, 1)] by rw [← hG]; exact ⟨rfl, rfl, rfl, rfl⟩)
  have In := Aside0.mk (show ShadeIs w w5 gh gg gp gc gm gl gs g3 G sv [7, 8] from hG ▸ I.out)
  clear I hG
  have I := In
  clear In
  have a0 : w5.cell? ⟨ga, 0, none⟩ = some (.int .i64 5) := (blk_cell GA.out 0).trans rfl
  have a1 : w5.cell? ⟨ga, 1, none⟩ = some (.int .i64 1) := (blk_cell GA.out 1).trans rfl
  have a2 : w5.cell? ⟨ga, 2, none⟩ = some (.int .i64 3) := (blk_cell GA.out 2).trans rfl
  have a3 : w5.cell? ⟨ga, 3, none⟩ = some (.int .i64 1) := (blk_cell GA.out 3).trans rfl
  go_wp2_with fail
  clear a0 a1 a2 a3
  refine (sload_T gh gg gp gc gm gl gs g3 G sv [7, 8] 5 1 3 1 w w5 I.out B.out (by have := V4.out.1; omega)).mono ?_
  rintro e w6 ⟨rfl, h1, h2, h3⟩
  rw [sload_fresh V3.out, V1.out, V2.out]
  have GAn := Aside0.mk (I.out.ghost.staysT h3 GA.out (by decide) (by decide))
  have In := Aside0.mk h1
  have Bn := Aside0.mk h2
  clear h1 h2 h3 I B GA
  have I := In
  clear In
  have B := Bn
  clear Bn
  have GA := GAn
  clear GAn
  have In := Aside0.mk (I.out.alloc (.cells #[.int .u64 5, .int .i64 0, .bool false] 28))
  have Bn := Aside0.mk (below_alloc B.out (.cells #[.int .u64 5, .int .i64 0, .bool false] 28))
  have GAn := Aside0.mk (blk_alloc GA.out (.cells #[.int .u64 5, .int .i64 0, .bool false] 28))
  have GU := Aside0.mk (blk_new w6 (.cells #[.int .u64 5, .int .i64 0, .bool false] 28))
  clear I B GA
  have I := In
  clear In
  have B := Bn
  clear Bn
  have GA := GAn
  clear GAn
  go_wp2_with fail
  generalize w6.alloc (.cells #[.int .u64 5, .int .i64 0, .bool false] 28) = w7 at *
  generalize w6.heap.size = gu at *
  have RW := Aside0.mk (show (gloadG G (5, 1, 3) 1).row = [1] from V4.out.2.2.1)
  refine (sborn_T gh gg gp gc gm gl gs g3 _ sv [7, 8] 1 w w7 I.out B.out (by rw [RW.out]; decide)).mono ?_
  rintro e w8 ⟨rfl, h1, h2, h3, h4⟩
  have GAn := Aside0.mk (I.out.ghost.staysB h3 GA.out (by decide) (by decide))
  have GUn := Aside0.mk (I.out.ghost.staysB h3 GU.out (by decide) (by decide))
  have In := Aside0.mk h1
  have Bn := Aside0.mk h2
  clear h1 h2 h3 I B GA GU h4
  have I := In
  clear In
  have B := Bn
  clear Bn
  have GA := GAn
  clear GAn
  have GU := GUn
  clear GUn
  obtain ⟨H, hH⟩ : ∃ H, gbornG (gloadG G (5, 1, 3) 1) 1 = H := ⟨_, rfl⟩
  have hn : H.now = [(1, 2)] := by
    rw [← hH]
    show bornNow G.now G.row 1 = [(1, 2)]
    rw [V4.out.2.2.1, V4.out.2.2.2]
    decide
  have W1 := Aside0.mk (show getw H.p.m (5, 1, 3) = 5 by rw [← hH]; exact V1.out)
  have W3 := Aside0.mk (show staleR H ((5, 1, 3) : K3).1 ((5, 1, 3) : K3).2.1 1 = true by unfold staleR; rw [hn]; decide)
  have W4 := Aside0.mk (show H.stale = 0 by rw [← hH]; show (gloadG G (5, 1, 3) 1).stale = 0; rw [gload_fresh V3.out]; exact V4.out.1)
  have W5 := Aside0.mk (show H.faults = 0 by rw [← hH]; exact V4.out.2.1)
  have In := Aside0.mk (show ShadeIs w w8 gh gg gp gc gm gl gs g3 H sv [7, 8] from hH ▸ I.out)
  clear I hH hn V1 V2 V3 V4 RW
  have I := In
  clear In
  have a0 : w8.cell? ⟨ga, 0, none⟩ = some (.int .i64 5) := (blk_cell GA.out 0).trans rfl
  have a1 : w8.cell? ⟨ga, 1, none⟩ = some (.int .i64 1) := (blk_cell GA.out 1).trans rfl
  have a2 : w8.cell? ⟨ga, 2, none⟩ = some (.int .i64 3) := (blk_cell GA.out 2).trans rfl
  have a3 : w8.cell? ⟨ga, 3, none⟩ = some (.int .i64 1) := (blk_cell GA.out 3).trans rfl
  go_wp2_with fail
  clear a0 a1 a2 a3
  refine (sload_T gh gg gp gc gm gl gs g3 H sv [7, 8] 5 1 3 1 w w8 I.out B.out (by have := W4.out; omega)).mono ?_
  rintro e w9 ⟨rfl, h1, h2, h3⟩
  rw [sload_stale W3.out, W4.out]
  rw [show nextW [7, 8] (0 + 1) = 7 by decide]
  have GAn := Aside0.mk (I.out.ghost.staysT h3 GA.out (by decide) (by decide))
  have GUn := Aside0.mk (I.out.ghost.staysT h3 GU.out (by decide) (by decide))
  have In := Aside0.mk h1
  have Bn := Aside0.mk h2
  clear h1 h2 h3 I B GA GU
  have I := In
  clear In
  have B := Bn
  clear Bn
  have GA := GAn
  clear GAn
  have GU := GUn
  clear GUn
  obtain ⟨H1, hH⟩ : ∃ Q, gloadG H (5, 1, 3) 1 = Q := ⟨_, rfl⟩
  have hst := hH.symm.trans (gload_stale W3.out)
  have X1 := Aside0.mk (show getw H1.p.m (5, 1, 3) = 5 by rw [hst]; exact W1.out)
  have X3 := Aside0.mk (show staleR H1 ((5, 1, 3) : K3).1 ((5, 1, 3) : K3).2.1 1 = true by rw [hst]; exact W3.out)
  have X4 := Aside0.mk (show H1.stale = 1 by rw [hst]; show wrap64 (H.stale + 1) = 1; rw [W4.out]; unfold wrap64; omega)
  have X5 := Aside0.mk (show H1.faults = 0 by rw [hst]; exact W5.out)
  have In := Aside0.mk (show ShadeIs w w9 gh gg gp gc gm gl gs g3 H1 sv [7, 8] from hH ▸ I.out)
  clear I hH hst W1 W3 W4 W5
  have I := In
  have W1 := X1
  have W3 := X3
  have W4 := X4
  have W5 := X5
  clear In X1 X3 X4 X5
  have In := Aside0.mk (I.out.alloc (.cells #[.int .u64 7, .int .i64 0, .bool true] 28))
  have Bn := Aside0.mk (below_alloc B.out (.cells #[.int .u64 7, .int .i64 0, .bool true] 28))
  have GAn := Aside0.mk (blk_alloc GA.out (.cells #[.int .u64 7, .int .i64 0, .bool true] 28))
  have GUn := Aside0.mk (blk_alloc GU.out (.cells #[.int .u64 7, .int .i64 0, .bool true] 28))
  have GX := Aside0.mk (blk_new w9 (.cells #[.int .u64 7, .int .i64 0, .bool true] 28))
  clear I B GA GU
  have I := In
  clear In
  have B := Bn
  clear Bn
  have GA := GAn
  clear GAn
  have GU := GUn
  clear GUn
  have a0 : (w9.alloc (.cells #[.int .u64 7, .int .i64 0, .bool true] 28)).cell? ⟨ga, 0, none⟩ = some (.int .i64 5) := (blk_cell GA.out 0).trans rfl
  have a1 : (w9.alloc (.cells #[.int .u64 7, .int .i64 0, .bool true] 28)).cell? ⟨ga, 1, none⟩ = some (.int .i64 1) := (blk_cell GA.out 1).trans rfl
  have a2 : (w9.alloc (.cells #[.int .u64 7, .int .i64 0, .bool true] 28)).cell? ⟨ga, 2, none⟩ = some (.int .i64 3) := (blk_cell GA.out 2).trans rfl
  have a3 : (w9.alloc (.cells #[.int .u64 7, .int .i64 0, .bool true] 28)).cell? ⟨ga, 3, none⟩ = some (.int .i64 1) := (blk_cell GA.out 3).trans rfl
  go_wp2_with fail
  clear a0 a1 a2 a3
  generalize w9.alloc (.cells #[.int .u64 7, .int .i64 0, .bool true] 28) = w10 at *
  generalize w9.heap.size = gx at *
  refine (sload_T gh gg gp gc gm gl gs g3 H1 sv [7, 8] 5 1 3 1 w w10 I.out B.out (by have := W4.out; omega)).mono ?_
  rintro e w11 ⟨rfl, h1, h2, h3⟩
  rw [sload_stale W3.out, W4.out]
  rw [show nextW [7, 8] (1 + 1) = 8 by decide]
  have GAn := Aside0.mk (I.out.ghost.staysT h3 GA.out (by decide) (by decide))
  have GUn := Aside0.mk (I.out.ghost.staysT h3 GU.out (by decide) (by decide))
  have GXn := Aside0.mk (I.out.ghost.staysT h3 GX.out (by decide) (by decide))
  have In := Aside0.mk h1
  have Bn := Aside0.mk h2
  clear h1 h2 h3 I B GA GU GX
  have I := In
  clear In
  have B := Bn
  clear Bn
  have GA := GAn
  clear GAn
  have GU := GUn
  clear GUn
  have GX := GXn
  clear GXn
  obtain ⟨H2, hH⟩ : ∃ Q, gloadG H1 (5, 1, 3) 1 = Q := ⟨_, rfl⟩
  have hst := hH.symm.trans (gload_stale W3.out)
  have X1 := Aside0.mk (show getw H2.p.m (5, 1, 3) = 5 by rw [hst]; exact W1.out)
  have X3 := Aside0.mk (show staleR H2 ((5, 1, 3) : K3).1 ((5, 1, 3) : K3).2.1 1 = true by rw [hst]; exact W3.out)
  have X4 := Aside0.mk (show H2.stale = 2 by rw [hst]; show wrap64 (H1.stale + 1) = 2; rw [W4.out]; unfold wrap64; omega)
  have X5 := Aside0.mk (show H2.faults = 0 by rw [hst]; exact W5.out)
  have In := Aside0.mk (show ShadeIs w w11 gh gg gp gc gm gl gs g3 H2 sv [7, 8] from hH ▸ I.out)
  clear I hH hst W1 W3 W4 W5
  have I := In
  have W1 := X1
  have W3 := X3
  have W4 := X4
  have W5 := X5
  clear In X1 X3 X4 X5
  have In := Aside0.mk (I.out.alloc (.cells #[.int .u64 8, .int .i64 0, .bool true] 28))
  have Bn := Aside0.mk (below_alloc B.out (.cells #[.int .u64 8, .int .i64 0, .bool true] 28))
  have GAn := Aside0.mk (blk_alloc GA.out (.cells #[.int .u64 8, .int .i64 0, .bool true] 28))
  have GUn := Aside0.mk (blk_alloc GU.out (.cells #[.int .u64 8, .int .i64 0, .bool true] 28))
  have GXn := Aside0.mk (blk_alloc GX.out (.cells #[.int .u64 8, .int .i64 0, .bool true] 28))
  have GY := Aside0.mk (blk_new w11 (.cells #[.int .u64 8, .int .i64 0, .bool true] 28))
  clear I B GA GU GX
  have I := In
  clear In
  have B := Bn
  clear Bn
  have GA := GAn
  clear GAn
  have GU := GUn
  clear GUn
  have GX := GXn
  clear GXn
  have a0 : (w11.alloc (.cells #[.int .u64 8, .int .i64 0, .bool true] 28)).cell? ⟨ga, 0, none⟩ = some (.int .i64 5) := (blk_cell GA.out 0).trans rfl
  have a1 : (w11.alloc (.cells #[.int .u64 8, .int .i64 0, .bool true] 28)).cell? ⟨ga, 1, none⟩ = some (.int .i64 1) := (blk_cell GA.out 1).trans rfl
  have a2 : (w11.alloc (.cells #[.int .u64 8, .int .i64 0, .bool true] 28)).cell? ⟨ga, 2, none⟩ = some (.int .i64 3) := (blk_cell GA.out 2).trans rfl
  have a3 : (w11.alloc (.cells #[.int .u64 8, .int .i64 0, .bool true] 28)).cell? ⟨ga, 3, none⟩ = some (.int .i64 1) := (blk_cell GA.out 3).trans rfl
  go_wp2_with fail
  clear a0 a1 a2 a3
  generalize w11.alloc (.cells #[.int .u64 8, .int .i64 0, .bool true] 28) = w12 at *
  generalize w11.heap.size = gy at *
  refine (sload_T gh gg gp gc gm gl gs g3 H2 sv [7, 8] 5 1 3 1 w w12 I.out B.out (by have := W4.out; omega)).mono ?_
  rintro e w13 ⟨rfl, h1, h2, h3⟩
  rw [sload_stale W3.out, W4.out]
  rw [show nextW [7, 8] (2 + 1) = 7 by decide]
  have GAn := Aside0.mk (I.out.ghost.staysT h3 GA.out (by decide) (by decide))
  have GUn := Aside0.mk (I.out.ghost.staysT h3 GU.out (by decide) (by decide))
  have GXn := Aside0.mk (I.out.ghost.staysT h3 GX.out (by decide) (by decide))
  have GYn := Aside0.mk (I.out.ghost.staysT h3 GY.out (by decide) (by decide))
  have In := Aside0.mk h1
  have Bn := Aside0.mk h2
  clear h1 h2 h3 I B GA GU GX GY
  have I := In
  clear In
  have B := Bn
  clear Bn
  have GA := GAn
  clear GAn
  have GU := GUn
  clear GUn
  have GX := GXn
  clear GXn
  have GY := GYn
  clear GYn
  obtain ⟨H3, hH⟩ : ∃ Q, gloadG H2 (5, 1, 3) 1 = Q := ⟨_, rfl⟩
  have hst := hH.symm.trans (gload_stale W3.out)
  have X1 := Aside0.mk (show getw H3.p.m (5, 1, 3) = 5 by rw [hst]; exact W1.out)
  have X3 := Aside0.mk (show staleR H3 ((5, 1, 3) : K3).1 ((5, 1, 3) : K3).2.1 1 = true by rw [hst]; exact W3.out)
  have X4 := Aside0.mk (show H3.stale = 3 by rw [hst]; show wrap64 (H2.stale + 1) = 3; rw [W4.out]; unfold wrap64; omega)
  have X5 := Aside0.mk (show H3.faults = 0 by rw [hst]; exact W5.out)
  have In := Aside0.mk (show ShadeIs w w13 gh gg gp gc gm gl gs g3 H3 sv [7, 8] from hH ▸ I.out)
  clear I hH hst W1 W3 W4 W5
  have I := In
  have W1 := X1
  have W3 := X3
  have W4 := X4
  have W5 := X5
  clear In X1 X3 X4 X5
  have In := Aside0.mk (I.out.alloc (.cells #[.int .u64 7, .int .i64 0, .bool true] 28))
  have Bn := Aside0.mk (below_alloc B.out (.cells #[.int .u64 7, .int .i64 0, .bool true] 28))
  have GAn := Aside0.mk (blk_alloc GA.out (.cells #[.int .u64 7, .int .i64 0, .bool true] 28))
  have GUn := Aside0.mk (blk_alloc GU.out (.cells #[.int .u64 7, .int .i64 0, .bool true] 28))
  have GXn := Aside0.mk (blk_alloc GX.out (.cells #[.int .u64 7, .int .i64 0, .bool true] 28))
  have GYn := Aside0.mk (blk_alloc GY.out (.cells #[.int .u64 7, .int .i64 0, .bool true] 28))
  have GZ := Aside0.mk (blk_new w13 (.cells #[.int .u64 7, .int .i64 0, .bool true] 28))
  clear I B GA GU GX GY
  have I := In
  clear In
  have B := Bn
  clear Bn
  have GA := GAn
  clear GAn
  have GU := GUn
  clear GUn
  have GX := GXn
  clear GXn
  have GY := GYn
  clear GYn
  have a0 : (w13.alloc (.cells #[.int .u64 7, .int .i64 0, .bool true] 28)).cell? ⟨ga, 0, none⟩ = some (.int .i64 5) := (blk_cell GA.out 0).trans rfl
  have a1 : (w13.alloc (.cells #[.int .u64 7, .int .i64 0, .bool true] 28)).cell? ⟨ga, 1, none⟩ = some (.int .i64 1) := (blk_cell GA.out 1).trans rfl
  have a2 : (w13.alloc (.cells #[.int .u64 7, .int .i64 0, .bool true] 28)).cell? ⟨ga, 2, none⟩ = some (.int .i64 3) := (blk_cell GA.out 2).trans rfl
  have a3 : (w13.alloc (.cells #[.int .u64 7, .int .i64 0, .bool true] 28)).cell? ⟨ga, 3, none⟩ = some (.int .i64 1) := (blk_cell GA.out 3).trans rfl
  have u0 : (w13.alloc (.cells #[.int .u64 7, .int .i64 0, .bool true] 28)).cell? ⟨gu, 0, none⟩ = some (.int .u64 5) := (blk_cell GU.out 0).trans rfl
  have u1 : (w13.alloc (.cells #[.int .u64 7, .int .i64 0, .bool true] 28)).cell? ⟨gu, 1, none⟩ = some (.int .i64 0) := (blk_cell GU.out 1).trans rfl
  have u2 : (w13.alloc (.cells #[.int .u64 7, .int .i64 0, .bool true] 28)).cell? ⟨gu, 2, none⟩ = some (.bool false) := (blk_cell GU.out 2).trans rfl
  have x0 : (w13.alloc (.cells #[.int .u64 7, .int .i64 0, .bool true] 28)).cell? ⟨gx, 0, none⟩ = some (.int .u64 7) := (blk_cell GX.out 0).trans rfl
  have x1 : (w13.alloc (.cells #[.int .u64 7, .int .i64 0, .bool true] 28)).cell? ⟨gx, 1, none⟩ = some (.int .i64 0) := (blk_cell GX.out 1).trans rfl
  have x2 : (w13.alloc (.cells #[.int .u64 7, .int .i64 0, .bool true] 28)).cell? ⟨gx, 2, none⟩ = some (.bool true) := (blk_cell GX.out 2).trans rfl
  have y0 : (w13.alloc (.cells #[.int .u64 7, .int .i64 0, .bool true] 28)).cell? ⟨gy, 0, none⟩ = some (.int .u64 8) := (blk_cell GY.out 0).trans rfl
  have y1 : (w13.alloc (.cells #[.int .u64 7, .int .i64 0, .bool true] 28)).cell? ⟨gy, 1, none⟩ = some (.int .i64 0) := (blk_cell GY.out 1).trans rfl
  have y2 : (w13.alloc (.cells #[.int .u64 7, .int .i64 0, .bool true] 28)).cell? ⟨gy, 2, none⟩ = some (.bool true) := (blk_cell GY.out 2).trans rfl
  have z0 : (w13.alloc (.cells #[.int .u64 7, .int .i64 0, .bool true] 28)).cell? ⟨w13.heap.size, 0, none⟩ = some (.int .u64 7) := (blk_cell GZ.out 0).trans rfl
  have z1 : (w13.alloc (.cells #[.int .u64 7, .int .i64 0, .bool true] 28)).cell? ⟨w13.heap.size, 1, none⟩ = some (.int .i64 0) := (blk_cell GZ.out 1).trans rfl
  have z2 : (w13.alloc (.cells #[.int .u64 7, .int .i64 0, .bool true] 28)).cell? ⟨w13.heap.size, 2, none⟩ = some (.bool true) := (blk_cell GZ.out 2).trans rfl
  go_wp2_with fail
  clear u0 u1 u2
  clear x0 x1 x2
  clear y0 y1 y2
  clear z0 z1 z2
  clear a0 a1 a2 a3
  generalize w13.alloc (.cells #[.int .u64 7, .int .i64 0, .bool true] 28) = w14 at *
  generalize w13.heap.size = gz at *
  refine (stold_T gh gg gp gc gm gl gs g3 H3 sv [7, 8] w _ I.out).mono ?_
  rintro e w30 ⟨rfl, rfl⟩
  rw [W4.out]
  go_wp2_with fail
  refine (sfaults_T gh gg gp gc gm gl gs g3 H3 sv [7, 8] w _ I.out).mono ?_
  rintro e w31 ⟨rfl, rfl⟩
  rw [W5.out]
  have a0 : w31.cell? ⟨ga, 0, none⟩ = some (.int .i64 5) := (blk_cell GA.out 0).trans rfl
  have a1 : w31.cell? ⟨ga, 1, none⟩ = some (.int .i64 1) := (blk_cell GA.out 1).trans rfl
  have a2 : w31.cell? ⟨ga, 2, none⟩ = some (.int .i64 3) := (blk_cell GA.out 2).trans rfl
  go_wp2_with fail
  refine (speek_T gh gg gp gc gm gl gs g3 H3 sv [7, 8] 5 1 3 w _ I.out).mono ?_
  rintro e w32 ⟨rfl, hb⟩
  rw [W1.out]
  have B9 := Aside0.mk (below_step B.out hb)
  clear hb
  go_wp2_with fail
  go_ret
  exact ⟨rfl, B9.out⟩
end Go.Proofs.Ytlpnggapndokeaa.PIdealKeeps

