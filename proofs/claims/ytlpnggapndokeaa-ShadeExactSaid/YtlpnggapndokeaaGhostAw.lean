/-
awake of layer 8 answers true.
-/
import Derived.Test.YtlpnggapndokeaaGhostB
namespace Go.Proofs.Ytlpnggapndokeaa.PIdealKeeps
open Go Go.RowKit Go.Proofs.YtlpnggapndokeaaW.PrintWords Go.Proofs.YtlpnggapndokeaaW.PrintLast Go.Proofs.YtlpnggapndokeaaW.PrintMore Go.Proofs.Ytlpnggapndokeaa.M Go.Proofs.Ytlpnggapndokeaa.U
attribute [local go_sem] max2_int min2_int max_two min_two max_three min_three max_four min_four
set_option linter.unusedVariables false
set_option linter.unusedSimpArgs false
set_option maxHeartbeats 16000000 in
set_option maxRecDepth 100000 in
theorem awake08_T (w : World) : Calls Try.prog 37 #[] w fun e w' => e = .returned (.bool true) ∧ Below w.heap.size w w' := by
  have hu25 := Try.underlying25
  have hu28 := Try.underlying28
  have hu23 := Try.underlying23
  have hu95 := Try.underlying95
  have e28 := eq28
  go_enter Try.func37, Try.ntmps37
  go_wp2_with fail
  refine (gnew_T w).mono ?_
  rintro e w1 ⟨gg, gp, gc, gm, gl, gs, g3, rfl, h1, h2⟩
  have I := Aside0.mk h1
  have B := Aside0.mk h2
  clear h1 h2
  go_wp2_with fail
  refine (place_Of.calls 3 3 5 3 3 w1 rfl).mono ?_
  rintro e w2 ⟨rfl, hb⟩
  have In := Aside0.mk (I.out.below hb)
  have Bn := Aside0.mk (below_step B.out hb)
  clear hb I B 
  have I := In
  clear In
  have B := Bn
  clear Bn
  have In := Aside0.mk (I.out.alloc (.cells #[.int .i64 5, .int .i64 3, .int .i64 3, .int .i64 1] 25))
  have Bn := Aside0.mk (below_alloc B.out (.cells #[.int .i64 5, .int .i64 3, .int .i64 3, .int .i64 1] 25))
  have GA := Aside0.mk (blk_new w2 (.cells #[.int .i64 5, .int .i64 3, .int .i64 3, .int .i64 1] 25))
  clear I B 
  have I := In
  clear In
  have B := Bn
  clear Bn
  go_wp2_with fail
  generalize w2.alloc (.cells #[.int .i64 5, .int .i64 3, .int .i64 3, .int .i64 1] 25) = w3 at *
  generalize w2.heap.size = ga at *
  refine (gborn_T gg gp gc gm gl gs g3 G0 3 w w3 I.out B.out (by decide)).mono ?_
  rintro e w4 ⟨rfl, h1, h2, h3⟩
  have GAn := Aside0.mk (I.out.stays h3 GA.out (by decide) (by decide) (by decide) (by decide))
  have In := Aside0.mk h1
  have Bn := Aside0.mk h2
  clear h1 h2 h3 I B GA
  have I := In
  clear In
  have B := Bn
  clear Bn
  have GA := GAn
  clear GAn
  have a0 : w4.cell? ⟨ga, 0, none⟩ = some (.int .i64 5) := (blk_cell GA.out 0).trans rfl
  have a1 : w4.cell? ⟨ga, 1, none⟩ = some (.int .i64 3) := (blk_cell GA.out 1).trans rfl
  have a2 : w4.cell? ⟨ga, 2, none⟩ = some (.int .i64 3) := (blk_cell GA.out 2).trans rfl
  have a3 : w4.cell? ⟨ga, 3, none⟩ = some (.int .i64 1) := (blk_cell GA.out 3).trans rfl
  go_wp2_with fail
  clear a0 a1 a2 a3
  refine (gstore_T gg gp gc gm gl gs g3 _ 5 3 3 1 5 7 false w w4 I.out B.out).mono ?_
  rintro e w5 ⟨rfl, h1, h2, h3⟩
  have GAn := Aside0.mk (I.out.stays h3 GA.out (by decide) (by decide) (by decide) (by decide))
  have In := Aside0.mk h1
  have Bn := Aside0.mk h2
  clear h1 h2 h3 I B GA
  have I := In
  clear In
  have B := Bn
  clear Bn
  have GA := GAn
  clear GAn
  obtain ⟨G, hG⟩ : ∃ G, gstoreG (gbornG G0 3) (5, 3, 3) 1 5 7 false = G := ⟨_, rfl⟩
  have V1 := Aside0.mk (show getw G.p.m (5, 3, 3) = 5 by rw [← hG]; decide)
  have V2 := Aside0.mk (show (get G.leads (5, 3, 3)).getD 0 = 7 by rw [← hG]; decide)
  have V3 := Aside0.mk (show staleR G 5 3 1 = false by rw [← hG]; decide)
  have V4 := Aside0.mk (show G.stale = 0 ∧ G.faults = 0 ∧ G.row = [3] ∧ G.now = [(3, 1)] by rw [← hG]; exact ⟨rfl, rfl, rfl, rfl⟩)
  have V5 := Aside0.mk (show Once G.p.m by rw [← hG]; show Once (wput ([] : List (K3 × Int)) (5, 3, 3) 5); exact once_wput once_nil _ _)
  have In := Aside0.mk (show GhostIs w w5 gg gp gc gm gl gs g3 G from hG ▸ I.out)
  clear I hG
  have I := In
  clear In
  have a0 : w5.cell? ⟨ga, 0, none⟩ = some (.int .i64 5) := (blk_cell GA.out 0).trans rfl
  have a1 : w5.cell? ⟨ga, 1, none⟩ = some (.int .i64 3) := (blk_cell GA.out 1).trans rfl
  have a2 : w5.cell? ⟨ga, 2, none⟩ = some (.int .i64 3) := (blk_cell GA.out 2).trans rfl
  have a3 : w5.cell? ⟨ga, 3, none⟩ = some (.int .i64 1) := (blk_cell GA.out 3).trans rfl
  go_wp2_with fail
  clear a0 a1 a2 a3
  refine (gload_T gg gp gc gm gl gs g3 G 5 3 3 1 w w5 I.out B.out).mono ?_
  rintro e w6 ⟨rfl, h1, h2, h3⟩
  rw [V1.out, V2.out, V3.out]
  have GAn := Aside0.mk (I.out.stays h3 GA.out (by decide) (by decide) (by decide) (by decide))
  have In := Aside0.mk h1
  have Bn := Aside0.mk h2
  clear h1 h2 h3 I B GA
  have I := In
  clear In
  have B := Bn
  clear Bn
  have GA := GAn
  clear GAn
  have In := Aside0.mk (I.out.alloc (.cells #[.int .u64 5, .int .i64 7, .bool false] 28))
  have Bn := Aside0.mk (below_alloc B.out (.cells #[.int .u64 5, .int .i64 7, .bool false] 28))
  have GAn := Aside0.mk (blk_alloc GA.out (.cells #[.int .u64 5, .int .i64 7, .bool false] 28))
  have GV := Aside0.mk (blk_new w6 (.cells #[.int .u64 5, .int .i64 7, .bool false] 28))
  clear I B GA
  have I := In
  clear In
  have B := Bn
  clear Bn
  have GA := GAn
  clear GAn
  go_wp2_with fail
  generalize w6.alloc (.cells #[.int .u64 5, .int .i64 7, .bool false] 28) = w7 at *
  generalize w6.heap.size = gv at *
  have RW := Aside0.mk (show (gloadG G (5, 3, 3) 1).row = [3] from V4.out.2.2.1)
  refine (gborn_T gg gp gc gm gl gs g3 _ 3 w w7 I.out B.out (by rw [RW.out]; decide)).mono ?_
  rintro e w8 ⟨rfl, h1, h2, h3⟩
  rw [show bornId (gloadG G (5, 3, 3) 1).row 3 = 2 by rw [RW.out]; decide]
  have GAn := Aside0.mk (I.out.stays h3 GA.out (by decide) (by decide) (by decide) (by decide))
  have GVn := Aside0.mk (I.out.stays h3 GV.out (by decide) (by decide) (by decide) (by decide))
  have In := Aside0.mk h1
  have Bn := Aside0.mk h2
  clear h1 h2 h3 I B GA GV
  have I := In
  clear In
  have B := Bn
  clear Bn
  have GA := GAn
  clear GAn
  have GV := GVn
  clear GVn
  obtain ⟨H, hH⟩ : ∃ H, gbornG (gloadG G (5, 3, 3) 1) 3 = H := ⟨_, rfl⟩
  have hn : H.now = [(3, 2)] := by
    rw [← hH]
    show bornNow G.now G.row 3 = [(3, 2)]
    rw [V4.out.2.2.1, V4.out.2.2.2]
    decide
  have W1 := Aside0.mk (show getw H.p.m (5, 3, 3) = 5 by rw [← hH]; exact V1.out)
  have W2 := Aside0.mk (show (get H.leads (5, 3, 3)).getD 0 = 7 by rw [← hH]; exact V2.out)
  have W3 := Aside0.mk (show staleR H 5 3 1 = true by unfold staleR; rw [hn]; decide)
  have W4 := Aside0.mk (show H.stale = 0 by
    rw [← hH]
    show (gloadG G (5, 3, 3) 1).stale = 0
    unfold gloadG
    rw [show staleR G (5, 3, 3).1 (5, 3, 3).2.1 1 = false from V3.out]
    exact V4.out.1)
  have W5 := Aside0.mk (show H.faults = 0 by rw [← hH]; exact V4.out.2.1)
  have W6 := Aside0.mk (show Once H.p.m by rw [← hH]; exact V5.out)
  have W7 := Aside0.mk hn
  have In := Aside0.mk (show GhostIs w w8 gg gp gc gm gl gs g3 H from hH ▸ I.out)
  clear I hH hn V1 V2 V3 V4 V5 RW
  have I := In
  clear In
  have a0 : w8.cell? ⟨ga, 0, none⟩ = some (.int .i64 5) := (blk_cell GA.out 0).trans rfl
  have a1 : w8.cell? ⟨ga, 1, none⟩ = some (.int .i64 3) := (blk_cell GA.out 1).trans rfl
  have a2 : w8.cell? ⟨ga, 2, none⟩ = some (.int .i64 3) := (blk_cell GA.out 2).trans rfl
  have a3 : w8.cell? ⟨ga, 3, none⟩ = some (.int .i64 1) := (blk_cell GA.out 3).trans rfl
  go_wp2_with fail
  clear a0 a1 a2 a3
  refine (gload_T gg gp gc gm gl gs g3 H 5 3 3 1 w w8 I.out B.out).mono ?_
  rintro e w9 ⟨rfl, h1, h2, h3⟩
  rw [W1.out, W2.out, W3.out]
  have GAn := Aside0.mk (I.out.stays h3 GA.out (by decide) (by decide) (by decide) (by decide))
  have GVn := Aside0.mk (I.out.stays h3 GV.out (by decide) (by decide) (by decide) (by decide))
  have In := Aside0.mk h1
  have Bn := Aside0.mk h2
  clear h1 h2 h3 I B GA GV
  have I := In
  clear In
  have B := Bn
  clear Bn
  have GA := GAn
  clear GAn
  have GV := GVn
  clear GVn
  have In := Aside0.mk (I.out.alloc (.cells #[.int .u64 5, .int .i64 7, .bool true] 28))
  have Bn := Aside0.mk (below_alloc B.out (.cells #[.int .u64 5, .int .i64 7, .bool true] 28))
  have GAn := Aside0.mk (blk_alloc GA.out (.cells #[.int .u64 5, .int .i64 7, .bool true] 28))
  have GVn := Aside0.mk (blk_alloc GV.out (.cells #[.int .u64 5, .int .i64 7, .bool true] 28))
  have GW := Aside0.mk (blk_new w9 (.cells #[.int .u64 5, .int .i64 7, .bool true] 28))
  clear I B GA GV
  have I := In
  clear In
  have B := Bn
  clear Bn
  have GA := GAn
  clear GAn
  have GV := GVn
  clear GVn
  have a0 : (w9.alloc (.cells #[.int .u64 5, .int .i64 7, .bool true] 28)).cell? ⟨ga, 0, none⟩ = some (.int .i64 5) := (blk_cell GA.out 0).trans rfl
  have a1 : (w9.alloc (.cells #[.int .u64 5, .int .i64 7, .bool true] 28)).cell? ⟨ga, 1, none⟩ = some (.int .i64 3) := (blk_cell GA.out 1).trans rfl
  have a2 : (w9.alloc (.cells #[.int .u64 5, .int .i64 7, .bool true] 28)).cell? ⟨ga, 2, none⟩ = some (.int .i64 3) := (blk_cell GA.out 2).trans rfl
  have a3 : (w9.alloc (.cells #[.int .u64 5, .int .i64 7, .bool true] 28)).cell? ⟨ga, 3, none⟩ = some (.int .i64 1) := (blk_cell GA.out 3).trans rfl
  go_wp2_with fail
  clear a0 a1 a2 a3
  generalize w9.alloc (.cells #[.int .u64 5, .int .i64 7, .bool true] 28) = w10 at *
  generalize w9.heap.size = gw at *
  refine (gstore_T gg gp gc gm gl gs g3 _ 5 3 3 1 6 0 false w w10 I.out B.out).mono ?_
  rintro e w11 ⟨rfl, h1, h2, h3⟩
  have GAn := Aside0.mk (I.out.stays h3 GA.out (by decide) (by decide) (by decide) (by decide))
  have GVn := Aside0.mk (I.out.stays h3 GV.out (by decide) (by decide) (by decide) (by decide))
  have GWn := Aside0.mk (I.out.stays h3 GW.out (by decide) (by decide) (by decide) (by decide))
  have In := Aside0.mk h1
  have Bn := Aside0.mk h2
  clear h1 h2 h3 I B GA GV GW
  have I := In
  clear In
  have B := Bn
  clear Bn
  have GA := GAn
  clear GAn
  have GV := GVn
  clear GVn
  have GW := GWn
  clear GWn
  obtain ⟨Q, hQ⟩ : ∃ Q, gstoreG (gloadG H (5, 3, 3) 1) (5, 3, 3) 1 6 0 false = Q := ⟨_, rfl⟩
  have Q1 := Aside0.mk (show Q.stale = 1 by
    rw [← hQ]
    show (gloadG H (5, 3, 3) 1).stale = 1
    unfold gloadG
    rw [show staleR H (5, 3, 3).1 (5, 3, 3).2.1 1 = true from W3.out, if_pos rfl, W4.out]
    show wrap64 (0 + 1) = 1
    unfold wrap64
    omega)
  have Q2 := Aside0.mk (show Q.faults = 1 by
    rw [← hQ]
    show (if (false || staleR H 5 3 1) = true then wrap64 (H.faults + 1) else H.faults) = 1
    rw [W3.out, Bool.or_true, if_pos rfl, W5.out]
    unfold wrap64
    omega)
  have Q3 := Aside0.mk (show isR Q.now 3 2 = true by
    rw [← hQ]
    show isR H.now 3 2 = true
    rw [W7.out]
    decide)
  have Q4 := Aside0.mk (show getw Q.p.m (5, 3, 3) = 6 by
    rw [← hQ]
    show getw (wput H.p.m (5, 3, 3) 6) (5, 3, 3) = 6
    rw [getw_wput W6.out, if_pos rfl])
  have In := Aside0.mk (show GhostIs w w11 gg gp gc gm gl gs g3 Q from hQ ▸ I.out)
  clear I hQ W1 W2 W3 W4 W5 W6 W7
  have I := In
  clear In
  have v0 : w11.cell? ⟨gv, 0, none⟩ = some (.int .u64 5) := (blk_cell GV.out 0).trans rfl
  have v1 : w11.cell? ⟨gv, 1, none⟩ = some (.int .i64 7) := (blk_cell GV.out 1).trans rfl
  have v2 : w11.cell? ⟨gv, 2, none⟩ = some (.bool false) := (blk_cell GV.out 2).trans rfl
  have u0 : w11.cell? ⟨gw, 0, none⟩ = some (.int .u64 5) := (blk_cell GW.out 0).trans rfl
  have u1 : w11.cell? ⟨gw, 1, none⟩ = some (.int .i64 7) := (blk_cell GW.out 1).trans rfl
  have u2 : w11.cell? ⟨gw, 2, none⟩ = some (.bool true) := (blk_cell GW.out 2).trans rfl
  go_wp2_with fail
  clear v0 v1 v2
  clear u0 u1 u2
  refine (gstale_T gg gp gc gm gl gs g3 Q w w11 I.out).mono ?_
  rintro e w12 ⟨rfl, rfl⟩
  rw [Q1.out]
  go_wp2_with fail
  refine (gfaults_T gg gp gc gm gl gs g3 Q w _ I.out).mono ?_
  rintro e w12 ⟨rfl, rfl⟩
  rw [Q2.out]
  go_wp2_with fail
  refine (gsouls_T gg gp gc gm gl gs g3 Q w _ I.out).mono ?_
  rintro e w12 ⟨rfl, rfl⟩
  obtain ⟨sv, hsv⟩ := I.out.soul
  have SV := Aside0.mk hsv
  clear hsv
  go_wp2_with fail
  refine (soulIs_T gs g3 sv Q.now Q.row 3 2 w _ SV.out).mono ?_
  rintro e w13 ⟨rfl, hb⟩
  rw [Q3.out]
  have GAn := Aside0.mk (blk_below GA.out hb)
  have In := Aside0.mk (I.out.below hb)
  have Bn := Aside0.mk (below_step B.out hb)
  clear hb I B GA
  have I := In
  clear In
  have B := Bn
  clear Bn
  have GA := GAn
  clear GAn
  have a0 : w13.cell? ⟨ga, 0, none⟩ = some (.int .i64 5) := (blk_cell GA.out 0).trans rfl
  have a1 : w13.cell? ⟨ga, 1, none⟩ = some (.int .i64 3) := (blk_cell GA.out 1).trans rfl
  have a2 : w13.cell? ⟨ga, 2, none⟩ = some (.int .i64 3) := (blk_cell GA.out 2).trans rfl
  go_wp2_with fail
  refine (gpeek_T gg gp gc gm gl gs g3 Q 5 3 3 w w13 I.out).mono ?_
  rintro e w14 ⟨rfl, hb⟩
  rw [Q4.out]
  have B9 := Aside0.mk (below_step B.out hb)
  clear hb
  go_wp2_with fail
  go_ret
  exact ⟨rfl, B9.out⟩
end Go.Proofs.Ytlpnggapndokeaa.PIdealKeeps

