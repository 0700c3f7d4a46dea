/-
It is the ghost world, but for what stale loads are told: the law answers true, whatever its arguments are.
-/
import Derived.Test.YtlpnggapndokeaaShadeAw
namespace Go.Proofs.Ytlpnggapndokeaa.PIdealKeeps
open Go Go.RowKit Go.Proofs.YtlpnggapndokeaaW.PrintWords Go.Proofs.YtlpnggapndokeaaW.PrintLast Go.Proofs.YtlpnggapndokeaaW.PrintMore Go.Proofs.Ytlpnggapndokeaa.M Go.Proofs.Ytlpnggapndokeaa.U
attribute [local go_sem] max2_int min2_int max_two min_two max_three min_three max_four min_four
set_option linter.unusedVariables false
set_option linter.unusedSimpArgs false
set_option maxHeartbeats 16000000 in
set_option maxRecDepth 100000 in
theorem ghost10T (A0_ A1_ : Option Addr) (c0 c1 : Nat) (ws : List Int) (xs : List S89) (w : World) (hr0 : Kd.C (Kd.int .u64) w A0_ ws.length ws) (hc0 : ws.length ≤ c0) (hr1 : Kd.C k89 w A1_ xs.length xs) (hc1 : xs.length ≤ c1) (hw : ws.length ≤ 17592186044416) :
    Calls Try.prog 12 #[.slice A0_ ws.length c0, .slice A1_ xs.length c1] w fun e w' => e = .returned (.bool true) ∧ Below w.heap.size w w' := by
  have hu25 := Try.underlying25
  have hu28 := Try.underlying28
  have hu23 := Try.underlying23
  have hu83 := Try.underlying83
  have hu89 := Try.underlying89
  have hu38 := Try.underlying38
  have e38 := eq38
  have e28 := eq28
  have HW := Aside0.mk hr0
  have HWC := Aside0.mk hc0
  have HWL := Aside0.mk hw
  have HR := Aside0.mk hr1
  have HC := Aside0.mk hc1
  clear hr0 hc0 hr1 hc1 hw
  go_enter Try.func12, Try.ntmps12
  go_wp2_with fail
  refine (awake10_T w).mono ?_
  rintro e w1 ⟨rfl, hb⟩
  have B1 := Aside0.mk hb
  clear hb
  go_wp2_with fail
  refine (snew_T A0_ c0 ws w1 (Kd.C_below HW.out B1.out) HWC.out HWL.out).mono ?_
  rintro e w2 ⟨gh, gg, gp, gc, gm, gl, gs, g3, sv, rfl, h1, h2⟩
  have I2 := Aside0.mk (h1.rebase (w0 := w) B1.out.size)
  have B2 := Aside0.mk (below_step B1.out h2)
  clear h1 h2 B1
  go_wp2_with fail
  refine (gnew_T w2).mono ?_
  rintro e w3 ⟨hg, hp, hc, hm, hl, hs, h3, rfl, h1, h2⟩
  have I3 := Aside0.mk (show Two w w3 gh gg gp gc gm gl gs g3 hg hp hc hm hl hs h3 G0 G0 sv ws by
    have hg2 := h1.rebase (w0 := w) B2.out.size
    obtain ⟨v, hv⟩ := I2.out.ghost.soul
    obtain ⟨u, hu⟩ := h1.soul
    refine ⟨I2.out.below h2, hg2, ?_, ?_⟩
    · have m1 := blk_lt I2.out.ghost.blk
      have m2 := blk_lt I2.out.ghost.plain.cells.blk
      have m3 := I2.out.ghost.plain.cells.map.lt
      have m4 := I2.out.ghost.leads.lt
      have m5 := blk_lt hv.blk
      have m6 := hv.map.lt
      have n1 := h1.b
      have n2 := h1.plain.cells.b0
      have n3 := h1.plain.cells.b1
      have n4 := h1.bl
      have n5 := hu.b1
      have n6 := hu.b2
      constructor <;> omega
    · intro k hk e
      rw [hu.rowAt] at e
      have n7 := Kd.R_base hu.row k e
      have : rowAt w3 gs = rowAt w2 gs := rowAt_of (h2.block gs (blk_lt hv.blk))
      rw [this] at hk
      have := I2.out.ghost.rowAt_lt hk
      omega)
  have B3 := Aside0.mk (below_step B2.out h2)
  clear h1 h2 I2 B2
  go_wp2_with fail
  go_loopg [7] xs.length (fun kq v7 w' => ∃ (i : Int) (G : GSt), v7 = .int .i64 i ∧ Aside0 (0 ≤ i ∧ i ≤ 150 ∧ i + kq = xs.length) ∧ Aside0 (Two w w' gh gg gp gc gm gl gs g3 hg hp hc hm hl hs h3 G G sv ws) ∧ Aside0 (Below w.heap.size w w') ∧ Aside0 ((G.row.length : Int) ≤ i ∧ 0 ≤ G.stale ∧ G.stale ≤ i))
  case atStart => exact ⟨0, G0, rfl, ⟨by omega⟩, I3, B3, ⟨Int.le_refl _, Int.le_refl _, Int.le_refl _⟩⟩
  case round =>
    clear I3 B3
    obtain ⟨i, G, rfl, HK, JI, JB, JR⟩ := hrel
    by_cases hi : i < (xs.length : Int) ∧ i < 150
    · have t1 : decide (i < (xs.length : Int)) = true := decide_eq_true hi.1
      have t2 : decide (i < 150) = true := decide_eq_true hi.2
      have p0 : (0 : Int) ≤ i := HK.out.1
      have q0 : i < (xs.length : Int) := hi.1
      have q1 := Aside0.mk hi.2
      clear hi
      obtain ⟨ko, rfl⟩ : ∃ m, gk = m + 1 := ⟨gk - 1, by have := HK.out; omega⟩
      obtain ⟨ad, e0, HXS⟩ := at_T89 HR.out i p0 q0
      cases e0
      obtain ⟨x, hx⟩ : ∃ x, xs.getD i.toNat z89 = x := ⟨_, rfl⟩
      rw [hx] at HXS
      obtain ⟨hx0, hx1, hx2, hx3, hx4, hx5, hx6, hx7, hx8, hx9, hx10⟩ := HXS
      clear hx
      obtain ⟨kd, ⟨⟨pk, ps, pp⟩, id⟩, ⟨ox, oy, ost⟩, ⟨vx, vy, vst⟩⟩ := x
      replace hx0 := (JB.out.cell (World.block_lt_of_cell? w _ hx0)).trans hx0
      replace hx1 := (JB.out.cell (World.block_lt_of_cell? w _ hx1)).trans hx1
      replace hx2 := (JB.out.cell (World.block_lt_of_cell? w _ hx2)).trans hx2
      replace hx3 := (JB.out.cell (World.block_lt_of_cell? w _ hx3)).trans hx3
      replace hx4 := (JB.out.cell (World.block_lt_of_cell? w _ hx4)).trans hx4
      replace hx5 := (JB.out.cell (World.block_lt_of_cell? w _ hx5)).trans hx5
      replace hx6 := (JB.out.cell (World.block_lt_of_cell? w _ hx6)).trans hx6
      replace hx7 := (JB.out.cell (World.block_lt_of_cell? w _ hx7)).trans hx7
      replace hx8 := (JB.out.cell (World.block_lt_of_cell? w _ hx8)).trans hx8
      replace hx9 := (JB.out.cell (World.block_lt_of_cell? w _ hx9)).trans hx9
      replace hx10 := (JB.out.cell (World.block_lt_of_cell? w _ hx10)).trans hx10
      have p0b : decide (0 ≤ i) = true := decide_eq_true p0
      have wi : wrap64 (i + 1) = i + 1 := by have := q1.out; unfold wrap64; omega
      have LR := Aside0.mk (show G.row.length ≤ 100000 by have := JR.out; have := q1.out; omega)
      have LS := Aside0.mk (show 0 ≤ G.stale ∧ G.stale ≤ 100000 by have := JR.out; have := q1.out; omega)
      replace p0 := eq_true p0
      replace q0 := eq_true q0
      have RI := Aside0.mk (show 0 ≤ i + 1 ∧ i + 1 ≤ 150 by have := HK.out; have := q1.out; omega)
      by_cases k1 : kd = 1
      · subst k1
        have XB := Aside0.mk (blk_new wr (.cells #[.int .i64 1, .int .i64 pk, .int .i64 ps, .int .i64 pp, .int .i64 id, .int .u64 ox, .int .i64 oy, .bool ost, .int .u64 vx, .int .i64 vy, .bool vst] 89))
        have XI := Aside0.mk (JI.out.alloc (.cells #[.int .i64 1, .int .i64 pk, .int .i64 ps, .int .i64 pp, .int .i64 id, .int .u64 ox, .int .i64 oy, .bool ost, .int .u64 vx, .int .i64 vy, .bool vst] 89))
        have XJ := Aside0.mk (below_alloc JB.out (.cells #[.int .i64 1, .int .i64 pk, .int .i64 ps, .int .i64 pp, .int .i64 id, .int .u64 ox, .int .i64 oy, .bool ost, .int .u64 vx, .int .i64 vy, .bool vst] 89))
        have b1 : (wr.alloc (.cells #[.int .i64 1, .int .i64 pk, .int .i64 ps, .int .i64 pp, .int .i64 id, .int .u64 ox, .int .i64 oy, .bool ost, .int .u64 vx, .int .i64 vy, .bool vst] 89)).cell? ⟨wr.heap.size, 1, none⟩ = some (.int .i64 pk) := (blk_cell XB.out 1).trans rfl
        have b2 : (wr.alloc (.cells #[.int .i64 1, .int .i64 pk, .int .i64 ps, .int .i64 pp, .int .i64 id, .int .u64 ox, .int .i64 oy, .bool ost, .int .u64 vx, .int .i64 vy, .bool vst] 89)).cell? ⟨wr.heap.size, 2, none⟩ = some (.int .i64 ps) := (blk_cell XB.out 2).trans rfl
        have b3 : (wr.alloc (.cells #[.int .i64 1, .int .i64 pk, .int .i64 ps, .int .i64 pp, .int .i64 id, .int .u64 ox, .int .i64 oy, .bool ost, .int .u64 vx, .int .i64 vy, .bool vst] 89)).cell? ⟨wr.heap.size, 3, none⟩ = some (.int .i64 pp) := (blk_cell XB.out 3).trans rfl
        have b4 : (wr.alloc (.cells #[.int .i64 1, .int .i64 pk, .int .i64 ps, .int .i64 pp, .int .i64 id, .int .u64 ox, .int .i64 oy, .bool ost, .int .u64 vx, .int .i64 vy, .bool vst] 89)).cell? ⟨wr.heap.size, 4, none⟩ = some (.int .i64 id) := (blk_cell XB.out 4).trans rfl
        go_wp2_with fail
        cases hst : staleR G pk ps id with
        | false =>
          have ST := Aside0.mk (show staleR G ((pk, ps, pp) : K3).1 ((pk, ps, pp) : K3).2.1 id = false from hst)
          clear hst
          obtain ⟨cu, hcu⟩ : ∃ a, getw G.p.m (pk, ps, pp) = a := ⟨_, rfl⟩
          obtain ⟨ld, hld⟩ : ∃ a, (get G.leads (pk, ps, pp)).getD 0 = a := ⟨_, rfl⟩
          have EV := Aside0.mk (show sloadV G ws (pk, ps, pp) id = .agg #[.int .u64 cu, .int .i64 ld, .bool false] by rw [sload_fresh ST.out, hcu, hld])
          have HCU := Aside0.mk hcu
          have HLD := Aside0.mk hld
          clear hcu hld
          refine (sload_T gh gg gp gc gm gl gs g3 G sv ws pk ps pp id w _ XI.out.s XJ.out LS.out).mono ?_
          rintro e w5 ⟨rfl, h1_, h2_, h3_⟩
          rw [EV.out]
          have YI := Aside0.mk (XI.out.s1 h1_ h3_)
          have YJ := Aside0.mk h2_
          have YB := Aside0.mk (XI.out.sS h3_ XB.out (by decide) (by decide))
          clear h1_ h2_ h3_
          clear b1 b2 b3 b4
          have YI2 := Aside0.mk (YI.out.alloc (.cells #[.int .u64 cu, .int .i64 ld, .bool false] 28))
          have YJ2 := Aside0.mk (below_alloc YJ.out (.cells #[.int .u64 cu, .int .i64 ld, .bool false] 28))
          have YB2 := Aside0.mk (blk_alloc YB.out (.cells #[.int .u64 cu, .int .i64 ld, .bool false] 28))
          have YV := Aside0.mk (blk_new w5 (.cells #[.int .u64 cu, .int .i64 ld, .bool false] 28))
          clear YI YJ YB
          have b1 : (w5.alloc (.cells #[.int .u64 cu, .int .i64 ld, .bool false] 28)).cell? ⟨wr.heap.size, 1, none⟩ = some (.int .i64 pk) := (blk_cell YB2.out 1).trans rfl
          have b2 : (w5.alloc (.cells #[.int .u64 cu, .int .i64 ld, .bool false] 28)).cell? ⟨wr.heap.size, 2, none⟩ = some (.int .i64 ps) := (blk_cell YB2.out 2).trans rfl
          have b3 : (w5.alloc (.cells #[.int .u64 cu, .int .i64 ld, .bool false] 28)).cell? ⟨wr.heap.size, 3, none⟩ = some (.int .i64 pp) := (blk_cell YB2.out 3).trans rfl
          have b4 : (w5.alloc (.cells #[.int .u64 cu, .int .i64 ld, .bool false] 28)).cell? ⟨wr.heap.size, 4, none⟩ = some (.int .i64 id) := (blk_cell YB2.out 4).trans rfl
          go_wp2_with fail
          clear b1 b2 b3 b4
          generalize w5.alloc (.cells #[.int .u64 cu, .int .i64 ld, .bool false] 28) = w6 at *
          generalize w5.heap.size = gv at *
          refine (gload_U hg hp hc hm hl hs h3 G pk ps pp id w w6 YI2.out.g YJ2.out).mono ?_
          rintro e w7 ⟨rfl, h1_, h2_, h3_⟩
          rw [HCU.out, HLD.out, show staleR G pk ps id = false from ST.out]
          have UI := Aside0.mk (YI2.out.g1 h1_ h3_)
          have UJ := Aside0.mk h2_
          have UV := Aside0.mk (YI2.out.gS h3_ YV.out (by decide) (by decide))
          clear h1_ h2_ h3_ YI2 YJ2 YB2 YV
          have ZI := Aside0.mk (UI.out.alloc (.cells #[.int .u64 cu, .int .i64 ld, .bool false] 28))
          have ZJ := Aside0.mk (below_alloc UJ.out (.cells #[.int .u64 cu, .int .i64 ld, .bool false] 28))
          have ZV := Aside0.mk (blk_alloc UV.out (.cells #[.int .u64 cu, .int .i64 ld, .bool false] 28))
          have ZW := Aside0.mk (blk_new w7 (.cells #[.int .u64 cu, .int .i64 ld, .bool false] 28))
          clear UI UJ UV
          have v0 : (w7.alloc (.cells #[.int .u64 cu, .int .i64 ld, .bool false] 28)).cell? ⟨gv, 0, none⟩ = some (.int .u64 cu) := (blk_cell ZV.out 0).trans rfl
          have v1 : (w7.alloc (.cells #[.int .u64 cu, .int .i64 ld, .bool false] 28)).cell? ⟨gv, 1, none⟩ = some (.int .i64 ld) := (blk_cell ZV.out 1).trans rfl
          have v2 : (w7.alloc (.cells #[.int .u64 cu, .int .i64 ld, .bool false] 28)).cell? ⟨gv, 2, none⟩ = some (.bool false) := (blk_cell ZV.out 2).trans rfl
          have u0 : (w7.alloc (.cells #[.int .u64 cu, .int .i64 ld, .bool false] 28)).cell? ⟨w7.heap.size, 0, none⟩ = some (.int .u64 cu) := (blk_cell ZW.out 0).trans rfl
          have u1 : (w7.alloc (.cells #[.int .u64 cu, .int .i64 ld, .bool false] 28)).cell? ⟨w7.heap.size, 1, none⟩ = some (.int .i64 ld) := (blk_cell ZW.out 1).trans rfl
          have u2 : (w7.alloc (.cells #[.int .u64 cu, .int .i64 ld, .bool false] 28)).cell? ⟨w7.heap.size, 2, none⟩ = some (.bool false) := (blk_cell ZW.out 2).trans rfl
          clear hx0 hx1 hx2 hx3 hx4 hx5 hx6 hx7 hx8 hx9 hx10
          go_wp2_with fail
          clear v0 v1 v2 u0 u1 u2
          obtain ⟨Q, hQ⟩ : ∃ Q, gloadG G (pk, ps, pp) id = Q := ⟨_, rfl⟩
          have JQ := Aside0.mk (show (Q.row.length : Int) ≤ i + 1 ∧ 0 ≤ Q.stale ∧ Q.stale ≤ i + 1 from hQ ▸ (show Aside0 (((gloadG G (pk, ps, pp) id).row.length : Int) ≤ i + 1 ∧ 0 ≤ (gloadG G (pk, ps, pp) id).stale ∧ (gloadG G (pk, ps, pp) id).stale ≤ i + 1) from ⟨by have := JR.out; rw [gload_fresh ST.out]; exact ⟨by show (G.row.length : Int) ≤ i + 1; omega, by show 0 ≤ G.stale ∧ G.stale ≤ i + 1; omega⟩⟩).out)
          rw [hQ] at ZI
          clear hQ
          refine (sfaults_T gh gg gp gc gm gl gs g3 Q sv ws w _ ZI.out.s).mono ?_
          rintro e w20 ⟨rfl, rfl⟩
          go_wp2_with fail
          refine (gfaults_T hg hp hc hm hl hs h3 Q w _ ZI.out.g).mono ?_
          rintro e w21 ⟨rfl, rfl⟩
          go_wp2_with fail
          refine (stold_T gh gg gp gc gm gl gs g3 Q sv ws w _ ZI.out.s).mono ?_
          rintro e w22 ⟨rfl, rfl⟩
          go_wp2_with fail
          refine (gstale_T hg hp hc hm hl hs h3 Q w _ ZI.out.g).mono ?_
          rintro e w23 ⟨rfl, rfl⟩
          go_wp2_with fail
          go_roundg ko
          case rel => exact ⟨i + 1, Q, by first | rfl | rw [wi], ⟨by have := HK.out; have := RI.out; omega⟩, ZI, ZJ, JQ⟩
          case measure => exact Nat.lt_succ_self _
        | true =>
          have ST := Aside0.mk (show staleR G ((pk, ps, pp) : K3).1 ((pk, ps, pp) : K3).2.1 id = true from hst)
          clear hst
          obtain ⟨a, ha⟩ : ∃ a, nextW ws (G.stale + 1) = a := ⟨_, rfl⟩
          obtain ⟨cu, hcu⟩ : ∃ a, getw G.p.m (pk, ps, pp) = a := ⟨_, rfl⟩
          obtain ⟨ld, hld⟩ : ∃ a, (get G.leads (pk, ps, pp)).getD 0 = a := ⟨_, rfl⟩
          have EV := Aside0.mk (show sloadV G ws (pk, ps, pp) id = .agg #[.int .u64 a, .int .i64 0, .bool true] by rw [sload_stale ST.out, ha])
          have HCU := Aside0.mk hcu
          have HLD := Aside0.mk hld
          clear hcu hld ha
          refine (sload_T gh gg gp gc gm gl gs g3 G sv ws pk ps pp id w _ XI.out.s XJ.out LS.out).mono ?_
          rintro e w5 ⟨rfl, h1_, h2_, h3_⟩
          rw [EV.out]
          have YI := Aside0.mk (XI.out.s1 h1_ h3_)
          have YJ := Aside0.mk h2_
          have YB := Aside0.mk (XI.out.sS h3_ XB.out (by decide) (by decide))
          clear h1_ h2_ h3_
          clear b1 b2 b3 b4
          have YI2 := Aside0.mk (YI.out.alloc (.cells #[.int .u64 a, .int .i64 0, .bool true] 28))
          have YJ2 := Aside0.mk (below_alloc YJ.out (.cells #[.int .u64 a, .int .i64 0, .bool true] 28))
          have YB2 := Aside0.mk (blk_alloc YB.out (.cells #[.int .u64 a, .int .i64 0, .bool true] 28))
          have YV := Aside0.mk (blk_new w5 (.cells #[.int .u64 a, .int .i64 0, .bool true] 28))
          clear YI YJ YB
          have b1 : (w5.alloc (.cells #[.int .u64 a, .int .i64 0, .bool true] 28)).cell? ⟨wr.heap.size, 1, none⟩ = some (.int .i64 pk) := (blk_cell YB2.out 1).trans rfl
          have b2 : (w5.alloc (.cells #[.int .u64 a, .int .i64 0, .bool true] 28)).cell? ⟨wr.heap.size, 2, none⟩ = some (.int .i64 ps) := (blk_cell YB2.out 2).trans rfl
          have b3 : (w5.alloc (.cells #[.int .u64 a, .int .i64 0, .bool true] 28)).cell? ⟨wr.heap.size, 3, none⟩ = some (.int .i64 pp) := (blk_cell YB2.out 3).trans rfl
          have b4 : (w5.alloc (.cells #[.int .u64 a, .int .i64 0, .bool true] 28)).cell? ⟨wr.heap.size, 4, none⟩ = some (.int .i64 id) := (blk_cell YB2.out 4).trans rfl
          go_wp2_with fail
          clear b1 b2 b3 b4
          generalize w5.alloc (.cells #[.int .u64 a, .int .i64 0, .bool true] 28) = w6 at *
          generalize w5.heap.size = gv at *
          refine (gload_U hg hp hc hm hl hs h3 G pk ps pp id w w6 YI2.out.g YJ2.out).mono ?_
          rintro e w7 ⟨rfl, h1_, h2_, h3_⟩
          rw [HCU.out, HLD.out, show staleR G pk ps id = true from ST.out]
          have UI := Aside0.mk (YI2.out.g1 h1_ h3_)
          have UJ := Aside0.mk h2_
          have UV := Aside0.mk (YI2.out.gS h3_ YV.out (by decide) (by decide))
          clear h1_ h2_ h3_ YI2 YJ2 YB2 YV
          have ZI := Aside0.mk (UI.out.alloc (.cells #[.int .u64 cu, .int .i64 ld, .bool true] 28))
          have ZJ := Aside0.mk (below_alloc UJ.out (.cells #[.int .u64 cu, .int .i64 ld, .bool true] 28))
          have ZV := Aside0.mk (blk_alloc UV.out (.cells #[.int .u64 cu, .int .i64 ld, .bool true] 28))
          have ZW := Aside0.mk (blk_new w7 (.cells #[.int .u64 cu, .int .i64 ld, .bool true] 28))
          clear UI UJ UV
          have v0 : (w7.alloc (.cells #[.int .u64 cu, .int .i64 ld, .bool true] 28)).cell? ⟨gv, 0, none⟩ = some (.int .u64 a) := (blk_cell ZV.out 0).trans rfl
          have v1 : (w7.alloc (.cells #[.int .u64 cu, .int .i64 ld, .bool true] 28)).cell? ⟨gv, 1, none⟩ = some (.int .i64 0) := (blk_cell ZV.out 1).trans rfl
          have v2 : (w7.alloc (.cells #[.int .u64 cu, .int .i64 ld, .bool true] 28)).cell? ⟨gv, 2, none⟩ = some (.bool true) := (blk_cell ZV.out 2).trans rfl
          have u0 : (w7.alloc (.cells #[.int .u64 cu, .int .i64 ld, .bool true] 28)).cell? ⟨w7.heap.size, 0, none⟩ = some (.int .u64 cu) := (blk_cell ZW.out 0).trans rfl
          have u1 : (w7.alloc (.cells #[.int .u64 cu, .int .i64 ld, .bool true] 28)).cell? ⟨w7.heap.size, 1, none⟩ = some (.int .i64 ld) := (blk_cell ZW.out 1).trans rfl
          have u2 : (w7.alloc (.cells #[.int .u64 cu, .int .i64 ld, .bool true] 28)).cell? ⟨w7.heap.size, 2, none⟩ = some (.bool true) := (blk_cell ZW.out 2).trans rfl
          clear hx0 hx1 hx2 hx3 hx4 hx5 hx6 hx7 hx8 hx9 hx10
          go_wp2_with fail
          clear v0 v1 v2 u0 u1 u2
          obtain ⟨Q, hQ⟩ : ∃ Q, gloadG G (pk, ps, pp) id = Q := ⟨_, rfl⟩
          have JQ := Aside0.mk (show (Q.row.length : Int) ≤ i + 1 ∧ 0 ≤ Q.stale ∧ Q.stale ≤ i + 1 from hQ ▸ (show Aside0 (((gloadG G (pk, ps, pp) id).row.length : Int) ≤ i + 1 ∧ 0 ≤ (gloadG G (pk, ps, pp) id).stale ∧ (gloadG G (pk, ps, pp) id).stale ≤ i + 1) from ⟨by have := JR.out; rw [gload_stale ST.out]; exact ⟨by show (G.row.length : Int) ≤ i + 1; omega, by have := LS.out; show 0 ≤ wrap64 (G.stale + 1) ∧ wrap64 (G.stale + 1) ≤ i + 1; unfold wrap64; omega⟩⟩).out)
          rw [hQ] at ZI
          clear hQ
          refine (sfaults_T gh gg gp gc gm gl gs g3 Q sv ws w _ ZI.out.s).mono ?_
          rintro e w20 ⟨rfl, rfl⟩
          go_wp2_with fail
          refine (gfaults_T hg hp hc hm hl hs h3 Q w _ ZI.out.g).mono ?_
          rintro e w21 ⟨rfl, rfl⟩
          go_wp2_with fail
          refine (stold_T gh gg gp gc gm gl gs g3 Q sv ws w _ ZI.out.s).mono ?_
          rintro e w22 ⟨rfl, rfl⟩
          go_wp2_with fail
          refine (gstale_T hg hp hc hm hl hs h3 Q w _ ZI.out.g).mono ?_
          rintro e w23 ⟨rfl, rfl⟩
          go_wp2_with fail
          go_roundg ko
          case rel => exact ⟨i + 1, Q, by first | rfl | rw [wi], ⟨by have := HK.out; have := RI.out; omega⟩, ZI, ZJ, JQ⟩
          case measure => exact Nat.lt_succ_self _
      have u1 : (kd == 1) = false := beq_eq_false_iff_ne.mpr k1
      clear k1
      by_cases k2 : kd = 2
      · subst k2
        have XB := Aside0.mk (blk_new wr (.cells #[.int .i64 2, .int .i64 pk, .int .i64 ps, .int .i64 pp, .int .i64 id, .int .u64 ox, .int .i64 oy, .bool ost, .int .u64 vx, .int .i64 vy, .bool vst] 89))
        have XI := Aside0.mk (JI.out.alloc (.cells #[.int .i64 2, .int .i64 pk, .int .i64 ps, .int .i64 pp, .int .i64 id, .int .u64 ox, .int .i64 oy, .bool ost, .int .u64 vx, .int .i64 vy, .bool vst] 89))
        have XJ := Aside0.mk (below_alloc JB.out (.cells #[.int .i64 2, .int .i64 pk, .int .i64 ps, .int .i64 pp, .int .i64 id, .int .u64 ox, .int .i64 oy, .bool ost, .int .u64 vx, .int .i64 vy, .bool vst] 89))
        have b1 : (wr.alloc (.cells #[.int .i64 2, .int .i64 pk, .int .i64 ps, .int .i64 pp, .int .i64 id, .int .u64 ox, .int .i64 oy, .bool ost, .int .u64 vx, .int .i64 vy, .bool vst] 89)).cell? ⟨wr.heap.size, 1, none⟩ = some (.int .i64 pk) := (blk_cell XB.out 1).trans rfl
        have b2 : (wr.alloc (.cells #[.int .i64 2, .int .i64 pk, .int .i64 ps, .int .i64 pp, .int .i64 id, .int .u64 ox, .int .i64 oy, .bool ost, .int .u64 vx, .int .i64 vy, .bool vst] 89)).cell? ⟨wr.heap.size, 2, none⟩ = some (.int .i64 ps) := (blk_cell XB.out 2).trans rfl
        have b3 : (wr.alloc (.cells #[.int .i64 2, .int .i64 pk, .int .i64 ps, .int .i64 pp, .int .i64 id, .int .u64 ox, .int .i64 oy, .bool ost, .int .u64 vx, .int .i64 vy, .bool vst] 89)).cell? ⟨wr.heap.size, 3, none⟩ = some (.int .i64 pp) := (blk_cell XB.out 3).trans rfl
        have b4 : (wr.alloc (.cells #[.int .i64 2, .int .i64 pk, .int .i64 ps, .int .i64 pp, .int .i64 id, .int .u64 ox, .int .i64 oy, .bool ost, .int .u64 vx, .int .i64 vy, .bool vst] 89)).cell? ⟨wr.heap.size, 4, none⟩ = some (.int .i64 id) := (blk_cell XB.out 4).trans rfl
        have b8 : (wr.alloc (.cells #[.int .i64 2, .int .i64 pk, .int .i64 ps, .int .i64 pp, .int .i64 id, .int .u64 ox, .int .i64 oy, .bool ost, .int .u64 vx, .int .i64 vy, .bool vst] 89)).cell? ⟨wr.heap.size, 8, none⟩ = some (.int .u64 vx) := (blk_cell XB.out 8).trans rfl
        have b9 : (wr.alloc (.cells #[.int .i64 2, .int .i64 pk, .int .i64 ps, .int .i64 pp, .int .i64 id, .int .u64 ox, .int .i64 oy, .bool ost, .int .u64 vx, .int .i64 vy, .bool vst] 89)).cell? ⟨wr.heap.size, 9, none⟩ = some (.int .i64 vy) := (blk_cell XB.out 9).trans rfl
        have b10 : (wr.alloc (.cells #[.int .i64 2, .int .i64 pk, .int .i64 ps, .int .i64 pp, .int .i64 id, .int .u64 ox, .int .i64 oy, .bool ost, .int .u64 vx, .int .i64 vy, .bool vst] 89)).cell? ⟨wr.heap.size, 10, none⟩ = some (.bool vst) := (blk_cell XB.out 10).trans rfl
        go_wp2_with fail
        refine (sstore_T gh gg gp gc gm gl gs g3 G sv ws pk ps pp id vx vy vst w _ XI.out.s XJ.out).mono ?_
        rintro e w5 ⟨rfl, h1_, h2_, h3_⟩
        have YI := Aside0.mk (XI.out.s1 h1_ h3_)
        have YJ := Aside0.mk h2_
        have YB := Aside0.mk (XI.out.sS h3_ XB.out (by decide) (by decide))
        clear h1_ h2_ h3_
        clear b1 b2 b3 b4 b8 b9 b10
        have b1 : w5.cell? ⟨wr.heap.size, 1, none⟩ = some (.int .i64 pk) := (blk_cell YB.out 1).trans rfl
        have b2 : w5.cell? ⟨wr.heap.size, 2, none⟩ = some (.int .i64 ps) := (blk_cell YB.out 2).trans rfl
        have b3 : w5.cell? ⟨wr.heap.size, 3, none⟩ = some (.int .i64 pp) := (blk_cell YB.out 3).trans rfl
        have b4 : w5.cell? ⟨wr.heap.size, 4, none⟩ = some (.int .i64 id) := (blk_cell YB.out 4).trans rfl
        have b8 : w5.cell? ⟨wr.heap.size, 8, none⟩ = some (.int .u64 vx) := (blk_cell YB.out 8).trans rfl
        have b9 : w5.cell? ⟨wr.heap.size, 9, none⟩ = some (.int .i64 vy) := (blk_cell YB.out 9).trans rfl
        have b10 : w5.cell? ⟨wr.heap.size, 10, none⟩ = some (.bool vst) := (blk_cell YB.out 10).trans rfl
        go_wp2_with fail
        clear b1 b2 b3 b4 b8 b9 b10
        refine (gstore_U hg hp hc hm hl hs h3 G pk ps pp id vx vy vst w _ YI.out.g YJ.out).mono ?_
        rintro e w6 ⟨rfl, h1_, h2_, h3_⟩
        have ZI := Aside0.mk (YI.out.g1 h1_ h3_)
        have ZJ := Aside0.mk h2_
        clear h1_ h2_ h3_
        clear hx0 hx1 hx2 hx3 hx4 hx5 hx6 hx7 hx8 hx9 hx10
        go_wp2_with fail
        obtain ⟨Q, hQ⟩ : ∃ Q, gstoreG G (pk, ps, pp) id vx vy vst = Q := ⟨_, rfl⟩
        have JQ := Aside0.mk (show (Q.row.length : Int) ≤ i + 1 ∧ 0 ≤ Q.stale ∧ Q.stale ≤ i + 1 from hQ ▸ (show Aside0 (((gstoreG G (pk, ps, pp) id vx vy vst).row.length : Int) ≤ i + 1 ∧ 0 ≤ (gstoreG G (pk, ps, pp) id vx vy vst).stale ∧ (gstoreG G (pk, ps, pp) id vx vy vst).stale ≤ i + 1) from ⟨by have := JR.out; show (G.row.length : Int) ≤ i + 1 ∧ 0 ≤ G.stale ∧ G.stale ≤ i + 1; omega⟩).out)
        rw [hQ] at ZI
        clear hQ
        refine (sfaults_T gh gg gp gc gm gl gs g3 Q sv ws w _ ZI.out.s).mono ?_
        rintro e w20 ⟨rfl, rfl⟩
        go_wp2_with fail
        refine (gfaults_T hg hp hc hm hl hs h3 Q w _ ZI.out.g).mono ?_
        rintro e w21 ⟨rfl, rfl⟩
        go_wp2_with fail
        refine (stold_T gh gg gp gc gm gl gs g3 Q sv ws w _ ZI.out.s).mono ?_
        rintro e w22 ⟨rfl, rfl⟩
        go_wp2_with fail
        refine (gstale_T hg hp hc hm hl hs h3 Q w _ ZI.out.g).mono ?_
        rintro e w23 ⟨rfl, rfl⟩
        go_wp2_with fail
        go_roundg ko
        case rel => exact ⟨i + 1, Q, by first | rfl | rw [wi], ⟨by have := HK.out; have := RI.out; omega⟩, ZI, ZJ, JQ⟩
        case measure => exact Nat.lt_succ_self _
      have u2 : (kd == 2) = false := beq_eq_false_iff_ne.mpr k2
      clear k2
      by_cases k3 : kd = 3
      · subst k3
        have XB := Aside0.mk (blk_drew (blk_new wr (.cells #[.int .i64 3, .int .i64 pk, .int .i64 ps, .int .i64 pp, .int .i64 id, .int .u64 ox, .int .i64 oy, .bool ost, .int .u64 vx, .int .i64 vy, .bool vst] 89)))
        have XI := Aside0.mk (JI.out.alloc (.cells #[.int .i64 3, .int .i64 pk, .int .i64 ps, .int .i64 pp, .int .i64 id, .int .u64 ox, .int .i64 oy, .bool ost, .int .u64 vx, .int .i64 vy, .bool vst] 89)).drew
        have XJ := Aside0.mk (below_drew (below_alloc JB.out (.cells #[.int .i64 3, .int .i64 pk, .int .i64 ps, .int .i64 pp, .int .i64 id, .int .u64 ox, .int .i64 oy, .bool ost, .int .u64 vx, .int .i64 vy, .bool vst] 89)))
        go_wp2_with fail
        refine start_ (n := 18) (S := fun w' => w'.cell? ⟨wr.heap.size, 1, none⟩ = some (.int .i64 pk) ∧ w'.cell? ⟨wr.heap.size, 2, none⟩ = some (.int .i64 ps) ∧ w'.cell? ⟨wr.heap.size, 3, none⟩ = some (.int .i64 pp) ∧ w'.cell? ⟨wr.heap.size, 4, none⟩ = some (.int .i64 id) ∧ w'.cell? ⟨wr.heap.size, 5, none⟩ = some (.int .u64 ox) ∧ w'.cell? ⟨wr.heap.size, 6, none⟩ = some (.int .i64 oy) ∧ w'.cell? ⟨wr.heap.size, 7, none⟩ = some (.bool ost) ∧ w'.cell? ⟨wr.heap.size, 8, none⟩ = some (.int .u64 vx) ∧ w'.cell? ⟨wr.heap.size, 9, none⟩ = some (.int .i64 vy) ∧ w'.cell? ⟨wr.heap.size, 10, none⟩ = some (.bool vst)) (ds := [15]) #[false, false, false, false, false, false, false, false, false, false, false, false, false, false, false, false, false, false] (by kernel_rfl) rfl rfl ⟨(blk_cell XB.out 1).trans rfl, (blk_cell XB.out 2).trans rfl, (blk_cell XB.out 3).trans rfl, (blk_cell XB.out 4).trans rfl, (blk_cell XB.out 5).trans rfl, (blk_cell XB.out 6).trans rfl, (blk_cell XB.out 7).trans rfl, (blk_cell XB.out 8).trans rfl, (blk_cell XB.out 9).trans rfl, (blk_cell XB.out 10).trans rfl⟩ (fun hHeld => ?_)
        refine pure_ (i := 0) (N := some 73) (v := ?_) (a' := ?_) #[true, false, false, false, false, false, false, false, false, false, false, false, false, false, false, false, false, false] rfl rfl (by kernel_rfl) (fun _ _ _ h => h) (Or.inl ⟨by rfl, ?_⟩) ?_ ?_
        rotate_left
        · intro w'
          go_simp
          with_reducible rfl
        rotate_left
        · simp only [Act.put, List.setIfInBounds_toArray, List.set_cons_zero, List.set_cons_succ, i64_w, i32_w]
          rfl
        refine pure_ (i := 1) (N := some 74) (v := ?_) (a' := ?_) #[true, true, false, false, false, false, false, false, false, false, false, false, false, false, false, false, false, false] rfl rfl (by kernel_rfl) (fun _ _ _ h => h) (Or.inl ⟨by rfl, ?_⟩) ?_ ?_
        rotate_left
        · intro w'
          go_simp
          with_reducible rfl
        rotate_left
        · simp only [Act.put, List.setIfInBounds_toArray, List.set_cons_zero, List.set_cons_succ, i64_w, i32_w]
          rfl
        refine pure_ (i := 3) (N := some 76) (v := ?_) (a' := ?_) #[true, true, false, true, false, false, false, false, false, false, false, false, false, false, false, false, false, false] rfl rfl (by kernel_rfl) (fun _ _ _ h => h) (Or.inl ⟨by rfl, ?_⟩) ?_ ?_
        rotate_left
        · intro w'
          go_simp
          with_reducible rfl
        rotate_left
        · simp only [Act.put, List.setIfInBounds_toArray, List.set_cons_zero, List.set_cons_succ, i64_w, i32_w]
          rfl
        refine pure_ (i := 5) (N := some 78) (v := ?_) (a' := ?_) #[true, true, false, true, false, true, false, false, false, false, false, false, false, false, false, false, false, false] rfl rfl (by kernel_rfl) (fun _ _ _ h => h) (Or.inl ⟨by rfl, ?_⟩) ?_ ?_
        rotate_left
        · intro w'
          go_simp
          with_reducible rfl
        rotate_left
        · simp only [Act.put, List.setIfInBounds_toArray, List.set_cons_zero, List.set_cons_succ, i64_w, i32_w]
          rfl
        refine pure_ (i := 8) (N := some 81) (v := ?_) (a' := ?_) #[true, true, false, true, false, true, false, false, true, false, false, false, false, false, false, false, false, false] rfl rfl (by kernel_rfl) (fun _ _ _ h => h) (Or.inl ⟨by rfl, ?_⟩) ?_ ?_
        rotate_left
        · intro w'
          go_simp
          with_reducible rfl
        rotate_left
        · simp only [Act.put, List.setIfInBounds_toArray, List.set_cons_zero, List.set_cons_succ, i64_w, i32_w]
          rfl
        refine pure_ (i := 9) (N := some 82) (v := ?_) (a' := ?_) #[true, true, false, true, false, true, false, false, true, true, false, false, false, false, false, false, false, false] rfl rfl (by kernel_rfl) (fun _ _ _ h => h) (Or.inl ⟨by rfl, ?_⟩) ?_ ?_
        rotate_left
        · intro w'
          go_simp
          with_reducible rfl
        rotate_left
        · simp only [Act.put, List.setIfInBounds_toArray, List.set_cons_zero, List.set_cons_succ, i64_w, i32_w]
          rfl
        refine pure_ (i := 11) (N := some 84) (v := ?_) (a' := ?_) #[true, true, false, true, false, true, false, false, true, true, false, true, false, false, false, false, false, false] rfl rfl (by kernel_rfl) (fun _ _ _ h => h) (Or.inl ⟨by rfl, ?_⟩) ?_ ?_
        rotate_left
        · intro w'
          go_simp
          with_reducible rfl
        rotate_left
        · simp only [Act.put, List.setIfInBounds_toArray, List.set_cons_zero, List.set_cons_succ, i64_w, i32_w]
          rfl
        refine pure_ (i := 13) (N := some 86) (v := ?_) (a' := ?_) #[true, true, false, true, false, true, false, false, true, true, false, true, false, true, false, false, false, false] rfl rfl (by kernel_rfl) (fun _ _ _ h => h) (Or.inl ⟨by rfl, ?_⟩) ?_ ?_
        rotate_left
        · intro w'
          go_simp
          with_reducible rfl
        rotate_left
        · simp only [Act.put, List.setIfInBounds_toArray, List.set_cons_zero, List.set_cons_succ, i64_w, i32_w]
          rfl
        refine take_ (i := 2) (N := some 75) (v := ?_) (a' := ?_) #[true, true, true, true, false, true, false, false, true, true, false, true, false, true, false, false, false, false] rfl rfl (by kernel_rfl) (fun _ _ _ h => h) (Or.inl ⟨by rfl, ?_⟩) hHeld ?_ ?_
        rotate_left
        · rintro w' ⟨s0, s1, s2, s3, s4, s5, s6, s7, s8, s9⟩
          go_simp
          with_reducible rfl
        rotate_left
        · simp only [Act.put, List.setIfInBounds_toArray, List.set_cons_zero, List.set_cons_succ, i64_w, i32_w]
          rfl
        refine take_ (i := 4) (N := some 77) (v := ?_) (a' := ?_) #[true, true, true, true, true, true, false, false, true, true, false, true, false, true, false, false, false, false] rfl rfl (by kernel_rfl) (fun _ _ _ h => h) (Or.inl ⟨by rfl, ?_⟩) hHeld ?_ ?_
        rotate_left
        · rintro w' ⟨s0, s1, s2, s3, s4, s5, s6, s7, s8, s9⟩
          go_simp
          with_reducible rfl
        rotate_left
        · simp only [Act.put, List.setIfInBounds_toArray, List.set_cons_zero, List.set_cons_succ, i64_w, i32_w]
          rfl
        refine take_ (i := 6) (N := some 79) (v := ?_) (a' := ?_) #[true, true, true, true, true, true, true, false, true, true, false, true, false, true, false, false, false, false] rfl rfl (by kernel_rfl) (fun _ _ _ h => h) (Or.inl ⟨by rfl, ?_⟩) hHeld ?_ ?_
        rotate_left
        · rintro w' ⟨s0, s1, s2, s3, s4, s5, s6, s7, s8, s9⟩
          go_simp
          with_reducible rfl
        rotate_left
        · simp only [Act.put, List.setIfInBounds_toArray, List.set_cons_zero, List.set_cons_succ, i64_w, i32_w]
          rfl
        refine take_ (i := 10) (N := some 83) (v := ?_) (a' := ?_) #[true, true, true, true, true, true, true, false, true, true, true, true, false, true, false, false, false, false] rfl rfl (by kernel_rfl) (fun _ _ _ h => h) (Or.inl ⟨by rfl, ?_⟩) hHeld ?_ ?_
        rotate_left
        · rintro w' ⟨s0, s1, s2, s3, s4, s5, s6, s7, s8, s9⟩
          go_simp
          with_reducible rfl
        rotate_left
        · simp only [Act.put, List.setIfInBounds_toArray, List.set_cons_zero, List.set_cons_succ, i64_w, i32_w]
          rfl
        refine take_ (i := 12) (N := some 85) (v := ?_) (a' := ?_) #[true, true, true, true, true, true, true, false, true, true, true, true, true, true, false, false, false, false] rfl rfl (by kernel_rfl) (fun _ _ _ h => h) (Or.inl ⟨by rfl, ?_⟩) hHeld ?_ ?_
        rotate_left
        · rintro w' ⟨s0, s1, s2, s3, s4, s5, s6, s7, s8, s9⟩
          go_simp
          with_reducible rfl
        rotate_left
        · simp only [Act.put, List.setIfInBounds_toArray, List.set_cons_zero, List.set_cons_succ, i64_w, i32_w]
          rfl
        refine take_ (i := 14) (N := some 87) (v := ?_) (a' := ?_) #[true, true, true, true, true, true, true, false, true, true, true, true, true, true, true, false, false, false] rfl rfl (by kernel_rfl) (fun _ _ _ h => h) (Or.inl ⟨by rfl, ?_⟩) hHeld ?_ ?_
        rotate_left
        · rintro w' ⟨s0, s1, s2, s3, s4, s5, s6, s7, s8, s9⟩
          go_simp
          with_reducible rfl
        rotate_left
        · simp only [Act.put, List.setIfInBounds_toArray, List.set_cons_zero, List.set_cons_succ, i64_w, i32_w]
          rfl
        refine one_ (i := 7) (N := some 80) #[true, true, true, true, true, true, true, true, true, true, true, true, true, true, true, false, false, false] rfl rfl (by kernel_rfl) (by decide) (fun K hK => ?_)
        refine goes_ Try.func61 (by kernel_rfl) rfl #[.pointer (some ⟨gh, 0, none⟩), Value.agg #[.int .i64 pk, .int .i64 ps, .int .i64 pp, .int .i64 id], Value.agg #[.int .u64 ox, .int .i64 oy, .bool ost], Value.agg #[.int .u64 vx, .int .i64 vy, .bool vst]] (by rfl) rfl rfl (by simp only [List.map_toArray, List.map_cons, List.map_nil]; rfl) ?_
        with_reducible refine (sswap_T gh gg gp gc gm gl gs g3 G sv ws pk ps pp id ox oy vx vy ost vst w _ XI.out.s XJ.out).mono ?_
        rintro e w5 ⟨rfl, h1_, h2_, h3_⟩
        refine ⟨_, rfl, ?_⟩
        have YI := Aside0.mk (XI.out.s1 h1_ h3_)
        have YJ := Aside0.mk h2_
        have YB := Aside0.mk (XI.out.sS h3_ XB.out (by decide) (by decide))
        clear h1_ h2_ h3_
        refine hK.out _ _ ⟨(blk_cell YB.out 1).trans rfl, (blk_cell YB.out 2).trans rfl, (blk_cell YB.out 3).trans rfl, (blk_cell YB.out 4).trans rfl, (blk_cell YB.out 5).trans rfl, (blk_cell YB.out 6).trans rfl, (blk_cell YB.out 7).trans rfl, (blk_cell YB.out 8).trans rfl, (blk_cell YB.out 9).trans rfl, (blk_cell YB.out 10).trans rfl⟩ (fun hHeld => ?_)
        clear hK K
        refine norm_ (a' := ?_) ?_ ?_
        rotate_left
        · show Act.put _ (some 80) _ = _
          simp only [Act.put, List.setIfInBounds_toArray, List.set_cons_zero, List.set_cons_succ, i64_w, i32_w]
          rfl
        refine last_ (i := 15) (N := some 88) #[true, true, true, true, true, true, true, true, true, true, true, true, true, true, true, true, false, false] rfl rfl (by kernel_rfl) (by decide) (fun K hK => ?_)
        refine goes_ Try.func46 (by kernel_rfl) rfl #[.pointer (some ⟨hg, 0, none⟩), Value.agg #[.int .i64 pk, .int .i64 ps, .int .i64 pp, .int .i64 id], Value.agg #[.int .u64 ox, .int .i64 oy, .bool ost], Value.agg #[.int .u64 vx, .int .i64 vy, .bool vst]] (by rfl) rfl rfl (by simp only [List.map_toArray, List.map_cons, List.map_nil]; rfl) ?_
        with_reducible refine (gswap_U hg hp hc hm hl hs h3 G pk ps pp id ox oy vx vy ost vst w _ YI.out.g YJ.out).mono ?_
        rintro e w6 ⟨rfl, h1_, h2_, h3_⟩
        refine ⟨_, rfl, ?_⟩
        have ZI := Aside0.mk (YI.out.g1 h1_ h3_)
        have ZJ := Aside0.mk h2_
        clear h1_ h2_ h3_
        refine hK.out _ _ ?_
        clear hK K
        refine norm_ (a' := ?_) ?_ ?_
        rotate_left
        · show Act.put _ (some 88) _ = _
          simp only [Act.put, List.setIfInBounds_toArray, List.set_cons_zero, List.set_cons_succ, i64_w, i32_w]
          rfl
        refine pure_ (i := 16) (N := some 89) (v := ?_) (a' := ?_) #[true, true, true, true, true, true, true, true, true, true, true, true, true, true, true, true, true, false] rfl rfl (by kernel_rfl) (fun _ _ _ h => h) (Or.inl ⟨by rfl, ?_⟩) ?_ ?_
        rotate_left
        · intro w'
          go_simp
          with_reducible rfl
        rotate_left
        · simp only [Act.put, List.setIfInBounds_toArray, List.set_cons_zero, List.set_cons_succ, i64_w, i32_w]
          rfl
        refine pure_ (i := 17) (N := some 9) (v := ?_) (a' := ?_) #[true, true, true, true, true, true, true, true, true, true, true, true, true, true, true, true, true, true] rfl rfl (by kernel_rfl) (fun _ _ _ h => h) (Or.inl ⟨by rfl, ?_⟩) ?_ ?_
        rotate_left
        · intro w'
          go_simp
          with_reducible rfl
        rotate_left
        · simp only [Act.put, List.setIfInBounds_toArray, List.set_cons_zero, List.set_cons_succ, i64_w, i32_w]
          rfl
        refine done_ (by kernel_rfl) ?_
        clear hx0 hx1 hx2 hx3 hx4 hx5 hx6 hx7 hx8 hx9 hx10
        go_wp2_with fail
        obtain ⟨Q, hQ⟩ : ∃ Q, gswapG G (pk, ps, pp) id ox vx vy (ost || vst) = Q := ⟨_, rfl⟩
        have JQ := Aside0.mk (show (Q.row.length : Int) ≤ i + 1 ∧ 0 ≤ Q.stale ∧ Q.stale ≤ i + 1 from hQ ▸ (show Aside0 (((gswapG G (pk, ps, pp) id ox vx vy (ost || vst)).row.length : Int) ≤ i + 1 ∧ 0 ≤ (gswapG G (pk, ps, pp) id ox vx vy (ost || vst)).stale ∧ (gswapG G (pk, ps, pp) id ox vx vy (ost || vst)).stale ≤ i + 1) from ⟨by have := JR.out; rw [show (gswapG G (pk, ps, pp) id ox vx vy (ost || vst)).row = G.row by unfold gswapG; split <;> rfl, show (gswapG G (pk, ps, pp) id ox vx vy (ost || vst)).stale = G.stale by unfold gswapG; split <;> rfl]; omega⟩).out)
        rw [hQ] at ZI
        clear hQ
        refine (sfaults_T gh gg gp gc gm gl gs g3 Q sv ws w _ ZI.out.s).mono ?_
        rintro e w20 ⟨rfl, rfl⟩
        go_wp2_with fail
        refine (gfaults_T hg hp hc hm hl hs h3 Q w _ ZI.out.g).mono ?_
        rintro e w21 ⟨rfl, rfl⟩
        go_wp2_with fail
        refine (stold_T gh gg gp gc gm gl gs g3 Q sv ws w _ ZI.out.s).mono ?_
        rintro e w22 ⟨rfl, rfl⟩
        go_wp2_with fail
        refine (gstale_T hg hp hc hm hl hs h3 Q w _ ZI.out.g).mono ?_
        rintro e w23 ⟨rfl, rfl⟩
        go_wp2_with fail
        go_roundg ko
        case rel => exact ⟨i + 1, Q, by first | rfl | rw [wi], ⟨by have := HK.out; have := RI.out; omega⟩, ZI, ZJ, JQ⟩
        case measure => exact Nat.lt_succ_self _
      have u3 : (kd == 3) = false := beq_eq_false_iff_ne.mpr k3
      clear k3
      by_cases k5 : kd = 5
      · subst k5
        have XB := Aside0.mk (blk_drew (blk_new wr (.cells #[.int .i64 5, .int .i64 pk, .int .i64 ps, .int .i64 pp, .int .i64 id, .int .u64 ox, .int .i64 oy, .bool ost, .int .u64 vx, .int .i64 vy, .bool vst] 89)))
        have XI := Aside0.mk (JI.out.alloc (.cells #[.int .i64 5, .int .i64 pk, .int .i64 ps, .int .i64 pp, .int .i64 id, .int .u64 ox, .int .i64 oy, .bool ost, .int .u64 vx, .int .i64 vy, .bool vst] 89)).drew
        have XJ := Aside0.mk (below_drew (below_alloc JB.out (.cells #[.int .i64 5, .int .i64 pk, .int .i64 ps, .int .i64 pp, .int .i64 id, .int .u64 ox, .int .i64 oy, .bool ost, .int .u64 vx, .int .i64 vy, .bool vst] 89)))
        go_wp2_with fail
        refine start_ (n := 16) (S := fun w' => w'.cell? ⟨wr.heap.size, 1, none⟩ = some (.int .i64 pk) ∧ w'.cell? ⟨wr.heap.size, 2, none⟩ = some (.int .i64 ps) ∧ w'.cell? ⟨wr.heap.size, 3, none⟩ = some (.int .i64 pp) ∧ w'.cell? ⟨wr.heap.size, 4, none⟩ = some (.int .i64 id) ∧ w'.cell? ⟨wr.heap.size, 8, none⟩ = some (.int .u64 vx)) (ds := [13]) #[false, false, false, false, false, false, false, false, false, false, false, false, false, false, false, false] (by kernel_rfl) rfl rfl ⟨(blk_cell XB.out 1).trans rfl, (blk_cell XB.out 2).trans rfl, (blk_cell XB.out 3).trans rfl, (blk_cell XB.out 4).trans rfl, (blk_cell XB.out 8).trans rfl⟩ (fun hHeld => ?_)
        refine pure_ (i := 0) (N := some 92) (v := ?_) (a' := ?_) #[true, false, false, false, false, false, false, false, false, false, false, false, false, false, false, false] rfl rfl (by kernel_rfl) (fun _ _ _ h => h) (Or.inl ⟨by rfl, ?_⟩) ?_ ?_
        rotate_left
        · intro w'
          go_simp
          with_reducible rfl
        rotate_left
        · simp only [Act.put, List.setIfInBounds_toArray, List.set_cons_zero, List.set_cons_succ, i64_w, i32_w]
          rfl
        refine pure_ (i := 1) (N := some 93) (v := ?_) (a' := ?_) #[true, true, false, false, false, false, false, false, false, false, false, false, false, false, false, false] rfl rfl (by kernel_rfl) (fun _ _ _ h => h) (Or.inl ⟨by rfl, ?_⟩) ?_ ?_
        rotate_left
        · intro w'
          go_simp
          with_reducible rfl
        rotate_left
        · simp only [Act.put, List.setIfInBounds_toArray, List.set_cons_zero, List.set_cons_succ, i64_w, i32_w]
          rfl
        refine pure_ (i := 3) (N := some 95) (v := ?_) (a' := ?_) #[true, true, false, true, false, false, false, false, false, false, false, false, false, false, false, false] rfl rfl (by kernel_rfl) (fun _ _ _ h => h) (Or.inl ⟨by rfl, ?_⟩) ?_ ?_
        rotate_left
        · intro w'
          go_simp
          with_reducible rfl
        rotate_left
        · simp only [Act.put, List.setIfInBounds_toArray, List.set_cons_zero, List.set_cons_succ, i64_w, i32_w]
          rfl
        refine pure_ (i := 4) (N := some 96) (v := ?_) (a' := ?_) #[true, true, false, true, true, false, false, false, false, false, false, false, false, false, false, false] rfl rfl (by kernel_rfl) (fun _ _ _ h => h) (Or.inl ⟨by rfl, ?_⟩) ?_ ?_
        rotate_left
        · intro w'
          go_simp
          with_reducible rfl
        rotate_left
        · simp only [Act.put, List.setIfInBounds_toArray, List.set_cons_zero, List.set_cons_succ, i64_w, i32_w]
          rfl
        refine pure_ (i := 7) (N := some 99) (v := ?_) (a' := ?_) #[true, true, false, true, true, false, false, true, false, false, false, false, false, false, false, false] rfl rfl (by kernel_rfl) (fun _ _ _ h => h) (Or.inl ⟨by rfl, ?_⟩) ?_ ?_
        rotate_left
        · intro w'
          go_simp
          with_reducible rfl
        rotate_left
        · simp only [Act.put, List.setIfInBounds_toArray, List.set_cons_zero, List.set_cons_succ, i64_w, i32_w]
          rfl
        refine pure_ (i := 8) (N := some 100) (v := ?_) (a' := ?_) #[true, true, false, true, true, false, false, true, true, false, false, false, false, false, false, false] rfl rfl (by kernel_rfl) (fun _ _ _ h => h) (Or.inl ⟨by rfl, ?_⟩) ?_ ?_
        rotate_left
        · intro w'
          go_simp
          with_reducible rfl
        rotate_left
        · simp only [Act.put, List.setIfInBounds_toArray, List.set_cons_zero, List.set_cons_succ, i64_w, i32_w]
          rfl
        refine pure_ (i := 10) (N := some 102) (v := ?_) (a' := ?_) #[true, true, false, true, true, false, false, true, true, false, true, false, false, false, false, false] rfl rfl (by kernel_rfl) (fun _ _ _ h => h) (Or.inl ⟨by rfl, ?_⟩) ?_ ?_
        rotate_left
        · intro w'
          go_simp
          with_reducible rfl
        rotate_left
        · simp only [Act.put, List.setIfInBounds_toArray, List.set_cons_zero, List.set_cons_succ, i64_w, i32_w]
          rfl
        refine pure_ (i := 11) (N := some 103) (v := ?_) (a' := ?_) #[true, true, false, true, true, false, false, true, true, false, true, true, false, false, false, false] rfl rfl (by kernel_rfl) (fun _ _ _ h => h) (Or.inl ⟨by rfl, ?_⟩) ?_ ?_
        rotate_left
        · intro w'
          go_simp
          with_reducible rfl
        rotate_left
        · simp only [Act.put, List.setIfInBounds_toArray, List.set_cons_zero, List.set_cons_succ, i64_w, i32_w]
          rfl
        refine take_ (i := 2) (N := some 94) (v := ?_) (a' := ?_) #[true, true, true, true, true, false, false, true, true, false, true, true, false, false, false, false] rfl rfl (by kernel_rfl) (fun _ _ _ h => h) (Or.inl ⟨by rfl, ?_⟩) hHeld ?_ ?_
        rotate_left
        · rintro w' ⟨s0, s1, s2, s3, s4⟩
          go_simp
          with_reducible rfl
        rotate_left
        · simp only [Act.put, List.setIfInBounds_toArray, List.set_cons_zero, List.set_cons_succ, i64_w, i32_w]
          rfl
        refine take_ (i := 5) (N := some 97) (v := ?_) (a' := ?_) #[true, true, true, true, true, true, false, true, true, false, true, true, false, false, false, false] rfl rfl (by kernel_rfl) (fun _ _ _ h => h) (Or.inl ⟨by rfl, ?_⟩) hHeld ?_ ?_
        rotate_left
        · rintro w' ⟨s0, s1, s2, s3, s4⟩
          go_simp
          with_reducible rfl
        rotate_left
        · simp only [Act.put, List.setIfInBounds_toArray, List.set_cons_zero, List.set_cons_succ, i64_w, i32_w]
          rfl
        refine take_ (i := 9) (N := some 101) (v := ?_) (a' := ?_) #[true, true, true, true, true, true, false, true, true, true, true, true, false, false, false, false] rfl rfl (by kernel_rfl) (fun _ _ _ h => h) (Or.inl ⟨by rfl, ?_⟩) hHeld ?_ ?_
        rotate_left
        · rintro w' ⟨s0, s1, s2, s3, s4⟩
          go_simp
          with_reducible rfl
        rotate_left
        · simp only [Act.put, List.setIfInBounds_toArray, List.set_cons_zero, List.set_cons_succ, i64_w, i32_w]
          rfl
        refine take_ (i := 12) (N := some 104) (v := ?_) (a' := ?_) #[true, true, true, true, true, true, false, true, true, true, true, true, true, false, false, false] rfl rfl (by kernel_rfl) (fun _ _ _ h => h) (Or.inl ⟨by rfl, ?_⟩) hHeld ?_ ?_
        rotate_left
        · rintro w' ⟨s0, s1, s2, s3, s4⟩
          go_simp
          with_reducible rfl
        rotate_left
        · simp only [Act.put, List.setIfInBounds_toArray, List.set_cons_zero, List.set_cons_succ, i64_w, i32_w]
          rfl
        refine one_ (i := 6) (N := some 98) #[true, true, true, true, true, true, true, true, true, true, true, true, true, false, false, false] rfl rfl (by kernel_rfl) (by decide) (fun K hK => ?_)
        refine goes_ Try.func62 (by kernel_rfl) rfl #[.pointer (some ⟨gh, 0, none⟩), Value.agg #[.int .i64 pk, .int .i64 ps, .int .i64 pp, .int .i64 id], .int .u64 vx] (by rfl) rfl rfl (by simp only [List.map_toArray, List.map_cons, List.map_nil]; rfl) ?_
        with_reducible refine (sadd_T gh gg gp gc gm gl gs g3 G sv ws pk ps pp id vx w _ XI.out.s XJ.out).mono ?_
        rintro e w5 ⟨rfl, h1_, h2_, h3_⟩
        refine ⟨_, rfl, ?_⟩
        have YI := Aside0.mk (XI.out.s1 h1_ h3_)
        have YJ := Aside0.mk h2_
        have YB := Aside0.mk (XI.out.sS h3_ XB.out (by decide) (by decide))
        clear h1_ h2_ h3_
        refine hK.out _ _ ⟨(blk_cell YB.out 1).trans rfl, (blk_cell YB.out 2).trans rfl, (blk_cell YB.out 3).trans rfl, (blk_cell YB.out 4).trans rfl, (blk_cell YB.out 8).trans rfl⟩ (fun hHeld => ?_)
        clear hK K
        refine norm_ (a' := ?_) ?_ ?_
        rotate_left
        · show Act.put _ (some 98) _ = _
          simp only [Act.put, List.setIfInBounds_toArray, List.set_cons_zero, List.set_cons_succ, i64_w, i32_w]
          rfl
        refine last_ (i := 13) (N := some 105) #[true, true, true, true, true, true, true, true, true, true, true, true, true, true, false, false] rfl rfl (by kernel_rfl) (by decide) (fun K hK => ?_)
        refine goes_ Try.func48 (by kernel_rfl) rfl #[.pointer (some ⟨hg, 0, none⟩), Value.agg #[.int .i64 pk, .int .i64 ps, .int .i64 pp, .int .i64 id], .int .u64 vx] (by rfl) rfl rfl (by simp only [List.map_toArray, List.map_cons, List.map_nil]; rfl) ?_
        with_reducible refine (gadd_U hg hp hc hm hl hs h3 G pk ps pp id vx w _ YI.out.g YJ.out).mono ?_
        rintro e w6 ⟨rfl, h1_, h2_, h3_⟩
        refine ⟨_, rfl, ?_⟩
        have ZI := Aside0.mk (YI.out.g1 h1_ h3_)
        have ZJ := Aside0.mk h2_
        clear h1_ h2_ h3_
        refine hK.out _ _ ?_
        clear hK K
        refine norm_ (a' := ?_) ?_ ?_
        rotate_left
        · show Act.put _ (some 105) _ = _
          simp only [Act.put, List.setIfInBounds_toArray, List.set_cons_zero, List.set_cons_succ, i64_w, i32_w]
          rfl
        refine pure_ (i := 14) (N := some 106) (v := ?_) (a' := ?_) #[true, true, true, true, true, true, true, true, true, true, true, true, true, true, true, false] rfl rfl (by kernel_rfl) (fun _ _ _ h => h) (Or.inl ⟨by rfl, ?_⟩) ?_ ?_
        rotate_left
        · intro w'
          go_simp
          with_reducible rfl
        rotate_left
        · simp only [Act.put, List.setIfInBounds_toArray, List.set_cons_zero, List.set_cons_succ, i64_w, i32_w]
          rfl
        refine pure_ (i := 15) (N := some 9) (v := ?_) (a' := ?_) #[true, true, true, true, true, true, true, true, true, true, true, true, true, true, true, true] rfl rfl (by kernel_rfl) (fun _ _ _ h => h) (Or.inl ⟨by rfl, ?_⟩) ?_ ?_
        rotate_left
        · intro w'
          go_simp
          with_reducible rfl
        rotate_left
        · simp only [Act.put, List.setIfInBounds_toArray, List.set_cons_zero, List.set_cons_succ, i64_w, i32_w]
          rfl
        refine done_ (by kernel_rfl) ?_
        clear hx0 hx1 hx2 hx3 hx4 hx5 hx6 hx7 hx8 hx9 hx10
        go_wp2_with fail
        obtain ⟨Q, hQ⟩ : ∃ Q, gaddG G (pk, ps, pp) vx = Q := ⟨_, rfl⟩
        have JQ := Aside0.mk (show (Q.row.length : Int) ≤ i + 1 ∧ 0 ≤ Q.stale ∧ Q.stale ≤ i + 1 from hQ ▸ (show Aside0 (((gaddG G (pk, ps, pp) vx).row.length : Int) ≤ i + 1 ∧ 0 ≤ (gaddG G (pk, ps, pp) vx).stale ∧ (gaddG G (pk, ps, pp) vx).stale ≤ i + 1) from ⟨by have := JR.out; show (G.row.length : Int) ≤ i + 1 ∧ 0 ≤ G.stale ∧ G.stale ≤ i + 1; omega⟩).out)
        rw [hQ] at ZI
        clear hQ
        refine (sfaults_T gh gg gp gc gm gl gs g3 Q sv ws w _ ZI.out.s).mono ?_
        rintro e w20 ⟨rfl, rfl⟩
        go_wp2_with fail
        refine (gfaults_T hg hp hc hm hl hs h3 Q w _ ZI.out.g).mono ?_
        rintro e w21 ⟨rfl, rfl⟩
        go_wp2_with fail
        refine (stold_T gh gg gp gc gm gl gs g3 Q sv ws w _ ZI.out.s).mono ?_
        rintro e w22 ⟨rfl, rfl⟩
        go_wp2_with fail
        refine (gstale_T hg hp hc hm hl hs h3 Q w _ ZI.out.g).mono ?_
        rintro e w23 ⟨rfl, rfl⟩
        go_wp2_with fail
        go_roundg ko
        case rel => exact ⟨i + 1, Q, by first | rfl | rw [wi], ⟨by have := HK.out; have := RI.out; omega⟩, ZI, ZJ, JQ⟩
        case measure => exact Nat.lt_succ_self _
      have u5 : (kd == 5) = false := beq_eq_false_iff_ne.mpr k5
      clear k5
      by_cases k6 : kd = 6
      · subst k6
        have XB := Aside0.mk (blk_drew (blk_new wr (.cells #[.int .i64 6, .int .i64 pk, .int .i64 ps, .int .i64 pp, .int .i64 id, .int .u64 ox, .int .i64 oy, .bool ost, .int .u64 vx, .int .i64 vy, .bool vst] 89)))
        have XI := Aside0.mk (JI.out.alloc (.cells #[.int .i64 6, .int .i64 pk, .int .i64 ps, .int .i64 pp, .int .i64 id, .int .u64 ox, .int .i64 oy, .bool ost, .int .u64 vx, .int .i64 vy, .bool vst] 89)).drew
        have XJ := Aside0.mk (below_drew (below_alloc JB.out (.cells #[.int .i64 6, .int .i64 pk, .int .i64 ps, .int .i64 pp, .int .i64 id, .int .u64 ox, .int .i64 oy, .bool ost, .int .u64 vx, .int .i64 vy, .bool vst] 89)))
        go_wp2_with fail
        refine start_ (n := 14) (S := fun w' => w'.cell? ⟨wr.heap.size, 2, none⟩ = some (.int .i64 ps)) (ds := [11]) #[false, false, false, false, false, false, false, false, false, false, false, false, false, false] (by kernel_rfl) rfl rfl ((blk_cell XB.out 2).trans rfl) (fun hHeld => ?_)
        refine pure_ (i := 0) (N := some 109) (v := ?_) (a' := ?_) #[true, false, false, false, false, false, false, false, false, false, false, false, false, false] rfl rfl (by kernel_rfl) (fun _ _ _ h => h) (Or.inl ⟨by rfl, ?_⟩) ?_ ?_
        rotate_left
        · intro w'
          go_simp
          with_reducible rfl
        rotate_left
        · simp only [Act.put, List.setIfInBounds_toArray, List.set_cons_zero, List.set_cons_succ, i64_w, i32_w]
          rfl
        refine pure_ (i := 1) (N := some 110) (v := ?_) (a' := ?_) #[true, true, false, false, false, false, false, false, false, false, false, false, false, false] rfl rfl (by kernel_rfl) (fun _ _ _ h => h) (Or.inl ⟨by rfl, ?_⟩) ?_ ?_
        rotate_left
        · intro w'
          go_simp
          with_reducible rfl
        rotate_left
        · simp only [Act.put, List.setIfInBounds_toArray, List.set_cons_zero, List.set_cons_succ, i64_w, i32_w]
          rfl
        refine pure_ (i := 2) (N := some 111) (v := ?_) (a' := ?_) #[true, true, true, false, false, false, false, false, false, false, false, false, false, false] rfl rfl (by kernel_rfl) (fun _ _ _ h => h) (Or.inl ⟨by rfl, ?_⟩) ?_ ?_
        rotate_left
        · intro w'
          go_simp
          with_reducible rfl
        rotate_left
        · simp only [Act.put, List.setIfInBounds_toArray, List.set_cons_zero, List.set_cons_succ, i64_w, i32_w]
          rfl
        refine pure_ (i := 3) (N := some 112) (v := ?_) (a' := ?_) #[true, true, true, true, false, false, false, false, false, false, false, false, false, false] rfl rfl (by kernel_rfl) (fun _ _ _ h => h) (Or.inl ⟨by rfl, ?_⟩) ?_ ?_
        rotate_left
        · intro w'
          go_simp
          with_reducible rfl
        rotate_left
        · simp only [Act.put, List.setIfInBounds_toArray, List.set_cons_zero, List.set_cons_succ, i64_w, i32_w]
          rfl
        refine pure_ (i := 6) (N := some 115) (v := ?_) (a' := ?_) #[true, true, true, true, false, false, true, false, false, false, false, false, false, false] rfl rfl (by kernel_rfl) (fun _ _ _ h => h) (Or.inl ⟨by rfl, ?_⟩) ?_ ?_
        rotate_left
        · intro w'
          go_simp
          with_reducible rfl
        rotate_left
        · simp only [Act.put, List.setIfInBounds_toArray, List.set_cons_zero, List.set_cons_succ, i64_w, i32_w]
          rfl
        refine pure_ (i := 7) (N := some 116) (v := ?_) (a' := ?_) #[true, true, true, true, false, false, true, true, false, false, false, false, false, false] rfl rfl (by kernel_rfl) (fun _ _ _ h => h) (Or.inl ⟨by rfl, ?_⟩) ?_ ?_
        rotate_left
        · intro w'
          go_simp
          with_reducible rfl
        rotate_left
        · simp only [Act.put, List.setIfInBounds_toArray, List.set_cons_zero, List.set_cons_succ, i64_w, i32_w]
          rfl
        refine pure_ (i := 8) (N := some 117) (v := ?_) (a' := ?_) #[true, true, true, true, false, false, true, true, true, false, false, false, false, false] rfl rfl (by kernel_rfl) (fun _ _ _ h => h) (Or.inl ⟨by rfl, ?_⟩) ?_ ?_
        rotate_left
        · intro w'
          go_simp
          with_reducible rfl
        rotate_left
        · simp only [Act.put, List.setIfInBounds_toArray, List.set_cons_zero, List.set_cons_succ, i64_w, i32_w]
          rfl
        refine pure_ (i := 9) (N := some 118) (v := ?_) (a' := ?_) #[true, true, true, true, false, false, true, true, true, true, false, false, false, false] rfl rfl (by kernel_rfl) (fun _ _ _ h => h) (Or.inl ⟨by rfl, ?_⟩) ?_ ?_
        rotate_left
        · intro w'
          go_simp
          with_reducible rfl
        rotate_left
        · simp only [Act.put, List.setIfInBounds_toArray, List.set_cons_zero, List.set_cons_succ, i64_w, i32_w]
          rfl
        refine take_ (i := 4) (N := some 113) (v := ?_) (a' := ?_) #[true, true, true, true, true, false, true, true, true, true, false, false, false, false] rfl rfl (by kernel_rfl) (fun _ _ _ h => h) (Or.inl ⟨by rfl, ?_⟩) hHeld ?_ ?_
        rotate_left
        · intro w' s0
          go_simp
          with_reducible rfl
        rotate_left
        · simp only [Act.put, List.setIfInBounds_toArray, List.set_cons_zero, List.set_cons_succ, i64_w, i32_w]
          rfl
        refine take_ (i := 10) (N := some 119) (v := ?_) (a' := ?_) #[true, true, true, true, true, false, true, true, true, true, true, false, false, false] rfl rfl (by kernel_rfl) (fun _ _ _ h => h) (Or.inl ⟨by rfl, ?_⟩) hHeld ?_ ?_
        rotate_left
        · intro w' s0
          go_simp
          with_reducible rfl
        rotate_left
        · simp only [Act.put, List.setIfInBounds_toArray, List.set_cons_zero, List.set_cons_succ, i64_w, i32_w]
          rfl
        refine one_ (i := 5) (N := some 114) #[true, true, true, true, true, true, true, true, true, true, true, false, false, false] rfl rfl (by kernel_rfl) (by decide) (fun K hK => ?_)
        refine goes_ Try.func63 (by kernel_rfl) rfl #[.pointer (some ⟨gh, 0, none⟩), .int .i64 ps] (by rfl) rfl rfl (by simp only [List.map_toArray, List.map_cons, List.map_nil]; rfl) ?_
        with_reducible refine (sborn_T gh gg gp gc gm gl gs g3 G sv ws ps w _ XI.out.s XJ.out LR.out).mono ?_
        rintro e w5 ⟨rfl, h1_, h2_, h3_, h4_⟩
        refine ⟨_, rfl, ?_⟩
        have YI := Aside0.mk (XI.out.sb h1_ h3_ h4_)
        have YJ := Aside0.mk h2_
        have YB := Aside0.mk (XI.out.s.ghost.staysB h3_ XB.out (by decide) (by decide))
        clear h1_ h2_ h3_ h4_
        refine hK.out _ _ ((blk_cell YB.out 2).trans rfl) (fun hHeld => ?_)
        clear hK K
        refine norm_ (a' := ?_) ?_ ?_
        rotate_left
        · show Act.put _ (some 114) _ = _
          simp only [Act.put, List.setIfInBounds_toArray, List.set_cons_zero, List.set_cons_succ, i64_w, i32_w]
          rfl
        refine last_ (i := 11) (N := some 120) #[true, true, true, true, true, true, true, true, true, true, true, true, false, false] rfl rfl (by kernel_rfl) (by decide) (fun K hK => ?_)
        refine goes_ Try.func39 (by kernel_rfl) rfl #[.pointer (some ⟨hg, 0, none⟩), .int .i64 ps] (by rfl) rfl rfl (by simp only [List.map_toArray, List.map_cons, List.map_nil]; rfl) ?_
        with_reducible refine (gborn_U hg hp hc hm hl hs h3 G ps w _ YI.out.g YJ.out LR.out).mono ?_
        rintro e w6 ⟨rfl, h1_, h2_, h3_, h4_⟩
        refine ⟨_, rfl, ?_⟩
        have ZI := Aside0.mk (YI.out.gb h1_ h3_ h4_)
        have ZJ := Aside0.mk h2_
        clear h1_ h2_ h3_ h4_
        refine hK.out _ _ ?_
        clear hK K
        refine norm_ (a' := ?_) ?_ ?_
        rotate_left
        · show Act.put _ (some 120) _ = _
          simp only [Act.put, List.setIfInBounds_toArray, List.set_cons_zero, List.set_cons_succ, i64_w, i32_w]
          rfl
        refine pure_ (i := 12) (N := some 121) (v := ?_) (a' := ?_) #[true, true, true, true, true, true, true, true, true, true, true, true, true, false] rfl rfl (by kernel_rfl) (fun _ _ _ h => h) (Or.inl ⟨by rfl, ?_⟩) ?_ ?_
        rotate_left
        · intro w'
          go_simp
          with_reducible rfl
        rotate_left
        · simp only [Act.put, List.setIfInBounds_toArray, List.set_cons_zero, List.set_cons_succ, i64_w, i32_w]
          rfl
        refine pure_ (i := 13) (N := some 9) (v := ?_) (a' := ?_) #[true, true, true, true, true, true, true, true, true, true, true, true, true, true] rfl rfl (by kernel_rfl) (fun _ _ _ h => h) (Or.inl ⟨by rfl, ?_⟩) ?_ ?_
        rotate_left
        · intro w'
          go_simp
          with_reducible rfl
        rotate_left
        · simp only [Act.put, List.setIfInBounds_toArray, List.set_cons_zero, List.set_cons_succ, i64_w, i32_w]
          rfl
        refine done_ (by kernel_rfl) ?_
        clear hx0 hx1 hx2 hx3 hx4 hx5 hx6 hx7 hx8 hx9 hx10
        go_wp2_with fail
        obtain ⟨Q, hQ⟩ : ∃ Q, gbornG G ps = Q := ⟨_, rfl⟩
        have JQ := Aside0.mk (show (Q.row.length : Int) ≤ i + 1 ∧ 0 ≤ Q.stale ∧ Q.stale ≤ i + 1 from hQ ▸ (show Aside0 (((gbornG G ps).row.length : Int) ≤ i + 1 ∧ 0 ≤ (gbornG G ps).stale ∧ (gbornG G ps).stale ≤ i + 1) from ⟨by have := JR.out; exact ⟨by show ((bornRow G.row ps).length : Int) ≤ i + 1; unfold bornRow; split <;> (try rw [List.length_append, List.length_singleton]) <;> omega, by show 0 ≤ G.stale ∧ G.stale ≤ i + 1; omega⟩⟩).out)
        rw [hQ] at ZI
        clear hQ
        refine (sfaults_T gh gg gp gc gm gl gs g3 Q sv ws w _ ZI.out.s).mono ?_
        rintro e w20 ⟨rfl, rfl⟩
        go_wp2_with fail
        refine (gfaults_T hg hp hc hm hl hs h3 Q w _ ZI.out.g).mono ?_
        rintro e w21 ⟨rfl, rfl⟩
        go_wp2_with fail
        refine (stold_T gh gg gp gc gm gl gs g3 Q sv ws w _ ZI.out.s).mono ?_
        rintro e w22 ⟨rfl, rfl⟩
        go_wp2_with fail
        refine (gstale_T hg hp hc hm hl hs h3 Q w _ ZI.out.g).mono ?_
        rintro e w23 ⟨rfl, rfl⟩
        go_wp2_with fail
        go_roundg ko
        case rel => exact ⟨i + 1, Q, by first | rfl | rw [wi], ⟨by have := HK.out; have := RI.out; omega⟩, ZI, ZJ, JQ⟩
        case measure => exact Nat.lt_succ_self _
      have u6 : (kd == 6) = false := beq_eq_false_iff_ne.mpr k6
      clear k6
      have XB := Aside0.mk (blk_new wr (.cells #[.int .i64 kd, .int .i64 pk, .int .i64 ps, .int .i64 pp, .int .i64 id, .int .u64 ox, .int .i64 oy, .bool ost, .int .u64 vx, .int .i64 vy, .bool vst] 89))
      have XI := Aside0.mk (JI.out.alloc (.cells #[.int .i64 kd, .int .i64 pk, .int .i64 ps, .int .i64 pp, .int .i64 id, .int .u64 ox, .int .i64 oy, .bool ost, .int .u64 vx, .int .i64 vy, .bool vst] 89))
      have XJ := Aside0.mk (below_alloc JB.out (.cells #[.int .i64 kd, .int .i64 pk, .int .i64 ps, .int .i64 pp, .int .i64 id, .int .u64 ox, .int .i64 oy, .bool ost, .int .u64 vx, .int .i64 vy, .bool vst] 89))
      go_wp2_with fail
      have ZI := XI
      have ZJ := XJ
      obtain ⟨Q, hQ⟩ : ∃ Q, G = Q := ⟨_, rfl⟩
      have JQ := Aside0.mk (show (Q.row.length : Int) ≤ i + 1 ∧ 0 ≤ Q.stale ∧ Q.stale ≤ i + 1 from hQ ▸ (show Aside0 (((G).row.length : Int) ≤ i + 1 ∧ 0 ≤ (G).stale ∧ (G).stale ≤ i + 1) from ⟨by have := JR.out; omega⟩).out)
      rw [hQ] at ZI
      clear hQ
      refine (sfaults_T gh gg gp gc gm gl gs g3 Q sv ws w _ ZI.out.s).mono ?_
      rintro e w20 ⟨rfl, rfl⟩
      go_wp2_with fail
      refine (gfaults_T hg hp hc hm hl hs h3 Q w _ ZI.out.g).mono ?_
      rintro e w21 ⟨rfl, rfl⟩
      go_wp2_with fail
      refine (stold_T gh gg gp gc gm gl gs g3 Q sv ws w _ ZI.out.s).mono ?_
      rintro e w22 ⟨rfl, rfl⟩
      go_wp2_with fail
      refine (gstale_T hg hp hc hm hl hs h3 Q w _ ZI.out.g).mono ?_
      rintro e w23 ⟨rfl, rfl⟩
      go_wp2_with fail
      go_roundg ko
      case rel => exact ⟨i + 1, Q, by first | rfl | rw [wi], ⟨by have := HK.out; have := RI.out; omega⟩, ZI, ZJ, JQ⟩
      case measure => exact Nat.lt_succ_self _
    · have tt : decide (i < (xs.length : Int)) = false ∨ (decide (i < (xs.length : Int)) = true ∧ decide (i < 150) = false) := by
        by_cases h : i < (xs.length : Int)
        · exact .inr ⟨decide_eq_true h, decide_eq_false (fun h2 => hi ⟨h, h2⟩)⟩
        · exact .inl (decide_eq_false h)
      clear hi
      rcases tt with t1 | ⟨t1, t2⟩
      all_goals
        go_wp2_with fail
        refine (scells_T gh gg gp gc gm gl gs g3 G sv ws w wr JI.out.s).mono ?_
        rintro e w8 ⟨ga, gb, rfl, h1, h2⟩
        have C8 := Aside0.mk h1
        have I8 := Aside0.mk (JI.out.below h2)
        have B8 := Aside0.mk (below_step JB.out h2)
        clear h1 h2
        go_wp2_with fail
        refine (gcells_T hg hp hc hm hl hs h3 G w w8 I8.out.g).mono ?_
        rintro e w9 ⟨ga2, gb2, rfl, h1, h2⟩
        have D9 := Aside0.mk h1
        have C9 := Aside0.mk (C8.out.below h2)
        have I9 := Aside0.mk (I8.out.below h2)
        have B9 := Aside0.mk (below_step B8.out h2)
        clear h1 h2
        go_wp2_with fail
        refine (same_T ga gb ga2 gb2 _ _ _ _ w9 C9.out D9.out rfl).mono ?_
        rintro e w10 ⟨rfl, hb⟩
        have I10 := Aside0.mk (I9.out.below hb)
        have B10 := Aside0.mk (below_step B9.out hb)
        clear hb
        go_wp2_with fail
        refine (scount_T gh gg gp gc gm gl gs g3 G sv ws w w10 I10.out.s).mono ?_
        rintro e w11 ⟨rfl, hb⟩
        have I11 := Aside0.mk (I10.out.below hb)
        have B11 := Aside0.mk (below_step B10.out hb)
        clear hb
        go_wp2_with fail
        refine (gcount_T hg hp hc hm hl hs h3 G w w11 I11.out.g).mono ?_
        rintro e w12 ⟨rfl, hb⟩
        have B12 := Aside0.mk (below_step B11.out hb)
        clear hb
        go_wp2_with fail
        go_ret
        exact ⟨by simp, B12.out⟩
def revenantlaw10_ShadeGhost.f (ws : List Int) (xs : List S89) : Option Bool := if ws.length ≤ 17592186044416 then some true else none
theorem revenantlaw10_ShadeGhost.calls (A0_ A1_ : Option Addr) (c0 c1 : Nat) (ws : List Int) (xs : List S89) (r : Bool) (w : World) (hr0 : Kd.C (Kd.int .u64) w A0_ ws.length ws) (hc0 : ws.length ≤ c0) (hr1 : Kd.C k89 w A1_ xs.length xs) (hc1 : xs.length ≤ c1) (h : revenantlaw10_ShadeGhost.f ws xs = some r) :
    Calls Try.prog 12 #[.slice A0_ ws.length c0, .slice A1_ xs.length c1] w fun e w' => e = .returned (.bool r) ∧ Below w.heap.size w w' := by
  unfold revenantlaw10_ShadeGhost.f at h
  by_cases hw : ws.length ≤ 17592186044416
  · rw [if_pos hw] at h
    obtain rfl := Option.some.inj h
    exact ghost10T A0_ A1_ c0 c1 ws xs w hr0 hc0 hr1 hc1 hw
  · rw [if_neg hw] at h
    cases h
theorem RShadeGhost (ws : List Int) (xs : List S89) {P Q R : Prop} (g : P ∧ ws.length * 8 ≤ 140737488351232 ∧ Q) (_ : R) : revenantlaw10_ShadeGhost.f ws xs = some true := if_pos (by have := g.2.1; omega)
end Go.Proofs.Ytlpnggapndokeaa.PIdealKeeps

