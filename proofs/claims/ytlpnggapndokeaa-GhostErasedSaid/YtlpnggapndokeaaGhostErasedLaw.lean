/-
Ghosts change nothing: the law answers true, whatever its arguments are.
-/
import Derived.Test.YtlpnggapndokeaaWords
import Derived.Test.YtlpnggapndokeaaGhostC
namespace Go.Proofs.Ytlpnggapndokeaa.PIdealKeeps
open Go Go.RowKit Go.Proofs.YtlpnggapndokeaaW.PrintWords Go.Proofs.YtlpnggapndokeaaW.PrintLast Go.Proofs.YtlpnggapndokeaaW.PrintMore Go.Proofs.Ytlpnggapndokeaa.M Go.Proofs.Ytlpnggapndokeaa.U
attribute [local go_sem] max2_int min2_int max_two min_two max_three min_three max_four min_four
set_option linter.unusedVariables false
set_option linter.unusedSimpArgs false
set_option maxHeartbeats 16000000 in
set_option maxRecDepth 100000 in
theorem erased08T (A0_ : Option Addr) (c0 : Nat) (xs : List S70) (w : World) (hr0 : Kd.C k70 w A0_ xs.length xs) (hc0 : xs.length ≤ c0) :
    Calls Try.prog 10 #[.slice A0_ xs.length c0] w fun e w' => e = .returned (.bool true) ∧ Below w.heap.size w w' := by
  have hu25 := Try.underlying25
  have hu28 := Try.underlying28
  have hu23 := Try.underlying23
  have hu67 := Try.underlying67
  have hu70 := Try.underlying70
  have hu38 := Try.underlying38
  have e38 := eq38
  have hf0 : ∀ (a b : Int) (c : Bool) W, (Instr.field 28 (.agg #[.int .u64 a, .int .i64 b, .bool c]) 0).run Try.prog W = .ok (.int .u64 a) W := fun _ _ _ _ => by kernel_rfl
  have HR := Aside0.mk hr0
  have HC := Aside0.mk hc0
  clear hr0 hc0
  go_enter Try.func10, Try.ntmps10
  go_wp2_with fail
  refine (awake08_T w).mono ?_
  rintro e w1 ⟨rfl, hb⟩
  have B1 := Aside0.mk hb
  clear hb
  go_wp2_with fail
  refine (gnew_T w1).mono ?_
  rintro e w2 ⟨gg, gp, gc, gm, gl, gs, g3, rfl, h1, h2⟩
  have I2 := Aside0.mk (h1.rebase (w0 := w) B1.out.size)
  have B2 := Aside0.mk (below_step B1.out h2)
  clear h1 h2 B1
  go_wp2_with fail
  refine (pnew_T w2).mono ?_
  rintro e w3 ⟨gq, gd, gn, rfl, h1, h2⟩
  have I3 := Aside0.mk (I2.out.below h2)
  have P3 := Aside0.mk (h1.rebase (w0 := w) B2.out.size)
  have GN := Aside0.mk (show gd ≠ gc ∧ gn ≠ gm ∧ gn ≠ gl ∧ gn ≠ g3 by
    have m0 := h1.cells.b0
    have m1 := h1.cells.b1
    have m2 := blk_lt I2.out.plain.cells.blk
    have m3 := I2.out.plain.cells.map.lt
    have m4 := I2.out.leads.lt
    obtain ⟨v, hv⟩ := I2.out.soul
    have m5 := hv.map.lt
    omega)
  have B3 := Aside0.mk (below_step B2.out h2)
  clear h1 h2 I2 B2
  go_wp2_with fail
  go_loopg [5] xs.length (fun kq v5 w' => ∃ (i : Int) (G : GSt), v5 = .int .i64 i ∧ Aside0 (0 ≤ i ∧ i ≤ 150 ∧ i + kq = xs.length) ∧ Aside0 (GhostIs w w' gg gp gc gm gl gs g3 G) ∧ Aside0 (PlainIs w w' gq gd gn G.p) ∧ Aside0 (Below w.heap.size w w') ∧ Aside0 ((G.row.length : Int) ≤ i))
  case atStart => exact ⟨0, G0, rfl, ⟨by omega⟩, I3, P3, B3, ⟨Int.le_refl _⟩⟩
  case round =>
    clear I3 P3 B3
    obtain ⟨i, G, rfl, HK, JI, JP, JB, JR⟩ := hrel
    by_cases hi : i < (xs.length : Int) ∧ i < 150
    · have t1 : decide (i < (xs.length : Int)) = true := decide_eq_true hi.1
      have t2 : decide (i < 150) = true := decide_eq_true hi.2
      have p0 : (0 : Int) ≤ i := HK.out.1
      have q0 : i < (xs.length : Int) := hi.1
      have q1 := Aside0.mk hi.2
      clear hi
      obtain ⟨ko, rfl⟩ : ∃ m, gk = m + 1 := ⟨gk - 1, by have := HK.out; omega⟩
      obtain ⟨ad, e0, HXS⟩ := at_T70 HR.out i p0 q0
      cases e0
      obtain ⟨x, hx⟩ : ∃ x, xs.getD i.toNat z70 = x := ⟨_, rfl⟩
      rw [hx] at HXS
      obtain ⟨hx0, hx1, hx2, hx3, hx4, hx5, hx6, hx7, hx8, hx9, hx10⟩ := HXS
      clear hx
      obtain ⟨kd, ⟨⟨pk, ps, pp⟩, id⟩, ⟨ox, oy, ost⟩, ⟨vx, vy, vst⟩⟩ := x
      replace hx0 := (JB.out.cell (World.block_lt_of_cell? w _ hx0)).trans hx0
      replace hx1 := (JB.out.cell (World.block_lt_of_cell? w _ hx1)).trans hx1
      replace hx2 := (JB.out.cell (World.block_lt_of_cell? w _ hx2)).trans hx2
      replace hx3 := (JB.out.cell (World.block_lt_of_cell? w _ hx3)).trans hx3
      replace hx4 := (JB.out.cell (World.block_lt_of_cell? w _ hx4)).trans hx4
      replace hx5 := (JB.out.cell (World.block_lt_of_cell? w _ hx5)).trans hx5
      replace hx6 := (JB.out.cell (World.block_lt_of_cell? w _ hx6)).trans hx6
      replace hx7 := (JB.out.cell (World.block_lt_of_cell? w _ hx7)).trans hx7
      replace hx8 := (JB.out.cell (World.block_lt_of_cell? w _ hx8)).trans hx8
      replace hx9 := (JB.out.cell (World.block_lt_of_cell? w _ hx9)).trans hx9
      replace hx10 := (JB.out.cell (World.block_lt_of_cell? w _ hx10)).trans hx10
      have p0b : decide (0 ≤ i) = true := decide_eq_true p0
      have wi : wrap64 (i + 1) = i + 1 := by have := q1.out; unfold wrap64; omega
      have LR := Aside0.mk (show G.row.length ≤ 100000 by have := JR.out; have := q1.out; omega)
      replace p0 := eq_true p0
      replace q0 := eq_true q0
      have RI := Aside0.mk (show 0 ≤ i + 1 ∧ i + 1 ≤ 150 by have := HK.out; have := q1.out; omega)
      by_cases k1 : kd = 1
      · subst k1
        have XB := Aside0.mk (blk_drew (blk_new wr (.cells #[.int .i64 1, .int .i64 pk, .int .i64 ps, .int .i64 pp, .int .i64 id, .int .u64 ox, .int .i64 oy, .bool ost, .int .u64 vx, .int .i64 vy, .bool vst] 70)))
        have XI := Aside0.mk (JI.out.alloc (.cells #[.int .i64 1, .int .i64 pk, .int .i64 ps, .int .i64 pp, .int .i64 id, .int .u64 ox, .int .i64 oy, .bool ost, .int .u64 vx, .int .i64 vy, .bool vst] 70)).drew
        have XP := Aside0.mk (JP.out.alloc (.cells #[.int .i64 1, .int .i64 pk, .int .i64 ps, .int .i64 pp, .int .i64 id, .int .u64 ox, .int .i64 oy, .bool ost, .int .u64 vx, .int .i64 vy, .bool vst] 70)).drew
        have XJ := Aside0.mk (below_drew (below_alloc JB.out (.cells #[.int .i64 1, .int .i64 pk, .int .i64 ps, .int .i64 pp, .int .i64 id, .int .u64 ox, .int .i64 oy, .bool ost, .int .u64 vx, .int .i64 vy, .bool vst] 70)))
        go_wp2_with fail
        refine start_ (n := 12) (S := fun w' => w'.cell? ⟨wr.heap.size, 1, none⟩ = some (.int .i64 pk) ∧ w'.cell? ⟨wr.heap.size, 2, none⟩ = some (.int .i64 ps) ∧ w'.cell? ⟨wr.heap.size, 3, none⟩ = some (.int .i64 pp) ∧ w'.cell? ⟨wr.heap.size, 4, none⟩ = some (.int .i64 id)) (ds := [8]) #[false, false, false, false, false, false, false, false, false, false, false, false] (by kernel_rfl) rfl rfl ⟨(blk_cell XB.out 1).trans rfl, (blk_cell XB.out 2).trans rfl, (blk_cell XB.out 3).trans rfl, (blk_cell XB.out 4).trans rfl⟩ (fun hHeld => ?_)
        refine pure_ (i := 0) (N := some 30) (v := ?_) (a' := ?_) #[true, false, false, false, false, false, false, false, false, false, false, false] rfl rfl (by kernel_rfl) (fun _ _ _ h => h) (Or.inl ⟨by rfl, ?_⟩) ?_ ?_
        rotate_left
        · intro w'
          go_simp
          with_reducible rfl
        rotate_left
        · simp only [Act.put, List.setIfInBounds_toArray, List.set_cons_zero, List.set_cons_succ, i64_w, i32_w]
          rfl
        refine pure_ (i := 1) (N := some 31) (v := ?_) (a' := ?_) #[true, true, false, false, false, false, false, false, false, false, false, false] rfl rfl (by kernel_rfl) (fun _ _ _ h => h) (Or.inl ⟨by rfl, ?_⟩) ?_ ?_
        rotate_left
        · intro w'
          go_simp
          with_reducible rfl
        rotate_left
        · simp only [Act.put, List.setIfInBounds_toArray, List.set_cons_zero, List.set_cons_succ, i64_w, i32_w]
          rfl
        refine pure_ (i := 5) (N := some 35) (v := ?_) (a' := ?_) #[true, true, false, false, false, true, false, false, false, false, false, false] rfl rfl (by kernel_rfl) (fun _ _ _ h => h) (Or.inl ⟨by rfl, ?_⟩) ?_ ?_
        rotate_left
        · intro w'
          go_simp
          with_reducible rfl
        rotate_left
        · simp only [Act.put, List.setIfInBounds_toArray, List.set_cons_zero, List.set_cons_succ, i64_w, i32_w]
          rfl
        refine pure_ (i := 6) (N := some 36) (v := ?_) (a' := ?_) #[true, true, false, false, false, true, true, false, false, false, false, false] rfl rfl (by kernel_rfl) (fun _ _ _ h => h) (Or.inl ⟨by rfl, ?_⟩) ?_ ?_
        rotate_left
        · intro w'
          go_simp
          with_reducible rfl
        rotate_left
        · simp only [Act.put, List.setIfInBounds_toArray, List.set_cons_zero, List.set_cons_succ, i64_w, i32_w]
          rfl
        refine take_ (i := 2) (N := some 32) (v := ?_) (a' := ?_) #[true, true, true, false, false, true, true, false, false, false, false, false] rfl rfl (by kernel_rfl) (fun _ _ _ h => h) (Or.inl ⟨by rfl, ?_⟩) hHeld ?_ ?_
        rotate_left
        · rintro w' ⟨s0, s1, s2, s3⟩
          go_simp
          with_reducible rfl
        rotate_left
        · simp only [Act.put, List.setIfInBounds_toArray, List.set_cons_zero, List.set_cons_succ, i64_w, i32_w]
          rfl
        refine take_ (i := 7) (N := some 37) (v := ?_) (a' := ?_) #[true, true, true, false, false, true, true, true, false, false, false, false] rfl rfl (by kernel_rfl) (fun _ _ _ h => h) (Or.inl ⟨by rfl, ?_⟩) hHeld ?_ ?_
        rotate_left
        · rintro w' ⟨s0, s1, s2, s3⟩
          go_simp
          with_reducible rfl
        rotate_left
        · simp only [Act.put, List.setIfInBounds_toArray, List.set_cons_zero, List.set_cons_succ, i64_w, i32_w]
          rfl
        refine one_ (i := 3) (N := some 33) #[true, true, true, true, false, true, true, true, false, false, false, false] rfl rfl (by kernel_rfl) (by decide) (fun K hK => ?_)
        refine goes_ Try.func42 (by kernel_rfl) rfl #[.pointer (some ⟨gg, 0, none⟩), Value.agg #[.int .i64 pk, .int .i64 ps, .int .i64 pp, .int .i64 id]] (by rfl) rfl rfl (by simp only [List.map_toArray, List.map_cons, List.map_nil]; rfl) ?_
        with_reducible refine (gload_T gg gp gc gm gl gs g3 G pk ps pp id w _ XI.out XJ.out).mono ?_
        rintro e w5 ⟨rfl, h1_, h2_, h3_⟩
        refine ⟨_, rfl, ?_⟩
        have YI := Aside0.mk h1_
        have YP := Aside0.mk (bothG1 XI.out XP.out GN.out h3_)
        have YJ := Aside0.mk h2_
        have YB := Aside0.mk (XI.out.stays h3_ XB.out (by decide) (by decide) (by decide) (by decide))
        clear h1_ h2_ h3_
        refine hK.out _ _ ⟨(blk_cell YB.out 1).trans rfl, (blk_cell YB.out 2).trans rfl, (blk_cell YB.out 3).trans rfl, (blk_cell YB.out 4).trans rfl⟩ (fun hHeld => ?_)
        clear hK K
        refine norm_ (a' := ?_) ?_ ?_
        rotate_left
        · show Act.put _ (some 33) _ = _
          simp only [Act.put, List.setIfInBounds_toArray, List.set_cons_zero, List.set_cons_succ, i64_w, i32_w]
          rfl
        refine pure_ (i := 4) (N := some 34) (v := ?_) (a' := ?_) #[true, true, true, true, true, true, true, true, false, false, false, false] rfl rfl (by kernel_rfl) (fun _ _ _ h => h) (Or.inl ⟨by rfl, ?_⟩) ?_ ?_
        rotate_left
        · intro w'
          go_simp
          with_reducible rfl
        rotate_left
        · simp only [Act.put, List.setIfInBounds_toArray, List.set_cons_zero, List.set_cons_succ, i64_w, i32_w]
          rfl
        refine last_ (i := 8) (N := some 38) #[true, true, true, true, true, true, true, true, true, false, false, false] rfl rfl (by kernel_rfl) (by decide) (fun K hK => ?_)
        refine goes_ Try.func31 (by kernel_rfl) rfl #[.pointer (some ⟨gq, 0, none⟩), Value.agg #[.int .i64 pk, .int .i64 ps, .int .i64 pp, .int .i64 id]] (by rfl) rfl rfl (by simp only [List.map_toArray, List.map_cons, List.map_nil]; rfl) ?_
        with_reducible refine (pload_T gq gd gn G.p pk ps pp id w _ YP.out YJ.out).mono ?_
        rintro e w6 ⟨rfl, h1_, h2_, h3_⟩
        refine ⟨_, rfl, ?_⟩
        have ZP := Aside0.mk h1_
        have ZI := Aside0.mk (bothG2 YI.out YP.out GN.out h3_)
        have ZJ := Aside0.mk h2_
        clear h1_ h2_ h3_
        refine hK.out _ _ ?_
        clear hK K
        refine norm_ (a' := ?_) ?_ ?_
        rotate_left
        · show Act.put _ (some 38) _ = _
          simp only [Act.put, List.setIfInBounds_toArray, List.set_cons_zero, List.set_cons_succ, i64_w, i32_w]
          rfl
        refine pure_ (i := 9) (N := some 39) (v := ?_) (a' := ?_) #[true, true, true, true, true, true, true, true, true, true, false, false] rfl rfl (by kernel_rfl) (fun _ _ _ h => h) (Or.inl ⟨by rfl, ?_⟩) ?_ ?_
        rotate_left
        · intro w'
          go_simp
          with_reducible rfl
        rotate_left
        · simp only [Act.put, List.setIfInBounds_toArray, List.set_cons_zero, List.set_cons_succ, i64_w, i32_w]
          rfl
        refine pure_ (i := 10) (N := some 40) (v := ?_) (a' := ?_) #[true, true, true, true, true, true, true, true, true, true, true, false] rfl rfl (by kernel_rfl) (fun _ _ _ h => h) (Or.inl ⟨by rfl, ?_⟩) ?_ ?_
        rotate_left
        · intro w'
          go_simp
          with_reducible rfl
        rotate_left
        · simp only [Act.put, List.setIfInBounds_toArray, List.set_cons_zero, List.set_cons_succ, i64_w, i32_w]
          rfl
        refine pure_ (i := 11) (N := some 7) (v := ?_) (a' := ?_) #[true, true, true, true, true, true, true, true, true, true, true, true] rfl rfl (by kernel_rfl) (fun _ _ _ h => h) (Or.inl ⟨by rfl, ?_⟩) ?_ ?_
        rotate_left
        · intro w'
          go_simp
          with_reducible rfl
        rotate_left
        · simp only [Act.put, List.setIfInBounds_toArray, List.set_cons_zero, List.set_cons_succ, i64_w, i32_w]
          rfl
        refine done_ (by kernel_rfl) ?_
        clear hx0 hx1 hx2 hx3 hx4 hx5 hx6 hx7 hx8 hx9 hx10
        go_wp2_with fail
        go_roundg ko
        case rel => exact ⟨i + 1, gloadG G (pk, ps, pp) id, by first | rfl | rw [wi], ⟨by have := HK.out; have := RI.out; omega⟩, ZI, ZP, ZJ, ⟨by have := JR.out; show (G.row.length : Int) ≤ i + 1; omega⟩⟩
        case measure => exact Nat.lt_succ_self _
      have u1 : (kd == 1) = false := beq_eq_false_iff_ne.mpr k1
      clear k1
      by_cases k2 : kd = 2
      · subst k2
        have XB := Aside0.mk (blk_new wr (.cells #[.int .i64 2, .int .i64 pk, .int .i64 ps, .int .i64 pp, .int .i64 id, .int .u64 ox, .int .i64 oy, .bool ost, .int .u64 vx, .int .i64 vy, .bool vst] 70))
        have XI := Aside0.mk (JI.out.alloc (.cells #[.int .i64 2, .int .i64 pk, .int .i64 ps, .int .i64 pp, .int .i64 id, .int .u64 ox, .int .i64 oy, .bool ost, .int .u64 vx, .int .i64 vy, .bool vst] 70))
        have XP := Aside0.mk (JP.out.alloc (.cells #[.int .i64 2, .int .i64 pk, .int .i64 ps, .int .i64 pp, .int .i64 id, .int .u64 ox, .int .i64 oy, .bool ost, .int .u64 vx, .int .i64 vy, .bool vst] 70))
        have XJ := Aside0.mk (below_alloc JB.out (.cells #[.int .i64 2, .int .i64 pk, .int .i64 ps, .int .i64 pp, .int .i64 id, .int .u64 ox, .int .i64 oy, .bool ost, .int .u64 vx, .int .i64 vy, .bool vst] 70))
        have b1 : (wr.alloc (.cells #[.int .i64 2, .int .i64 pk, .int .i64 ps, .int .i64 pp, .int .i64 id, .int .u64 ox, .int .i64 oy, .bool ost, .int .u64 vx, .int .i64 vy, .bool vst] 70)).cell? ⟨wr.heap.size, 1, none⟩ = some (.int .i64 pk) := (blk_cell XB.out 1).trans rfl
        have b2 : (wr.alloc (.cells #[.int .i64 2, .int .i64 pk, .int .i64 ps, .int .i64 pp, .int .i64 id, .int .u64 ox, .int .i64 oy, .bool ost, .int .u64 vx, .int .i64 vy, .bool vst] 70)).cell? ⟨wr.heap.size, 2, none⟩ = some (.int .i64 ps) := (blk_cell XB.out 2).trans rfl
        have b3 : (wr.alloc (.cells #[.int .i64 2, .int .i64 pk, .int .i64 ps, .int .i64 pp, .int .i64 id, .int .u64 ox, .int .i64 oy, .bool ost, .int .u64 vx, .int .i64 vy, .bool vst] 70)).cell? ⟨wr.heap.size, 3, none⟩ = some (.int .i64 pp) := (blk_cell XB.out 3).trans rfl
        have b4 : (wr.alloc (.cells #[.int .i64 2, .int .i64 pk, .int .i64 ps, .int .i64 pp, .int .i64 id, .int .u64 ox, .int .i64 oy, .bool ost, .int .u64 vx, .int .i64 vy, .bool vst] 70)).cell? ⟨wr.heap.size, 4, none⟩ = some (.int .i64 id) := (blk_cell XB.out 4).trans rfl
        have b8 : (wr.alloc (.cells #[.int .i64 2, .int .i64 pk, .int .i64 ps, .int .i64 pp, .int .i64 id, .int .u64 ox, .int .i64 oy, .bool ost, .int .u64 vx, .int .i64 vy, .bool vst] 70)).cell? ⟨wr.heap.size, 8, none⟩ = some (.int .u64 vx) := (blk_cell XB.out 8).trans rfl
        have b9 : (wr.alloc (.cells #[.int .i64 2, .int .i64 pk, .int .i64 ps, .int .i64 pp, .int .i64 id, .int .u64 ox, .int .i64 oy, .bool ost, .int .u64 vx, .int .i64 vy, .bool vst] 70)).cell? ⟨wr.heap.size, 9, none⟩ = some (.int .i64 vy) := (blk_cell XB.out 9).trans rfl
        have b10 : (wr.alloc (.cells #[.int .i64 2, .int .i64 pk, .int .i64 ps, .int .i64 pp, .int .i64 id, .int .u64 ox, .int .i64 oy, .bool ost, .int .u64 vx, .int .i64 vy, .bool vst] 70)).cell? ⟨wr.heap.size, 10, none⟩ = some (.bool vst) := (blk_cell XB.out 10).trans rfl
        go_wp2_with fail
        refine (gstore_T gg gp gc gm gl gs g3 G pk ps pp id vx vy vst w _ XI.out XJ.out).mono ?_
        rintro e w5 ⟨rfl, h1_, h2_, h3_⟩
        have YI := Aside0.mk h1_
        have YP := Aside0.mk (bothG1 XI.out XP.out GN.out h3_)
        have YJ := Aside0.mk h2_
        have YB := Aside0.mk (XI.out.stays h3_ XB.out (by decide) (by decide) (by decide) (by decide))
        clear h1_ h2_ h3_
        clear b1 b2 b3 b4 b8 b9 b10
        have b1 : w5.cell? ⟨wr.heap.size, 1, none⟩ = some (.int .i64 pk) := (blk_cell YB.out 1).trans rfl
        have b2 : w5.cell? ⟨wr.heap.size, 2, none⟩ = some (.int .i64 ps) := (blk_cell YB.out 2).trans rfl
        have b3 : w5.cell? ⟨wr.heap.size, 3, none⟩ = some (.int .i64 pp) := (blk_cell YB.out 3).trans rfl
        have b4 : w5.cell? ⟨wr.heap.size, 4, none⟩ = some (.int .i64 id) := (blk_cell YB.out 4).trans rfl
        have b8 : w5.cell? ⟨wr.heap.size, 8, none⟩ = some (.int .u64 vx) := (blk_cell YB.out 8).trans rfl
        have b9 : w5.cell? ⟨wr.heap.size, 9, none⟩ = some (.int .i64 vy) := (blk_cell YB.out 9).trans rfl
        have b10 : w5.cell? ⟨wr.heap.size, 10, none⟩ = some (.bool vst) := (blk_cell YB.out 10).trans rfl
        go_wp2_with fail
        refine (pstore_T gq gd gn G.p pk ps pp id vx vy vst w _ YP.out YJ.out).mono ?_
        rintro e w6 ⟨rfl, h1_, h2_, h3_⟩
        have ZP := Aside0.mk h1_
        have ZI := Aside0.mk (bothG2 YI.out YP.out GN.out h3_)
        have ZJ := Aside0.mk h2_
        clear h1_ h2_ h3_
        clear hx0 hx1 hx2 hx3 hx4 hx5 hx6 hx7 hx8 hx9 hx10
        go_wp2_with fail
        go_roundg ko
        case rel => exact ⟨i + 1, gstoreG G (pk, ps, pp) id vx vy vst, by first | rfl | rw [wi], ⟨by have := HK.out; have := RI.out; omega⟩, ZI, ZP, ZJ, ⟨by have := JR.out; show (G.row.length : Int) ≤ i + 1; omega⟩⟩
        case measure => exact Nat.lt_succ_self _
      have u2 : (kd == 2) = false := beq_eq_false_iff_ne.mpr k2
      clear k2
      by_cases k3 : kd = 3
      · subst k3
        have XB := Aside0.mk (blk_drew (blk_new wr (.cells #[.int .i64 3, .int .i64 pk, .int .i64 ps, .int .i64 pp, .int .i64 id, .int .u64 ox, .int .i64 oy, .bool ost, .int .u64 vx, .int .i64 vy, .bool vst] 70)))
        have XI := Aside0.mk (JI.out.alloc (.cells #[.int .i64 3, .int .i64 pk, .int .i64 ps, .int .i64 pp, .int .i64 id, .int .u64 ox, .int .i64 oy, .bool ost, .int .u64 vx, .int .i64 vy, .bool vst] 70)).drew
        have XP := Aside0.mk (JP.out.alloc (.cells #[.int .i64 3, .int .i64 pk, .int .i64 ps, .int .i64 pp, .int .i64 id, .int .u64 ox, .int .i64 oy, .bool ost, .int .u64 vx, .int .i64 vy, .bool vst] 70)).drew
        have XJ := Aside0.mk (below_drew (below_alloc JB.out (.cells #[.int .i64 3, .int .i64 pk, .int .i64 ps, .int .i64 pp, .int .i64 id, .int .u64 ox, .int .i64 oy, .bool ost, .int .u64 vx, .int .i64 vy, .bool vst] 70)))
        go_wp2_with fail
        refine start_ (n := 18) (S := fun w' => w'.cell? ⟨wr.heap.size, 1, none⟩ = some (.int .i64 pk) ∧ w'.cell? ⟨wr.heap.size, 2, none⟩ = some (.int .i64 ps) ∧ w'.cell? ⟨wr.heap.size, 3, none⟩ = some (.int .i64 pp) ∧ w'.cell? ⟨wr.heap.size, 4, none⟩ = some (.int .i64 id) ∧ w'.cell? ⟨wr.heap.size, 5, none⟩ = some (.int .u64 ox) ∧ w'.cell? ⟨wr.heap.size, 6, none⟩ = some (.int .i64 oy) ∧ w'.cell? ⟨wr.heap.size, 7, none⟩ = some (.bool ost) ∧ w'.cell? ⟨wr.heap.size, 8, none⟩ = some (.int .u64 vx) ∧ w'.cell? ⟨wr.heap.size, 9, none⟩ = some (.int .i64 vy) ∧ w'.cell? ⟨wr.heap.size, 10, none⟩ = some (.bool vst)) (ds := [15]) #[false, false, false, false, false, false, false, false, false, false, false, false, false, false, false, false, false, false] (by kernel_rfl) rfl rfl ⟨(blk_cell XB.out 1).trans rfl, (blk_cell XB.out 2).trans rfl, (blk_cell XB.out 3).trans rfl, (blk_cell XB.out 4).trans rfl, (blk_cell XB.out 5).trans rfl, (blk_cell XB.out 6).trans rfl, (blk_cell XB.out 7).trans rfl, (blk_cell XB.out 8).trans rfl, (blk_cell XB.out 9).trans rfl, (blk_cell XB.out 10).trans rfl⟩ (fun hHeld => ?_)
        refine pure_ (i := 0) (N := some 57) (v := ?_) (a' := ?_) #[true, false, false, false, false, false, false, false, false, false, false, false, false, false, false, false, false, false] rfl rfl (by kernel_rfl) (fun _ _ _ h => h) (Or.inl ⟨by rfl, ?_⟩) ?_ ?_
        rotate_left
        · intro w'
          go_simp
          with_reducible rfl
        rotate_left
        · simp only [Act.put, List.setIfInBounds_toArray, List.set_cons_zero, List.set_cons_succ, i64_w, i32_w]
          rfl
        refine pure_ (i := 1) (N := some 58) (v := ?_) (a' := ?_) #[true, true, false, false, false, false, false, false, false, false, false, false, false, false, false, false, false, false] rfl rfl (by kernel_rfl) (fun _ _ _ h => h) (Or.inl ⟨by rfl, ?_⟩) ?_ ?_
        rotate_left
        · intro w'
          go_simp
          with_reducible rfl
        rotate_left
        · simp only [Act.put, List.setIfInBounds_toArray, List.set_cons_zero, List.set_cons_succ, i64_w, i32_w]
          rfl
        refine pure_ (i := 3) (N := some 60) (v := ?_) (a' := ?_) #[true, true, false, true, false, false, false, false, false, false, false, false, false, false, false, false, false, false] rfl rfl (by kernel_rfl) (fun _ _ _ h => h) (Or.inl ⟨by rfl, ?_⟩) ?_ ?_
        rotate_left
        · intro w'
          go_simp
          with_reducible rfl
        rotate_left
        · simp only [Act.put, List.setIfInBounds_toArray, List.set_cons_zero, List.set_cons_succ, i64_w, i32_w]
          rfl
        refine pure_ (i := 5) (N := some 62) (v := ?_) (a' := ?_) #[true, true, false, true, false, true, false, false, false, false, false, false, false, false, false, false, false, false] rfl rfl (by kernel_rfl) (fun _ _ _ h => h) (Or.inl ⟨by rfl, ?_⟩) ?_ ?_
        rotate_left
        · intro w'
          go_simp
          with_reducible rfl
        rotate_left
        · simp only [Act.put, List.setIfInBounds_toArray, List.set_cons_zero, List.set_cons_succ, i64_w, i32_w]
          rfl
        refine pure_ (i := 8) (N := some 65) (v := ?_) (a' := ?_) #[true, true, false, true, false, true, false, false, true, false, false, false, false, false, false, false, false, false] rfl rfl (by kernel_rfl) (fun _ _ _ h => h) (Or.inl ⟨by rfl, ?_⟩) ?_ ?_
        rotate_left
        · intro w'
          go_simp
          with_reducible rfl
        rotate_left
        · simp only [Act.put, List.setIfInBounds_toArray, List.set_cons_zero, List.set_cons_succ, i64_w, i32_w]
          rfl
        refine pure_ (i := 9) (N := some 66) (v := ?_) (a' := ?_) #[true, true, false, true, false, true, false, false, true, true, false, false, false, false, false, false, false, false] rfl rfl (by kernel_rfl) (fun _ _ _ h => h) (Or.inl ⟨by rfl, ?_⟩) ?_ ?_
        rotate_left
        · intro w'
          go_simp
          with_reducible rfl
        rotate_left
        · simp only [Act.put, List.setIfInBounds_toArray, List.set_cons_zero, List.set_cons_succ, i64_w, i32_w]
          rfl
        refine pure_ (i := 11) (N := some 68) (v := ?_) (a' := ?_) #[true, true, false, true, false, true, false, false, true, true, false, true, false, false, false, false, false, false] rfl rfl (by kernel_rfl) (fun _ _ _ h => h) (Or.inl ⟨by rfl, ?_⟩) ?_ ?_
        rotate_left
        · intro w'
          go_simp
          with_reducible rfl
        rotate_left
        · simp only [Act.put, List.setIfInBounds_toArray, List.set_cons_zero, List.set_cons_succ, i64_w, i32_w]
          rfl
        refine pure_ (i := 13) (N := some 70) (v := ?_) (a' := ?_) #[true, true, false, true, false, true, false, false, true, true, false, true, false, true, false, false, false, false] rfl rfl (by kernel_rfl) (fun _ _ _ h => h) (Or.inl ⟨by rfl, ?_⟩) ?_ ?_
        rotate_left
        · intro w'
          go_simp
          with_reducible rfl
        rotate_left
        · simp only [Act.put, List.setIfInBounds_toArray, List.set_cons_zero, List.set_cons_succ, i64_w, i32_w]
          rfl
        refine take_ (i := 2) (N := some 59) (v := ?_) (a' := ?_) #[true, true, true, true, false, true, false, false, true, true, false, true, false, true, false, false, false, false] rfl rfl (by kernel_rfl) (fun _ _ _ h => h) (Or.inl ⟨by rfl, ?_⟩) hHeld ?_ ?_
        rotate_left
        · rintro w' ⟨s0, s1, s2, s3, s4, s5, s6, s7, s8, s9⟩
          go_simp
          with_reducible rfl
        rotate_left
        · simp only [Act.put, List.setIfInBounds_toArray, List.set_cons_zero, List.set_cons_succ, i64_w, i32_w]
          rfl
        refine take_ (i := 4) (N := some 61) (v := ?_) (a' := ?_) #[true, true, true, true, true, true, false, false, true, true, false, true, false, true, false, false, false, false] rfl rfl (by kernel_rfl) (fun _ _ _ h => h) (Or.inl ⟨by rfl, ?_⟩) hHeld ?_ ?_
        rotate_left
        · rintro w' ⟨s0, s1, s2, s3, s4, s5, s6, s7, s8, s9⟩
          go_simp
          with_reducible rfl
        rotate_left
        · simp only [Act.put, List.setIfInBounds_toArray, List.set_cons_zero, List.set_cons_succ, i64_w, i32_w]
          rfl
        refine take_ (i := 6) (N := some 63) (v := ?_) (a' := ?_) #[true, true, true, true, true, true, true, false, true, true, false, true, false, true, false, false, false, false] rfl rfl (by kernel_rfl) (fun _ _ _ h => h) (Or.inl ⟨by rfl, ?_⟩) hHeld ?_ ?_
        rotate_left
        · rintro w' ⟨s0, s1, s2, s3, s4, s5, s6, s7, s8, s9⟩
          go_simp
          with_reducible rfl
        rotate_left
        · simp only [Act.put, List.setIfInBounds_toArray, List.set_cons_zero, List.set_cons_succ, i64_w, i32_w]
          rfl
        refine take_ (i := 10) (N := some 67) (v := ?_) (a' := ?_) #[true, true, true, true, true, true, true, false, true, true, true, true, false, true, false, false, false, false] rfl rfl (by kernel_rfl) (fun _ _ _ h => h) (Or.inl ⟨by rfl, ?_⟩) hHeld ?_ ?_
        rotate_left
        · rintro w' ⟨s0, s1, s2, s3, s4, s5, s6, s7, s8, s9⟩
          go_simp
          with_reducible rfl
        rotate_left
        · simp only [Act.put, List.setIfInBounds_toArray, List.set_cons_zero, List.set_cons_succ, i64_w, i32_w]
          rfl
        refine take_ (i := 12) (N := some 69) (v := ?_) (a' := ?_) #[true, true, true, true, true, true, true, false, true, true, true, true, true, true, false, false, false, false] rfl rfl (by kernel_rfl) (fun _ _ _ h => h) (Or.inl ⟨by rfl, ?_⟩) hHeld ?_ ?_
        rotate_left
        · rintro w' ⟨s0, s1, s2, s3, s4, s5, s6, s7, s8, s9⟩
          go_simp
          with_reducible rfl
        rotate_left
        · simp only [Act.put, List.setIfInBounds_toArray, List.set_cons_zero, List.set_cons_succ, i64_w, i32_w]
          rfl
        refine take_ (i := 14) (N := some 71) (v := ?_) (a' := ?_) #[true, true, true, true, true, true, true, false, true, true, true, true, true, true, true, false, false, false] rfl rfl (by kernel_rfl) (fun _ _ _ h => h) (Or.inl ⟨by rfl, ?_⟩) hHeld ?_ ?_
        rotate_left
        · rintro w' ⟨s0, s1, s2, s3, s4, s5, s6, s7, s8, s9⟩
          go_simp
          with_reducible rfl
        rotate_left
        · simp only [Act.put, List.setIfInBounds_toArray, List.set_cons_zero, List.set_cons_succ, i64_w, i32_w]
          rfl
        refine one_ (i := 7) (N := some 64) #[true, true, true, true, true, true, true, true, true, true, true, true, true, true, true, false, false, false] rfl rfl (by kernel_rfl) (by decide) (fun K hK => ?_)
        refine goes_ Try.func46 (by kernel_rfl) rfl #[.pointer (some ⟨gg, 0, none⟩), Value.agg #[.int .i64 pk, .int .i64 ps, .int .i64 pp, .int .i64 id], Value.agg #[.int .u64 ox, .int .i64 oy, .bool ost], Value.agg #[.int .u64 vx, .int .i64 vy, .bool vst]] (by rfl) rfl rfl (by simp only [List.map_toArray, List.map_cons, List.map_nil]; rfl) ?_
        with_reducible refine (gswap_T gg gp gc gm gl gs g3 G pk ps pp id ox oy vx vy ost vst w _ XI.out XJ.out).mono ?_
        rintro e w5 ⟨rfl, h1_, h2_, h3_⟩
        refine ⟨_, rfl, ?_⟩
        have YI := Aside0.mk h1_
        have YP := Aside0.mk (bothG1 XI.out XP.out GN.out h3_)
        have YJ := Aside0.mk h2_
        have YB := Aside0.mk (XI.out.stays h3_ XB.out (by decide) (by decide) (by decide) (by decide))
        clear h1_ h2_ h3_
        refine hK.out _ _ ⟨(blk_cell YB.out 1).trans rfl, (blk_cell YB.out 2).trans rfl, (blk_cell YB.out 3).trans rfl, (blk_cell YB.out 4).trans rfl, (blk_cell YB.out 5).trans rfl, (blk_cell YB.out 6).trans rfl, (blk_cell YB.out 7).trans rfl, (blk_cell YB.out 8).trans rfl, (blk_cell YB.out 9).trans rfl, (blk_cell YB.out 10).trans rfl⟩ (fun hHeld => ?_)
        clear hK K
        refine norm_ (a' := ?_) ?_ ?_
        rotate_left
        · show Act.put _ (some 64) _ = _
          simp only [Act.put, List.setIfInBounds_toArray, List.set_cons_zero, List.set_cons_succ, i64_w, i32_w]
          rfl
        refine last_ (i := 15) (N := some 72) #[true, true, true, true, true, true, true, true, true, true, true, true, true, true, true, true, false, false] rfl rfl (by kernel_rfl) (by decide) (fun K hK => ?_)
        refine goes_ Try.func33 (by kernel_rfl) rfl #[.pointer (some ⟨gq, 0, none⟩), Value.agg #[.int .i64 pk, .int .i64 ps, .int .i64 pp, .int .i64 id], Value.agg #[.int .u64 ox, .int .i64 oy, .bool ost], Value.agg #[.int .u64 vx, .int .i64 vy, .bool vst]] (by rfl) rfl rfl (by simp only [List.map_toArray, List.map_cons, List.map_nil]; rfl) ?_
        with_reducible refine (pswap_T gq gd gn G.p pk ps pp id ox oy vx vy ost vst w _ YP.out YJ.out).mono ?_
        rintro e w6 ⟨rfl, h1_, h2_, h3_⟩
        refine ⟨_, rfl, ?_⟩
        have ZP := Aside0.mk h1_
        have ZI := Aside0.mk (bothG2 YI.out YP.out GN.out h3_)
        have ZJ := Aside0.mk h2_
        clear h1_ h2_ h3_
        refine hK.out _ _ ?_
        clear hK K
        refine norm_ (a' := ?_) ?_ ?_
        rotate_left
        · show Act.put _ (some 72) _ = _
          simp only [Act.put, List.setIfInBounds_toArray, List.set_cons_zero, List.set_cons_succ, i64_w, i32_w]
          rfl
        refine pure_ (i := 16) (N := some 73) (v := ?_) (a' := ?_) #[true, true, true, true, true, true, true, true, true, true, true, true, true, true, true, true, true, false] rfl rfl (by kernel_rfl) (fun _ _ _ h => h) (Or.inl ⟨by rfl, ?_⟩) ?_ ?_
        rotate_left
        · intro w'
          go_simp
          with_reducible rfl
        rotate_left
        · simp only [Act.put, List.setIfInBounds_toArray, List.set_cons_zero, List.set_cons_succ, i64_w, i32_w]
          rfl
        refine pure_ (i := 17) (N := some 7) (v := ?_) (a' := ?_) #[true, true, true, true, true, true, true, true, true, true, true, true, true, true, true, true, true, true] rfl rfl (by kernel_rfl) (fun _ _ _ h => h) (Or.inl ⟨by rfl, ?_⟩) ?_ ?_
        rotate_left
        · intro w'
          go_simp
          with_reducible rfl
        rotate_left
        · simp only [Act.put, List.setIfInBounds_toArray, List.set_cons_zero, List.set_cons_succ, i64_w, i32_w]
          rfl
        refine done_ (by kernel_rfl) ?_
        clear hx0 hx1 hx2 hx3 hx4 hx5 hx6 hx7 hx8 hx9 hx10
        go_wp2_with fail
        go_roundg ko
        case rel => exact ⟨i + 1, gswapG G (pk, ps, pp) id ox vx vy (ost || vst), by first | rfl | rw [wi], ⟨by have := HK.out; have := RI.out; omega⟩, ZI, ⟨by rw [gswapG_p]; exact ZP.out⟩, ZJ, ⟨by have := JR.out; rw [show (gswapG G (pk, ps, pp) id ox vx vy (ost || vst)).row = G.row by unfold gswapG; split <;> rfl]; omega⟩⟩
        case measure => exact Nat.lt_succ_self _
      have u3 : (kd == 3) = false := beq_eq_false_iff_ne.mpr k3
      clear k3
      by_cases k5 : kd = 5
      · subst k5
        have XB := Aside0.mk (blk_drew (blk_new wr (.cells #[.int .i64 5, .int .i64 pk, .int .i64 ps, .int .i64 pp, .int .i64 id, .int .u64 ox, .int .i64 oy, .bool ost, .int .u64 vx, .int .i64 vy, .bool vst] 70)))
        have XI := Aside0.mk (JI.out.alloc (.cells #[.int .i64 5, .int .i64 pk, .int .i64 ps, .int .i64 pp, .int .i64 id, .int .u64 ox, .int .i64 oy, .bool ost, .int .u64 vx, .int .i64 vy, .bool vst] 70)).drew
        have XP := Aside0.mk (JP.out.alloc (.cells #[.int .i64 5, .int .i64 pk, .int .i64 ps, .int .i64 pp, .int .i64 id, .int .u64 ox, .int .i64 oy, .bool ost, .int .u64 vx, .int .i64 vy, .bool vst] 70)).drew
        have XJ := Aside0.mk (below_drew (below_alloc JB.out (.cells #[.int .i64 5, .int .i64 pk, .int .i64 ps, .int .i64 pp, .int .i64 id, .int .u64 ox, .int .i64 oy, .bool ost, .int .u64 vx, .int .i64 vy, .bool vst] 70)))
        go_wp2_with fail
        refine start_ (n := 16) (S := fun w' => w'.cell? ⟨wr.heap.size, 1, none⟩ = some (.int .i64 pk) ∧ w'.cell? ⟨wr.heap.size, 2, none⟩ = some (.int .i64 ps) ∧ w'.cell? ⟨wr.heap.size, 3, none⟩ = some (.int .i64 pp) ∧ w'.cell? ⟨wr.heap.size, 4, none⟩ = some (.int .i64 id) ∧ w'.cell? ⟨wr.heap.size, 8, none⟩ = some (.int .u64 vx)) (ds := [13]) #[false, false, false, false, false, false, false, false, false, false, false, false, false, false, false, false] (by kernel_rfl) rfl rfl ⟨(blk_cell XB.out 1).trans rfl, (blk_cell XB.out 2).trans rfl, (blk_cell XB.out 3).trans rfl, (blk_cell XB.out 4).trans rfl, (blk_cell XB.out 8).trans rfl⟩ (fun hHeld => ?_)
        refine pure_ (i := 0) (N := some 76) (v := ?_) (a' := ?_) #[true, false, false, false, false, false, false, false, false, false, false, false, false, false, false, false] rfl rfl (by kernel_rfl) (fun _ _ _ h => h) (Or.inl ⟨by rfl, ?_⟩) ?_ ?_
        rotate_left
        · intro w'
          go_simp
          with_reducible rfl
        rotate_left
        · simp only [Act.put, List.setIfInBounds_toArray, List.set_cons_zero, List.set_cons_succ, i64_w, i32_w]
          rfl
        refine pure_ (i := 1) (N := some 77) (v := ?_) (a' := ?_) #[true, true, false, false, false, false, false, false, false, false, false, false, false, false, false, false] rfl rfl (by kernel_rfl) (fun _ _ _ h => h) (Or.inl ⟨by rfl, ?_⟩) ?_ ?_
        rotate_left
        · intro w'
          go_simp
          with_reducible rfl
        rotate_left
        · simp only [Act.put, List.setIfInBounds_toArray, List.set_cons_zero, List.set_cons_succ, i64_w, i32_w]
          rfl
        refine pure_ (i := 3) (N := some 79) (v := ?_) (a' := ?_) #[true, true, false, true, false, false, false, false, false, false, false, false, false, false, false, false] rfl rfl (by kernel_rfl) (fun _ _ _ h => h) (Or.inl ⟨by rfl, ?_⟩) ?_ ?_
        rotate_left
        · intro w'
          go_simp
          with_reducible rfl
        rotate_left
        · simp only [Act.put, List.setIfInBounds_toArray, List.set_cons_zero, List.set_cons_succ, i64_w, i32_w]
          rfl
        refine pure_ (i := 4) (N := some 80) (v := ?_) (a' := ?_) #[true, true, false, true, true, false, false, false, false, false, false, false, false, false, false, false] rfl rfl (by kernel_rfl) (fun _ _ _ h => h) (Or.inl ⟨by rfl, ?_⟩) ?_ ?_
        rotate_left
        · intro w'
          go_simp
          with_reducible rfl
        rotate_left
        · simp only [Act.put, List.setIfInBounds_toArray, List.set_cons_zero, List.set_cons_succ, i64_w, i32_w]
          rfl
        refine pure_ (i := 7) (N := some 83) (v := ?_) (a' := ?_) #[true, true, false, true, true, false, false, true, false, false, false, false, false, false, false, false] rfl rfl (by kernel_rfl) (fun _ _ _ h => h) (Or.inl ⟨by rfl, ?_⟩) ?_ ?_
        rotate_left
        · intro w'
          go_simp
          with_reducible rfl
        rotate_left
        · simp only [Act.put, List.setIfInBounds_toArray, List.set_cons_zero, List.set_cons_succ, i64_w, i32_w]
          rfl
        refine pure_ (i := 8) (N := some 84) (v := ?_) (a' := ?_) #[true, true, false, true, true, false, false, true, true, false, false, false, false, false, false, false] rfl rfl (by kernel_rfl) (fun _ _ _ h => h) (Or.inl ⟨by rfl, ?_⟩) ?_ ?_
        rotate_left
        · intro w'
          go_simp
          with_reducible rfl
        rotate_left
        · simp only [Act.put, List.setIfInBounds_toArray, List.set_cons_zero, List.set_cons_succ, i64_w, i32_w]
          rfl
        refine pure_ (i := 10) (N := some 86) (v := ?_) (a' := ?_) #[true, true, false, true, true, false, false, true, true, false, true, false, false, false, false, false] rfl rfl (by kernel_rfl) (fun _ _ _ h => h) (Or.inl ⟨by rfl, ?_⟩) ?_ ?_
        rotate_left
        · intro w'
          go_simp
          with_reducible rfl
        rotate_left
        · simp only [Act.put, List.setIfInBounds_toArray, List.set_cons_zero, List.set_cons_succ, i64_w, i32_w]
          rfl
        refine pure_ (i := 11) (N := some 87) (v := ?_) (a' := ?_) #[true, true, false, true, true, false, false, true, true, false, true, true, false, false, false, false] rfl rfl (by kernel_rfl) (fun _ _ _ h => h) (Or.inl ⟨by rfl, ?_⟩) ?_ ?_
        rotate_left
        · intro w'
          go_simp
          with_reducible rfl
        rotate_left
        · simp only [Act.put, List.setIfInBounds_toArray, List.set_cons_zero, List.set_cons_succ, i64_w, i32_w]
          rfl
        refine take_ (i := 2) (N := some 78) (v := ?_) (a' := ?_) #[true, true, true, true, true, false, false, true, true, false, true, true, false, false, false, false] rfl rfl (by kernel_rfl) (fun _ _ _ h => h) (Or.inl ⟨by rfl, ?_⟩) hHeld ?_ ?_
        rotate_left
        · rintro w' ⟨s0, s1, s2, s3, s4⟩
          go_simp
          with_reducible rfl
        rotate_left
        · simp only [Act.put, List.setIfInBounds_toArray, List.set_cons_zero, List.set_cons_succ, i64_w, i32_w]
          rfl
        refine take_ (i := 5) (N := some 81) (v := ?_) (a' := ?_) #[true, true, true, true, true, true, false, true, true, false, true, true, false, false, false, false] rfl rfl (by kernel_rfl) (fun _ _ _ h => h) (Or.inl ⟨by rfl, ?_⟩) hHeld ?_ ?_
        rotate_left
        · rintro w' ⟨s0, s1, s2, s3, s4⟩
          go_simp
          with_reducible rfl
        rotate_left
        · simp only [Act.put, List.setIfInBounds_toArray, List.set_cons_zero, List.set_cons_succ, i64_w, i32_w]
          rfl
        refine take_ (i := 9) (N := some 85) (v := ?_) (a' := ?_) #[true, true, true, true, true, true, false, true, true, true, true, true, false, false, false, false] rfl rfl (by kernel_rfl) (fun _ _ _ h => h) (Or.inl ⟨by rfl, ?_⟩) hHeld ?_ ?_
        rotate_left
        · rintro w' ⟨s0, s1, s2, s3, s4⟩
          go_simp
          with_reducible rfl
        rotate_left
        · simp only [Act.put, List.setIfInBounds_toArray, List.set_cons_zero, List.set_cons_succ, i64_w, i32_w]
          rfl
        refine take_ (i := 12) (N := some 88) (v := ?_) (a' := ?_) #[true, true, true, true, true, true, false, true, true, true, true, true, true, false, false, false] rfl rfl (by kernel_rfl) (fun _ _ _ h => h) (Or.inl ⟨by rfl, ?_⟩) hHeld ?_ ?_
        rotate_left
        · rintro w' ⟨s0, s1, s2, s3, s4⟩
          go_simp
          with_reducible rfl
        rotate_left
        · simp only [Act.put, List.setIfInBounds_toArray, List.set_cons_zero, List.set_cons_succ, i64_w, i32_w]
          rfl
        refine one_ (i := 6) (N := some 82) #[true, true, true, true, true, true, true, true, true, true, true, true, true, false, false, false] rfl rfl (by kernel_rfl) (by decide) (fun K hK => ?_)
        refine goes_ Try.func48 (by kernel_rfl) rfl #[.pointer (some ⟨gg, 0, none⟩), Value.agg #[.int .i64 pk, .int .i64 ps, .int .i64 pp, .int .i64 id], .int .u64 vx] (by rfl) rfl rfl (by simp only [List.map_toArray, List.map_cons, List.map_nil]; rfl) ?_
        with_reducible refine (gadd_T gg gp gc gm gl gs g3 G pk ps pp id vx w _ XI.out XJ.out).mono ?_
        rintro e w5 ⟨rfl, h1_, h2_, h3_⟩
        refine ⟨_, rfl, ?_⟩
        have YI := Aside0.mk h1_
        have YP := Aside0.mk (bothG1 XI.out XP.out GN.out h3_)
        have YJ := Aside0.mk h2_
        have YB := Aside0.mk (XI.out.stays h3_ XB.out (by decide) (by decide) (by decide) (by decide))
        clear h1_ h2_ h3_
        refine hK.out _ _ ⟨(blk_cell YB.out 1).trans rfl, (blk_cell YB.out 2).trans rfl, (blk_cell YB.out 3).trans rfl, (blk_cell YB.out 4).trans rfl, (blk_cell YB.out 8).trans rfl⟩ (fun hHeld => ?_)
        clear hK K
        refine norm_ (a' := ?_) ?_ ?_
        rotate_left
        · show Act.put _ (some 82) _ = _
          simp only [Act.put, List.setIfInBounds_toArray, List.set_cons_zero, List.set_cons_succ, i64_w, i32_w]
          rfl
        refine last_ (i := 13) (N := some 89) #[true, true, true, true, true, true, true, true, true, true, true, true, true, true, false, false] rfl rfl (by kernel_rfl) (by decide) (fun K hK => ?_)
        refine goes_ Try.func34 (by kernel_rfl) rfl #[.pointer (some ⟨gq, 0, none⟩), Value.agg #[.int .i64 pk, .int .i64 ps, .int .i64 pp, .int .i64 id], .int .u64 vx] (by rfl) rfl rfl (by simp only [List.map_toArray, List.map_cons, List.map_nil]; rfl) ?_
        with_reducible refine (padd_T gq gd gn G.p pk ps pp id vx w _ YP.out YJ.out).mono ?_
        rintro e w6 ⟨rfl, h1_, h2_, h3_⟩
        refine ⟨_, rfl, ?_⟩
        have ZP := Aside0.mk h1_
        have ZI := Aside0.mk (bothG2 YI.out YP.out GN.out h3_)
        have ZJ := Aside0.mk h2_
        clear h1_ h2_ h3_
        refine hK.out _ _ ?_
        clear hK K
        refine norm_ (a' := ?_) ?_ ?_
        rotate_left
        · show Act.put _ (some 89) _ = _
          simp only [Act.put, List.setIfInBounds_toArray, List.set_cons_zero, List.set_cons_succ, i64_w, i32_w]
          rfl
        refine pure_ (i := 14) (N := some 90) (v := ?_) (a' := ?_) #[true, true, true, true, true, true, true, true, true, true, true, true, true, true, true, false] rfl rfl (by kernel_rfl) (fun _ _ _ h => h) (Or.inl ⟨by rfl, ?_⟩) ?_ ?_
        rotate_left
        · intro w'
          go_simp
          with_reducible rfl
        rotate_left
        · simp only [Act.put, List.setIfInBounds_toArray, List.set_cons_zero, List.set_cons_succ, i64_w, i32_w]
          rfl
        refine pure_ (i := 15) (N := some 7) (v := ?_) (a' := ?_) #[true, true, true, true, true, true, true, true, true, true, true, true, true, true, true, true] rfl rfl (by kernel_rfl) (fun _ _ _ h => h) (Or.inl ⟨by rfl, ?_⟩) ?_ ?_
        rotate_left
        · intro w'
          go_simp
          with_reducible rfl
        rotate_left
        · simp only [Act.put, List.setIfInBounds_toArray, List.set_cons_zero, List.set_cons_succ, i64_w, i32_w]
          rfl
        refine done_ (by kernel_rfl) ?_
        clear hx0 hx1 hx2 hx3 hx4 hx5 hx6 hx7 hx8 hx9 hx10
        go_wp2_with fail
        go_roundg ko
        case rel => exact ⟨i + 1, gaddG G (pk, ps, pp) vx, by first | rfl | rw [wi], ⟨by have := HK.out; have := RI.out; omega⟩, ZI, ZP, ZJ, ⟨by have := JR.out; show (G.row.length : Int) ≤ i + 1; omega⟩⟩
        case measure => exact Nat.lt_succ_self _
      have u5 : (kd == 5) = false := beq_eq_false_iff_ne.mpr k5
      clear k5
      by_cases k6 : kd = 6
      · subst k6
        have XB := Aside0.mk (blk_new wr (.cells #[.int .i64 6, .int .i64 pk, .int .i64 ps, .int .i64 pp, .int .i64 id, .int .u64 ox, .int .i64 oy, .bool ost, .int .u64 vx, .int .i64 vy, .bool vst] 70))
        have XI := Aside0.mk (JI.out.alloc (.cells #[.int .i64 6, .int .i64 pk, .int .i64 ps, .int .i64 pp, .int .i64 id, .int .u64 ox, .int .i64 oy, .bool ost, .int .u64 vx, .int .i64 vy, .bool vst] 70))
        have XP := Aside0.mk (JP.out.alloc (.cells #[.int .i64 6, .int .i64 pk, .int .i64 ps, .int .i64 pp, .int .i64 id, .int .u64 ox, .int .i64 oy, .bool ost, .int .u64 vx, .int .i64 vy, .bool vst] 70))
        have XJ := Aside0.mk (below_alloc JB.out (.cells #[.int .i64 6, .int .i64 pk, .int .i64 ps, .int .i64 pp, .int .i64 id, .int .u64 ox, .int .i64 oy, .bool ost, .int .u64 vx, .int .i64 vy, .bool vst] 70))
        have b2 : (wr.alloc (.cells #[.int .i64 6, .int .i64 pk, .int .i64 ps, .int .i64 pp, .int .i64 id, .int .u64 ox, .int .i64 oy, .bool ost, .int .u64 vx, .int .i64 vy, .bool vst] 70)).cell? ⟨wr.heap.size, 2, none⟩ = some (.int .i64 ps) := (blk_cell XB.out 2).trans rfl
        go_wp2_with fail
        refine (gborn_T gg gp gc gm gl gs g3 G ps w _ XI.out XJ.out LR.out).mono ?_
        rintro e w5 ⟨rfl, h1_, h2_, h3_⟩
        have ZI := Aside0.mk h1_
        have ZP := Aside0.mk (bothG1 XI.out XP.out GN.out h3_)
        have ZJ := Aside0.mk h2_
        clear h1_ h2_ h3_
        clear hx0 hx1 hx2 hx3 hx4 hx5 hx6 hx7 hx8 hx9 hx10
        go_wp2_with fail
        go_roundg ko
        case rel => exact ⟨i + 1, gbornG G ps, by first | rfl | rw [wi], ⟨by have := HK.out; have := RI.out; omega⟩, ZI, ZP, ZJ, ⟨by have := JR.out; show ((bornRow G.row ps).length : Int) ≤ i + 1; unfold bornRow; split <;> (try rw [List.length_append, List.length_singleton]) <;> omega⟩⟩
        case measure => exact Nat.lt_succ_self _
      have u6 : (kd == 6) = false := beq_eq_false_iff_ne.mpr k6
      clear k6
      have XB := Aside0.mk (blk_new wr (.cells #[.int .i64 kd, .int .i64 pk, .int .i64 ps, .int .i64 pp, .int .i64 id, .int .u64 ox, .int .i64 oy, .bool ost, .int .u64 vx, .int .i64 vy, .bool vst] 70))
      have XI := Aside0.mk (JI.out.alloc (.cells #[.int .i64 kd, .int .i64 pk, .int .i64 ps, .int .i64 pp, .int .i64 id, .int .u64 ox, .int .i64 oy, .bool ost, .int .u64 vx, .int .i64 vy, .bool vst] 70))
      have XP := Aside0.mk (JP.out.alloc (.cells #[.int .i64 kd, .int .i64 pk, .int .i64 ps, .int .i64 pp, .int .i64 id, .int .u64 ox, .int .i64 oy, .bool ost, .int .u64 vx, .int .i64 vy, .bool vst] 70))
      have XJ := Aside0.mk (below_alloc JB.out (.cells #[.int .i64 kd, .int .i64 pk, .int .i64 ps, .int .i64 pp, .int .i64 id, .int .u64 ox, .int .i64 oy, .bool ost, .int .u64 vx, .int .i64 vy, .bool vst] 70))
      go_wp2_with fail
      have ZI := XI
      have ZP := XP
      have ZJ := XJ
      go_roundg ko
      case rel => exact ⟨i + 1, G, by first | rfl | rw [wi], ⟨by have := HK.out; have := RI.out; omega⟩, ZI, ZP, ZJ, ⟨by have := JR.out; show (G.row.length : Int) ≤ i + 1; omega⟩⟩
      case measure => exact Nat.lt_succ_self _
    · have tt : decide (i < (xs.length : Int)) = false ∨ (decide (i < (xs.length : Int)) = true ∧ decide (i < 150) = false) := by
        by_cases h : i < (xs.length : Int)
        · exact .inr ⟨decide_eq_true h, decide_eq_false (fun h2 => hi ⟨h, h2⟩)⟩
        · exact .inl (decide_eq_false h)
      clear hi
      rcases tt with t1 | ⟨t1, t2⟩
      all_goals
        go_wp2_with fail
        refine (gcells_T gg gp gc gm gl gs g3 G w wr JI.out).mono ?_
        rintro e w8 ⟨ga, gb, rfl, h1, h2⟩
        have C8 := Aside0.mk h1
        have I8 := Aside0.mk (JI.out.below h2)
        have P8 := Aside0.mk (JP.out.below h2)
        have B8 := Aside0.mk (below_step JB.out h2)
        clear h1 h2
        go_wp2_with fail
        refine (pcells_T gq gd gn G.p w w8 P8.out).mono ?_
        rintro e w9 ⟨ga2, gb2, rfl, h1, h2⟩
        have D9 := Aside0.mk h1
        have C9 := Aside0.mk (C8.out.below h2)
        have I9 := Aside0.mk (I8.out.below h2)
        have P9 := Aside0.mk (P8.out.below h2)
        have B9 := Aside0.mk (below_step B8.out h2)
        clear h1 h2
        go_wp2_with fail
        refine (same_T ga gb ga2 gb2 _ _ _ _ w9 C9.out D9.out rfl).mono ?_
        rintro e w10 ⟨rfl, hb⟩
        have I10 := Aside0.mk (I9.out.below hb)
        have P10 := Aside0.mk (P9.out.below hb)
        have B10 := Aside0.mk (below_step B9.out hb)
        clear hb
        go_wp2_with fail
        refine (gcount_T gg gp gc gm gl gs g3 G w w10 I10.out).mono ?_
        rintro e w11 ⟨rfl, hb⟩
        have P11 := Aside0.mk (P10.out.below hb)
        have B11 := Aside0.mk (below_step B10.out hb)
        clear hb
        go_wp2_with fail
        refine (pcount_T gq gd gn G.p w w11 P11.out).mono ?_
        rintro e w12 ⟨rfl, hb⟩
        have B12 := Aside0.mk (below_step B11.out hb)
        clear hb
        go_wp2_with fail
        go_ret
        exact ⟨by simp, B12.out⟩
def revenantlaw08_GhostErased.f (xs : List S70) : Option Bool := some true
theorem revenantlaw08_GhostErased.calls (A0_ : Option Addr) (c0 : Nat) (xs : List S70) (r : Bool) (w : World) (hr0 : Kd.C k70 w A0_ xs.length xs) (hc0 : xs.length ≤ c0) (h : revenantlaw08_GhostErased.f xs = some r) :
    Calls Try.prog 10 #[.slice A0_ xs.length c0] w fun e w' => e = .returned (.bool r) ∧ Below w.heap.size w w' := by
  obtain rfl := Option.some.inj h
  exact erased08T A0_ c0 xs w hr0 hc0
theorem RGhostErased (xs : List S70) {P : Prop} (_ : P) : revenantlaw08_GhostErased.f xs = some true := rfl
end Go.Proofs.Ytlpnggapndokeaa.PIdealKeeps

