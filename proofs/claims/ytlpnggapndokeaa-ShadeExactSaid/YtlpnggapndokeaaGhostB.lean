/-
The watched memory: its loads; of nothing there is nothing; whether a slot is somebody.
-/
import Derived.Test.YtlpnggapndokeaaGhost
namespace Go.Proofs.Ytlpnggapndokeaa.PIdealKeeps
open Go Go.RowKit Go.Proofs.YtlpnggapndokeaaW.PrintWords Go.Proofs.YtlpnggapndokeaaW.PrintLast Go.Proofs.YtlpnggapndokeaaW.PrintMore Go.Proofs.Ytlpnggapndokeaa.M
attribute [local go_sem] max2_int min2_int max_two min_two max_three min_three max_four min_four
set_option linter.unusedVariables false
set_option linter.unusedSimpArgs false
def gloadG (G : GSt) (k : K3) (id : Int) : GSt := { G with p := cloadC G.p, stale := if staleR G k.1 k.2.1 id then wrap64 (G.stale + 1) else G.stale }
set_option maxHeartbeats 4000000 in
set_option maxRecDepth 100000 in
theorem gload_U (gg gp gc gm gl gs g3 : Nat) (G : GSt) (pk ps pp id : Int) (w0 w : World) (hI : GhostIs w0 w gg gp gc gm gl gs g3 G) (hB : Below w0.heap.size w0 w) :
    Calls Try.prog 42 #[.pointer (some ⟨gg, 0, none⟩), .agg #[.int .i64 pk, .int .i64 ps, .int .i64 pp, .int .i64 id]] w (GPostT w0 w gg gp gc gm gl gs g3 (gloadG G (pk, ps, pp) id) (.agg #[.int .u64 (getw G.p.m (pk, ps, pp)), .int .i64 ((get G.leads (pk, ps, pp)).getD 0), .bool (staleR G pk ps id)])) := by
  have hu121 := Try.underlying121
  have hu25 := Try.underlying25
  have hu28 := Try.underlying28
  have hu23 := Try.underlying23
  have JI := Aside0.mk ((hI.alloc (.cells #[.int .i64 pk, .int .i64 ps, .int .i64 pp, .int .i64 id] 25)).alloc (.cells #[.int .u64 0, .int .i64 0, .bool false] 28)).drew
  have JB := Aside0.mk (below_drew (below_alloc (below_alloc hB (.cells #[.int .i64 pk, .int .i64 ps, .int .i64 pp, .int .i64 id] 25)) (.cells #[.int .u64 0, .int .i64 0, .bool false] 28)))
  have JF := Aside0.mk (((Fr.refl (GhostT gg gc gm gl) w).alloc (.cells #[.int .i64 pk, .int .i64 ps, .int .i64 pp, .int .i64 id] 25)).alloc (.cells #[.int .u64 0, .int .i64 0, .bool false] 28)).drew
  have X0 := Aside0.mk (blk_drew (blk_alloc (blk_new w (.cells #[.int .i64 pk, .int .i64 ps, .int .i64 pp, .int .i64 id] 25)) (.cells #[.int .u64 0, .int .i64 0, .bool false] 28)))
  have X1 := Aside0.mk (blk_drew (blk_new2 w (.cells #[.int .i64 pk, .int .i64 ps, .int .i64 pp, .int .i64 id] 25) (.cells #[.int .u64 0, .int .i64 0, .bool false] 28)))
  have HSZ := Aside0.mk hB.size
  clear hI hB
  obtain ⟨cur, hcur⟩ : ∃ c, getw G.p.m (pk, ps, pp) = c := ⟨_, rfl⟩
  obtain ⟨ld, hld⟩ : ∃ c, (get G.leads (pk, ps, pp)).getD 0 = c := ⟨_, rfl⟩
  obtain ⟨b, hb⟩ : ∃ c, staleR G pk ps id = c := ⟨_, rfl⟩
  have HCUR := Aside0.mk hcur
  have HST := Aside0.mk hb
  rw [hcur, hld, hb]
  have HL := Aside0.mk (show ∀ W, MapIs eP eI W gl G.leads → (Instr.lookup 119 (.map (some gl)) (.agg #[.int .i64 pk, .int .i64 ps, .int .i64 pp]) false).run Try.prog W = .ok (.int .i64 ld) W from fun W hM => hld ▸ M.look (P := Try.prog) keyP Try.underlying119 0 (zI W) hM (pk, ps, pp))
  clear hcur hld hb
  go_enter Try.func42, Try.ntmps42
  go_wp2_with fail
  refine start_ (n := 8) (S := fun w' => w'.cell? ⟨gg, 0, none⟩ = some (.pointer (some ⟨gp, 0, none⟩)) ∧ w'.cell? ⟨w.heap.size, 0, none⟩ = some (.int .i64 pk) ∧ w'.cell? ⟨w.heap.size, 1, none⟩ = some (.int .i64 ps) ∧ w'.cell? ⟨w.heap.size, 2, none⟩ = some (.int .i64 pp) ∧ w'.cell? ⟨w.heap.size, 3, none⟩ = some (.int .i64 id)) (ds := [7]) (lb 8 0) (by kernel_rfl) rfl rfl ⟨(blk_cell JI.out.blk 0).trans rfl, (blk_cell X0.out 0).trans rfl, (blk_cell X0.out 1).trans rfl, (blk_cell X0.out 2).trans rfl, (blk_cell X0.out 3).trans rfl⟩ (fun hHeld => ?_)
  refine pS (v := ?_) (a' := ?_) 0 (some 9) (lb 8 1) rfl rfl (by kernel_rfl) (fun _ _ _ h => h) (by rfl) ?_ ?_ ?_; rotate_left; (intro w'; go_simp; with_reducible rfl); rotate_left; (simp only [Act.put, List.setIfInBounds_toArray, List.set_cons_zero, List.set_cons_succ, i64_w, i32_w]; rfl)
  refine pS (v := ?_) (a' := ?_) 1 (some 10) (lb 8 3) rfl rfl (by kernel_rfl) (fun _ _ _ h => h) (by rfl) ?_ ?_ ?_; rotate_left; (intro w'; go_simp; with_reducible rfl); rotate_left; (simp only [Act.put, List.setIfInBounds_toArray, List.set_cons_zero, List.set_cons_succ, i64_w, i32_w]; rfl)
  refine pS (v := ?_) (a' := ?_) 2 (some 11) (lb 8 7) rfl rfl (by kernel_rfl) (fun _ _ _ h => h) (by rfl) ?_ ?_ ?_; rotate_left; (intro w'; go_simp; with_reducible rfl); rotate_left; (simp only [Act.put, List.setIfInBounds_toArray, List.set_cons_zero, List.set_cons_succ, i64_w, i32_w]; rfl)
  refine tS (v := ?_) (a' := ?_) 3 (some 12) (lb 8 15) rfl rfl (by kernel_rfl) (fun _ _ _ h => h) hHeld (by rfl) ?_ ?_ ?_; rotate_left; (rintro w' ⟨s0, s1, s2, s3, s4⟩; go_simp; with_reducible rfl); rotate_left; (simp only [Act.put, List.setIfInBounds_toArray, List.set_cons_zero, List.set_cons_succ, i64_w, i32_w]; rfl)
  refine tS (v := ?_) (a' := ?_) 4 (some 13) (lb 8 31) rfl rfl (by kernel_rfl) (fun _ _ _ h => h) hHeld (by rfl) ?_ ?_ ?_; rotate_left; (rintro w' ⟨s0, s1, s2, s3, s4⟩; go_simp; with_reducible rfl); rotate_left; (simp only [Act.put, List.setIfInBounds_toArray, List.set_cons_zero, List.set_cons_succ, i64_w, i32_w]; rfl)
  refine join_ (σ := Nat) 1 (lb 8 127) (fun s_ => [(14, .agg #[.int .u64 cur, .int .i64 0, .bool false]), (5, .pointer (some ⟨s_, 0, none⟩))]) (fun s_ w' => (w'.cell? ⟨gg, 0, none⟩ = some (.pointer (some ⟨gp, 0, none⟩)) ∧ w'.cell? ⟨w.heap.size, 0, none⟩ = some (.int .i64 pk) ∧ w'.cell? ⟨w.heap.size, 1, none⟩ = some (.int .i64 ps) ∧ w'.cell? ⟨w.heap.size, 2, none⟩ = some (.int .i64 pp) ∧ w'.cell? ⟨w.heap.size, 3, none⟩ = some (.int .i64 id)) ∧ GhostIs w0 w' gg gp gc gm gl gs g3 { G with p := cloadC G.p } ∧ Below w0.heap.size w0 w' ∧ Fr (GhostT gg gc gm gl) w w' ∧ w'.heap[w.heap.size]? = some (.cells #[.int .i64 pk, .int .i64 ps, .int .i64 pp, .int .i64 id] 25 (0, 0)) ∧ w'.heap[w.heap.size + 1]? = some (.cells #[.int .u64 0, .int .i64 0, .bool false] 28 (0, 0)) ∧ w'.heap[s_]? = some (.cells #[.int .u64 0, .int .i64 0, .bool false] 28 (0, 0)) ∧ w.heap.size + 1 < s_) ?_ ?_
  rotate_left
  · intro hCont
    refine two_ (i := 5) (j := 6) (Ni := some 14) (Nj := some 5) (lb 8 63) (lb 8 95) rfl rfl rfl rfl (by kernel_rfl) (by decide) (by decide) (fun K hK => ?_) (fun K hK => ?_)
    · skip
      refine goes_ Try.func31 (by kernel_rfl) rfl #[.pointer (some ⟨gp, 0, none⟩), Value.agg #[.int .i64 pk, .int .i64 ps, .int .i64 pp, .int .i64 id]] (by rfl) rfl rfl (by simp only [List.map_toArray, List.map_cons, List.map_nil]; rfl) ?_
      with_reducible refine (pload_T gp gc gm G.p pk ps pp id w0 _ JI.out.plain JB.out).mono ?_
      rintro e wS ⟨rfl, h1_, h2_, h3_⟩
      refine ⟨_, rfl, ?_⟩
      rw [HCUR.out]
      have JIn := Aside0.mk (JI.out.turnP h1_ h3_)
      have JBn := Aside0.mk h2_
      have JFn := Aside0.mk (JF.out.trans (frPT h3_))
      have X0n := Aside0.mk (JI.out.plain.cells.stays h3_ X0.out (by decide))
      have X1n := Aside0.mk (JI.out.plain.cells.stays h3_ X1.out (by decide))
      clear JI JB JF X0 X1
      have JI := JIn
      have JB := JBn
      have JF := JFn
      have X0 := X0n
      have X1 := X1n
      clear JIn JBn JFn X0n X1n
      clear h1_ h2_ h3_
      refine hK.out _ _ ⟨(blk_cell JI.out.blk 0).trans rfl, (blk_cell X0.out 0).trans rfl, (blk_cell X0.out 1).trans rfl, (blk_cell X0.out 2).trans rfl, (blk_cell X0.out 3).trans rfl⟩ (fun hHeld => ?_)
      clear hK K
      refine norm_ (a' := ?_) ?_ ?_
      rotate_left
      · show Act.put _ (some 14) _ = _
        simp only [Act.put, List.setIfInBounds_toArray, List.set_cons_zero, List.set_cons_succ, i64_w, i32_w]
        rfl
      refine one_ (i := 6) (N := some 5) (lb 8 127) rfl rfl (by kernel_rfl) (by decide) (fun K hK => ?_)
      refine box_step ?hg (N := 5) ?hd (cs := #[.int .u64 0, .int .i64 0, .bool false]) (t := 28) ?hr ?_; (case hd => rfl); (case hg => rfl); (case hr => first | (go_simp; done) | (go_simp; rfl))
      intro gS hg wA hbox hb
      have JIn := Aside0.mk (JI.out.below hb)
      have JBn := Aside0.mk (below_step JB.out hb)
      have JFn := Aside0.mk (JF.out.below hb)
      have X0n := Aside0.mk (blk_below X0.out hb)
      have X1n := Aside0.mk (blk_below X1.out hb)
      have GW := Aside0.mk (show w.heap.size + 1 < gS by rw [hg]; exact blk_lt X1.out)
      have GS := Aside0.mk hbox
      clear JI JB JF X0 X1
      have JI := JIn
      have JB := JBn
      have JF := JFn
      have X0 := X0n
      have X1 := X1n
      clear JIn JBn JFn X0n X1n
      clear hg hbox hb
      refine hK.out _ _ ⟨(blk_cell JI.out.blk 0).trans rfl, (blk_cell X0.out 0).trans rfl, (blk_cell X0.out 1).trans rfl, (blk_cell X0.out 2).trans rfl, (blk_cell X0.out 3).trans rfl⟩ (fun hHeld => ?_)
      clear hK K
      refine norm_ (a' := ?_) ?_ ?_
      rotate_left
      · show Act.put _ (some 5) _ = _
        simp only [Act.put, List.setIfInBounds_toArray, List.set_cons_zero, List.set_cons_succ, i64_w, i32_w]
        rfl
      exact norm_ (by simp only [putAll, Act.put, List.setIfInBounds_toArray, List.set_cons_zero, List.set_cons_succ]) (hCont gS _ ⟨hHeld, JI.out, JB.out, JF.out, X0.out, X1.out, GS.out, GW.out⟩)
    · skip
      refine box_step ?hg (N := 5) ?hd (cs := #[.int .u64 0, .int .i64 0, .bool false]) (t := 28) ?hr ?_; (case hd => rfl); (case hg => rfl); (case hr => first | (go_simp; done) | (go_simp; rfl))
      intro gS hg wA hbox hb
      have JIn := Aside0.mk (JI.out.below hb)
      have JBn := Aside0.mk (below_step JB.out hb)
      have JFn := Aside0.mk (JF.out.below hb)
      have X0n := Aside0.mk (blk_below X0.out hb)
      have X1n := Aside0.mk (blk_below X1.out hb)
      have GW := Aside0.mk (show w.heap.size + 1 < gS by rw [hg]; exact blk_lt X1.out)
      have GS := Aside0.mk hbox
      clear JI JB JF X0 X1
      have JI := JIn
      have JB := JBn
      have JF := JFn
      have X0 := X0n
      have X1 := X1n
      clear JIn JBn JFn X0n X1n
      clear hg hbox hb
      refine hK.out _ _ ⟨(blk_cell JI.out.blk 0).trans rfl, (blk_cell X0.out 0).trans rfl, (blk_cell X0.out 1).trans rfl, (blk_cell X0.out 2).trans rfl, (blk_cell X0.out 3).trans rfl⟩ (fun hHeld => ?_)
      clear hK K
      refine norm_ (a' := ?_) ?_ ?_
      rotate_left
      · show Act.put _ (some 5) _ = _
        simp only [Act.put, List.setIfInBounds_toArray, List.set_cons_zero, List.set_cons_succ, i64_w, i32_w]
        rfl
      refine one_ (i := 5) (N := some 14) (lb 8 127) rfl rfl (by kernel_rfl) (by decide) (fun K hK => ?_)
      refine goes_ Try.func31 (by kernel_rfl) rfl #[.pointer (some ⟨gp, 0, none⟩), Value.agg #[.int .i64 pk, .int .i64 ps, .int .i64 pp, .int .i64 id]] (by rfl) rfl rfl (by simp only [List.map_toArray, List.map_cons, List.map_nil]; rfl) ?_
      with_reducible refine (pload_T gp gc gm G.p pk ps pp id w0 _ JI.out.plain JB.out).mono ?_
      rintro e wS ⟨rfl, h1_, h2_, h3_⟩
      refine ⟨_, rfl, ?_⟩
      rw [HCUR.out]
      have JIn := Aside0.mk (JI.out.turnP h1_ h3_)
      have JBn := Aside0.mk h2_
      have JFn := Aside0.mk (JF.out.trans (frPT h3_))
      have X0n := Aside0.mk (JI.out.plain.cells.stays h3_ X0.out (by decide))
      have X1n := Aside0.mk (JI.out.plain.cells.stays h3_ X1.out (by decide))
      have GSn := Aside0.mk (JI.out.plain.cells.stays h3_ GS.out (by decide))
      clear GS
      have GS := GSn
      clear GSn
      clear JI JB JF X0 X1
      have JI := JIn
      have JB := JBn
      have JF := JFn
      have X0 := X0n
      have X1 := X1n
      clear JIn JBn JFn X0n X1n
      clear h1_ h2_ h3_
      refine hK.out _ _ ⟨(blk_cell JI.out.blk 0).trans rfl, (blk_cell X0.out 0).trans rfl, (blk_cell X0.out 1).trans rfl, (blk_cell X0.out 2).trans rfl, (blk_cell X0.out 3).trans rfl⟩ (fun hHeld => ?_)
      clear hK K
      refine norm_ (a' := ?_) ?_ ?_
      rotate_left
      · show Act.put _ (some 14) _ = _
        simp only [Act.put, List.setIfInBounds_toArray, List.set_cons_zero, List.set_cons_succ, i64_w, i32_w]
        rfl
      exact norm_ (by simp only [putAll, Act.put, List.setIfInBounds_toArray, List.set_cons_zero, List.set_cons_succ]) (hCont gS _ ⟨hHeld, JI.out, JB.out, JF.out, X0.out, X1.out, GS.out, GW.out⟩)
  rintro gS wF ⟨hHeld, f1_, f2_, f3_, f4_, f5_, f6_, f7_⟩
  have JI := Aside0.mk (show GhostIs w0 wF gg gp gc gm gl gs g3 { G with p := cloadC G.p } from f1_)
  have JB := Aside0.mk f2_
  have JF := Aside0.mk (show Fr (GhostT gg gc gm gl) w wF from f3_)
  have X0 := Aside0.mk (show wF.heap[w.heap.size]? = some (.cells #[.int .i64 pk, .int .i64 ps, .int .i64 pp, .int .i64 id] 25 (0, 0)) from f4_)
  have X1 := Aside0.mk (show wF.heap[w.heap.size + 1]? = some (.cells #[.int .u64 0, .int .i64 0, .bool false] 28 (0, 0)) from f5_)
  have GS := Aside0.mk (show wF.heap[gS]? = some (.cells #[.int .u64 0, .int .i64 0, .bool false] 28 (0, 0)) from f6_)
  have GW := Aside0.mk (show w.heap.size + 1 < gS from f7_)
  clear f1_ f2_ f3_ f4_ f5_ f6_ f7_
  refine norm_ (a' := ?_) ?_ ?_
  rotate_left
  · simp only [putAll, Act.put, List.setIfInBounds_toArray, List.set_cons_zero, List.set_cons_succ]
    rfl
  refine last_ (i := 7) (N := none) (lb 8 255) rfl rfl (by kernel_rfl) (by decide) (fun K hK => ?_)
  have z0 : wF.cell? ⟨gS, 0, none⟩ = some (.int .u64 0) := (blk_cell GS.out 0).trans rfl
  have z1 : wF.cell? ⟨gS, 1, none⟩ = some (.int .i64 0) := (blk_cell GS.out 1).trans rfl
  have z2 : wF.cell? ⟨gS, 2, none⟩ = some (.bool false) := (blk_cell GS.out 2).trans rfl
  have y0 : wF.frozen? ⟨gS, 0, none⟩ = false := blk_frozen GS.out 0
  have y1 : wF.frozen? ⟨gS, 1, none⟩ = false := blk_frozen GS.out 1
  have y2 : wF.frozen? ⟨gS, 2, none⟩ = false := blk_frozen GS.out 2
  refine skip_ (w1 := ?_) (by rfl) rfl ?_ ?_
  rotate_left
  · go_simp
    rfl
  clear z0 z1 z2 y0 y1 y2
  refine hK.out _ _ ?_
  clear hK K
  refine done_ (by kernel_rfl) ?_
  go_wp2_with fail
  have P0 := blk_put GS.out 0 (.int .u64 cur) rfl
  have P1 := blk_put P0 1 (.int .i64 0) rfl
  have GT := Aside0.mk (blk_put P1 2 (.bool false) rfl)
  have NA := Aside0.mk (show w.heap.size ≠ gS by have := GW.out; omega)
  have NB := Aside0.mk (show w.heap.size + 1 ≠ gS by have := GW.out; omega)
  have KI := Aside0.mk (((JI.out.far GS.out (by decide) (by decide) (by decide) (by decide) (by decide) 0 (.int .u64 cur)).far P0 (by decide) (by decide) (by decide) (by decide) (by decide) 1 (.int .i64 0)).far P1 (by decide) (by decide) (by decide) (by decide) (by decide) 2 (.bool false))
  have GE : w.heap.size ≤ gS := by have := GW.out; omega
  have GE0 : w0.heap.size ≤ gS := Nat.le_trans HSZ.out GE
  have KB := Aside0.mk (((JB.out.setCell (p := ⟨gS, 0, none⟩) GE0 (.int .u64 cur)).setCell (p := ⟨gS, 1, none⟩) GE0 (.int .i64 0)).setCell (p := ⟨gS, 2, none⟩) GE0 (.bool false))
  have KF := Aside0.mk (((JF.out.setNew (p := ⟨gS, 0, none⟩) GE (.int .u64 cur)).setNew (p := ⟨gS, 1, none⟩) GE (.int .i64 0)).setNew (p := ⟨gS, 2, none⟩) GE (.bool false))
  have Y0 := Aside0.mk (blk_far (p := ⟨gS, 2, none⟩) (blk_far (p := ⟨gS, 1, none⟩) (blk_far (p := ⟨gS, 0, none⟩) X0.out NA.out (.int .u64 cur)) NA.out (.int .i64 0)) NA.out (.bool false))
  have Y1 := Aside0.mk (blk_far (p := ⟨gS, 2, none⟩) (blk_far (p := ⟨gS, 1, none⟩) (blk_far (p := ⟨gS, 0, none⟩) X1.out NB.out (.int .u64 cur)) NB.out (.int .i64 0)) NB.out (.bool false))
  have HE := Aside0.mk GE
  have HE0 := Aside0.mk GE0
  clear P0 P1 GE GE0 JI JB JF X0 X1 GS
  generalize ((wF.setCell ⟨gS, 0, none⟩ (.int .u64 cur)).setCell ⟨gS, 1, none⟩ (.int .i64 0)).setCell ⟨gS, 2, none⟩ (.bool false) = w7 at *
  refine start_ (n := 14) (S := fun w' => w'.cell? ⟨gg, 1, none⟩ = some (.map (some gl)) ∧ w'.cell? ⟨w.heap.size, 0, none⟩ = some (.int .i64 pk) ∧ w'.cell? ⟨w.heap.size, 1, none⟩ = some (.int .i64 ps) ∧ w'.cell? ⟨w.heap.size, 2, none⟩ = some (.int .i64 pp) ∧ w'.cell? ⟨w.heap.size, 3, none⟩ = some (.int .i64 id) ∧ (Instr.lookup 119 (.map (some gl)) (.agg #[.int .i64 pk, .int .i64 ps, .int .i64 pp]) false).run Try.prog w' = .ok (.int .i64 ld) w') (ds := [13]) (lb 14 0) (by kernel_rfl) rfl rfl ⟨(blk_cell (blk_drew KI.out.blk) 1).trans rfl, (blk_cell (blk_drew Y0.out) 0).trans rfl, (blk_cell (blk_drew Y0.out) 1).trans rfl, (blk_cell (blk_drew Y0.out) 2).trans rfl, (blk_cell (blk_drew Y0.out) 3).trans rfl, (HL.out _ KI.out.drew.leads)⟩ (fun hHeld => ?_)
  refine pS (v := ?_) (a' := ?_) 0 (some 15) (lb 14 1) rfl rfl (by kernel_rfl) (fun _ _ _ h => h) (by rfl) ?_ ?_ ?_; rotate_left; (intro w'; go_simp; with_reducible rfl); rotate_left; (simp only [Act.put, List.setIfInBounds_toArray, List.set_cons_zero, List.set_cons_succ, i64_w, i32_w]; rfl)
  refine pS (v := ?_) (a' := ?_) 1 (some 16) (lb 14 3) rfl rfl (by kernel_rfl) (fun _ _ _ h => h) (by rfl) ?_ ?_ ?_; rotate_left; (intro w'; go_simp; with_reducible rfl); rotate_left; (simp only [Act.put, List.setIfInBounds_toArray, List.set_cons_zero, List.set_cons_succ, i64_w, i32_w]; rfl)
  refine pS (v := ?_) (a' := ?_) 2 (some 17) (lb 14 7) rfl rfl (by kernel_rfl) (fun _ _ _ h => h) (by rfl) ?_ ?_ ?_; rotate_left; (intro w'; go_simp; with_reducible rfl); rotate_left; (simp only [Act.put, List.setIfInBounds_toArray, List.set_cons_zero, List.set_cons_succ, i64_w, i32_w]; rfl)
  refine pS (v := ?_) (a' := ?_) 4 (some 19) (lb 14 23) rfl rfl (by kernel_rfl) (fun _ _ _ h => h) (by rfl) ?_ ?_ ?_; rotate_left; (intro w'; go_simp; with_reducible rfl); rotate_left; (simp only [Act.put, List.setIfInBounds_toArray, List.set_cons_zero, List.set_cons_succ, i64_w, i32_w]; rfl)
  refine pS (v := ?_) (a' := ?_) 7 (some 22) (lb 14 151) rfl rfl (by kernel_rfl) (fun _ _ _ h => h) (by rfl) ?_ ?_ ?_; rotate_left; (intro w'; go_simp; with_reducible rfl); rotate_left; (simp only [Act.put, List.setIfInBounds_toArray, List.set_cons_zero, List.set_cons_succ, i64_w, i32_w]; rfl)
  refine tS (v := ?_) (a' := ?_) 3 (some 18) (lb 14 159) rfl rfl (by kernel_rfl) (fun _ _ _ h => h) hHeld (by rfl) ?_ ?_ ?_; rotate_left; (rintro w' ⟨s0, s1, s2, s3, s4, s5⟩; go_simp; with_reducible rfl); rotate_left; (simp only [Act.put, List.setIfInBounds_toArray, List.set_cons_zero, List.set_cons_succ, i64_w, i32_w]; rfl)
  refine tS (v := ?_) (a' := ?_) 5 (some 20) (lb 14 191) rfl rfl (by kernel_rfl) (fun _ _ _ h => h) hHeld (by rfl) ?_ ?_ ?_; rotate_left; (rintro w' ⟨s0, s1, s2, s3, s4, s5⟩; go_simp; with_reducible rfl); rotate_left; (simp only [Act.put, List.setIfInBounds_toArray, List.set_cons_zero, List.set_cons_succ, i64_w, i32_w]; rfl)
  refine tS (v := ?_) (a' := ?_) 6 (some 21) (lb 14 255) rfl rfl (by kernel_rfl) (fun _ _ _ h => h) hHeld (by rfl) ?_ ?_ ?_; rotate_left; (rintro w' ⟨s0, s1, s2, s3, s4, s5⟩; go_simp; with_reducible rfl); rotate_left; (simp only [Act.put, List.setIfInBounds_toArray, List.set_cons_zero, List.set_cons_succ, i64_w, i32_w]; rfl)
  refine pS (v := ?_) (a' := ?_) 10 (some 25) (lb 14 1279) rfl rfl (by kernel_rfl) (fun _ _ _ h => h) (by rfl) ?_ ?_ ?_; rotate_left; (intro w'; go_simp; with_reducible rfl); rotate_left; (simp only [Act.put, List.setIfInBounds_toArray, List.set_cons_zero, List.set_cons_succ, i64_w, i32_w]; rfl)
  refine tS (v := ?_) (a' := ?_) 8 (some 23) (lb 14 1535) rfl rfl (by kernel_rfl) (fun _ _ _ h => h) hHeld (by rfl) ?_ ?_ ?_; rotate_left; (rintro w' ⟨s0, s1, s2, s3, s4, s5⟩; go_simp; with_reducible rfl); rotate_left; (simp only [Act.put, List.setIfInBounds_toArray, List.set_cons_zero, List.set_cons_succ, i64_w, i32_w]; rfl)
  refine one_ (i := 9) (N := some 24) (lb 14 2047) rfl rfl (by kernel_rfl) (by decide) (fun K hK => ?_)
  refine goes_ Try.func94 (by kernel_rfl) rfl #[.pointer (some ⟨gg, 0, none⟩), Value.agg #[.int .i64 pk, .int .i64 ps, .int .i64 pp, .int .i64 id]] (by rfl) rfl rfl (by simp only [List.map_toArray, List.map_cons, List.map_nil]; rfl) ?_
  with_reducible refine (gis_T gg gp gc gm gl gs g3 _ pk ps pp id w0 _ KI.out.drew).mono ?_
  rintro e w8 ⟨rfl, hb⟩
  refine ⟨_, rfl, ?_⟩
  rw [show staleR { G with p := cloadC G.p } pk ps id = b from HST.out]
  have LI := Aside0.mk (KI.out.drew.below hb)
  have LB := Aside0.mk (below_step (below_drew KB.out) hb)
  have LF := Aside0.mk (KF.out.drew.below hb)
  have U0 := Aside0.mk (blk_below (blk_drew Y0.out) hb)
  have U1 := Aside0.mk (blk_below (blk_drew Y1.out) hb)
  have UT := Aside0.mk (blk_below (blk_drew GT.out) hb)
  clear hb KI KB KF Y0 Y1 GT
  refine hK.out _ _ ⟨(blk_cell LI.out.blk 1).trans rfl, (blk_cell U0.out 0).trans rfl, (blk_cell U0.out 1).trans rfl, (blk_cell U0.out 2).trans rfl, (blk_cell U0.out 3).trans rfl, (HL.out _ LI.out.leads)⟩ (fun hHeld => ?_)
  clear hK K
  refine norm_ (a' := ?_) ?_ ?_
  rotate_left
  · show Act.put _ (some 24) _ = _
    simp only [Act.put, List.setIfInBounds_toArray, List.set_cons_zero, List.set_cons_succ, i64_w, i32_w]
    rfl
  refine one_ (i := 11) (N := none) (lb 14 4095) rfl rfl (by kernel_rfl) (by decide) (fun K hK => ?_)
  have z1 : w8.cell? ⟨gS, 1, none⟩ = some (.int .i64 0) := (blk_cell UT.out 1).trans rfl
  have y1 : w8.frozen? ⟨gS, 1, none⟩ = false := blk_frozen UT.out 1
  refine skip_ (w1 := ?_) (by rfl) rfl ?_ ?_
  rotate_left
  · go_simp
    rfl
  clear z1 y1
  have MI := Aside0.mk (LI.out.far UT.out (by decide) (by decide) (by decide) (by decide) (by decide) 1 (.int .i64 ld))
  have MT := Aside0.mk (blk_put UT.out 1 (.int .i64 ld) rfl)
  have MB := Aside0.mk (LB.out.setCell (p := ⟨gS, 1, none⟩) HE0.out (.int .i64 ld))
  have MF := Aside0.mk (LF.out.setNew (p := ⟨gS, 1, none⟩) HE.out (.int .i64 ld))
  have M0 := Aside0.mk (blk_far (p := ⟨gS, 1, none⟩) U0.out NA.out (.int .i64 ld))
  have M1 := Aside0.mk (blk_far (p := ⟨gS, 1, none⟩) U1.out NB.out (.int .i64 ld))
  clear LI LB LF U0 U1 UT
  generalize w8.setCell ⟨gS, 1, none⟩ (.int .i64 ld) = w9 at *
  refine hK.out _ _ ⟨(blk_cell MI.out.blk 1).trans rfl, (blk_cell M0.out 0).trans rfl, (blk_cell M0.out 1).trans rfl, (blk_cell M0.out 2).trans rfl, (blk_cell M0.out 3).trans rfl, (HL.out _ MI.out.leads)⟩ (fun hHeld => ?_)
  clear hK K
  refine pS (v := ?_) (a' := ?_) 12 (some 26) (lb 14 8191) rfl rfl (by kernel_rfl) (fun _ _ _ h => h) (by rfl) ?_ ?_ ?_; rotate_left; (intro w'; go_simp; with_reducible rfl); rotate_left; (simp only [Act.put, List.setIfInBounds_toArray, List.set_cons_zero, List.set_cons_succ, i64_w, i32_w]; rfl)
  refine last_ (i := 13) (N := none) (lb 14 16383) rfl rfl (by kernel_rfl) (by decide) (fun K hK => ?_)
  have z2 : w9.cell? ⟨gS, 2, none⟩ = some (.bool false) := (blk_cell MT.out 2).trans rfl
  have y2 : w9.frozen? ⟨gS, 2, none⟩ = false := blk_frozen MT.out 2
  refine skip_ (w1 := ?_) (by rfl) rfl ?_ ?_
  rotate_left
  · go_simp
    rfl
  clear z2 y2
  refine hK.out _ _ ?_
  clear hK K
  refine done_ (by kernel_rfl) ?_
  have NI := Aside0.mk (MI.out.far MT.out (by decide) (by decide) (by decide) (by decide) (by decide) 2 (.bool b))
  have NT := Aside0.mk (blk_put MT.out 2 (.bool b) rfl)
  have NBb := Aside0.mk (MB.out.setCell (p := ⟨gS, 2, none⟩) HE0.out (.bool b))
  have NF := Aside0.mk (MF.out.setNew (p := ⟨gS, 2, none⟩) HE.out (.bool b))
  have N1 := Aside0.mk (blk_far (p := ⟨gS, 2, none⟩) M1.out NB.out (.bool b))
  clear MI MT MB MF M0 M1
  generalize w9.setCell ⟨gS, 2, none⟩ (.bool b) = w10 at *
  have x2 : w10.cell? ⟨gS, 2, none⟩ = some (.bool b) := (blk_cell NT.out 2).trans rfl
  cases b with
  | false =>
    have E := Aside0.mk (show gloadG G (pk, ps, pp) id = { G with p := cloadC G.p } by unfold gloadG; rw [show staleR G (pk, ps, pp).1 (pk, ps, pp).2.1 id = false from HST.out]; rfl)
    have QI := NI
    have QT := NT
    have Q1 := N1
    have QB := NBb
    have QF := NF
    have g0 : w10.cell? ⟨gS, 0, none⟩ = some (.int .u64 cur) := (blk_cell QT.out 0).trans rfl
    have g1 : w10.cell? ⟨gS, 1, none⟩ = some (.int .i64 ld) := (blk_cell QT.out 1).trans rfl
    have g2 : w10.cell? ⟨gS, 2, none⟩ = some (.bool false) := (blk_cell QT.out 2).trans rfl
    have h0 : w10.cell? ⟨w.heap.size + 1, 0, none⟩ = some (.int .u64 0) := (blk_cell Q1.out 0).trans rfl
    have i0 : w10.frozen? ⟨w.heap.size + 1, 0, none⟩ = false := blk_frozen Q1.out 0
    have h1 : w10.cell? ⟨w.heap.size + 1, 1, none⟩ = some (.int .i64 0) := (blk_cell Q1.out 1).trans rfl
    have i1 : w10.frozen? ⟨w.heap.size + 1, 1, none⟩ = false := blk_frozen Q1.out 1
    have h2 : w10.cell? ⟨w.heap.size + 1, 2, none⟩ = some (.bool false) := (blk_cell Q1.out 2).trans rfl
    have i2 : w10.frozen? ⟨w.heap.size + 1, 2, none⟩ = false := blk_frozen Q1.out 2
    go_wp2_with fail
    have R0 := blk_put Q1.out 0 (.int .u64 cur) rfl
    have R1 := blk_put R0 1 (.int .i64 ld) rfl
    have R := blk_put R1 2 (.bool false) rfl
    have HI2 := ((QI.out.far Q1.out (by decide) (by decide) (by decide) (by decide) (by decide) 0 (.int .u64 cur)).far R0 (by decide) (by decide) (by decide) (by decide) (by decide) 1 (.int .i64 ld)).far R1 (by decide) (by decide) (by decide) (by decide) (by decide) 2 (.bool false)
    refine bodyPost_ret (results_cell_row rfl _ _ (w.heap.size + 1) 28 #[.int .u64 cur, .int .i64 ld, .bool false] (0, 0) _ rfl R Try.underlying28 rfl (by kernel_rfl)) rfl ?_
    have GE : w.heap.size ≤ w.heap.size + 1 := by omega
    have G0 : w0.heap.size ≤ w.heap.size := HSZ.out
    rw [E.out]
    exact ⟨rfl, HI2, ((QB.out.setCell (p := ⟨w.heap.size + 1, 0, none⟩) (Nat.le_trans G0 GE) _).setCell (p := ⟨w.heap.size + 1, 1, none⟩) (Nat.le_trans G0 GE) _).setCell (p := ⟨w.heap.size + 1, 2, none⟩) (Nat.le_trans G0 GE) _, ((QF.out.setNew (p := ⟨w.heap.size + 1, 0, none⟩) GE _).setNew (p := ⟨w.heap.size + 1, 1, none⟩) GE _).setNew (p := ⟨w.heap.size + 1, 2, none⟩) GE _⟩
  | true =>
    have E := Aside0.mk (show gloadG G (pk, ps, pp) id = { { G with p := cloadC G.p } with stale := wrap64 (G.stale + 1) } by unfold gloadG; rw [show staleR G (pk, ps, pp).1 (pk, ps, pp).2.1 id = true from HST.out]; rfl)
    have c3 : w10.cell? ⟨gg, 3, none⟩ = some (.int .i64 G.stale) := (blk_cell NI.out.blk 3).trans rfl
    have f3 := blk_frozen NI.out.blk 3
    have QI := Aside0.mk (NI.out.count 3 (.int .i64 (wrap64 (G.stale + 1))) { { G with p := cloadC G.p } with stale := wrap64 (G.stale + 1) } rfl rfl rfl rfl rfl)
    have NGS := Aside0.mk (show gS ≠ gg from blk_ne NT.out NI.out.blk (by decide))
    have NG1 := Aside0.mk (show w.heap.size + 1 ≠ gg from blk_ne N1.out NI.out.blk (by decide))
    have QT := Aside0.mk (blk_far (p := ⟨gg, 3, none⟩) NT.out NGS.out (.int .i64 (wrap64 (G.stale + 1))))
    have Q1 := Aside0.mk (blk_far (p := ⟨gg, 3, none⟩) N1.out NG1.out (.int .i64 (wrap64 (G.stale + 1))))
    have QB := Aside0.mk (NBb.out.setCell (p := ⟨gg, 3, none⟩) NI.out.b (.int .i64 (wrap64 (G.stale + 1))))
    have QF := Aside0.mk (NF.out.set (p := ⟨gg, 3, none⟩) (fun _ => .inl rfl) (.int .i64 (wrap64 (G.stale + 1))))
    have g0 : (w10.setCell ⟨gg, 3, none⟩ (.int .i64 (wrap64 (G.stale + 1)))).cell? ⟨gS, 0, none⟩ = some (.int .u64 cur) := (blk_cell QT.out 0).trans rfl
    have g1 : (w10.setCell ⟨gg, 3, none⟩ (.int .i64 (wrap64 (G.stale + 1)))).cell? ⟨gS, 1, none⟩ = some (.int .i64 ld) := (blk_cell QT.out 1).trans rfl
    have g2 : (w10.setCell ⟨gg, 3, none⟩ (.int .i64 (wrap64 (G.stale + 1)))).cell? ⟨gS, 2, none⟩ = some (.bool true) := (blk_cell QT.out 2).trans rfl
    have h0 : (w10.setCell ⟨gg, 3, none⟩ (.int .i64 (wrap64 (G.stale + 1)))).cell? ⟨w.heap.size + 1, 0, none⟩ = some (.int .u64 0) := (blk_cell Q1.out 0).trans rfl
    have i0 : (w10.setCell ⟨gg, 3, none⟩ (.int .i64 (wrap64 (G.stale + 1)))).frozen? ⟨w.heap.size + 1, 0, none⟩ = false := blk_frozen Q1.out 0
    have h1 : (w10.setCell ⟨gg, 3, none⟩ (.int .i64 (wrap64 (G.stale + 1)))).cell? ⟨w.heap.size + 1, 1, none⟩ = some (.int .i64 0) := (blk_cell Q1.out 1).trans rfl
    have i1 : (w10.setCell ⟨gg, 3, none⟩ (.int .i64 (wrap64 (G.stale + 1)))).frozen? ⟨w.heap.size + 1, 1, none⟩ = false := blk_frozen Q1.out 1
    have h2 : (w10.setCell ⟨gg, 3, none⟩ (.int .i64 (wrap64 (G.stale + 1)))).cell? ⟨w.heap.size + 1, 2, none⟩ = some (.bool false) := (blk_cell Q1.out 2).trans rfl
    have i2 : (w10.setCell ⟨gg, 3, none⟩ (.int .i64 (wrap64 (G.stale + 1)))).frozen? ⟨w.heap.size + 1, 2, none⟩ = false := blk_frozen Q1.out 2
    go_wp2_with fail
    have R0 := blk_put Q1.out 0 (.int .u64 cur) rfl
    have R1 := blk_put R0 1 (.int .i64 ld) rfl
    have R := blk_put R1 2 (.bool true) rfl
    have HI2 := ((QI.out.far Q1.out (by decide) (by decide) (by decide) (by decide) (by decide) 0 (.int .u64 cur)).far R0 (by decide) (by decide) (by decide) (by decide) (by decide) 1 (.int .i64 ld)).far R1 (by decide) (by decide) (by decide) (by decide) (by decide) 2 (.bool true)
    refine bodyPost_ret (results_cell_row rfl _ _ (w.heap.size + 1) 28 #[.int .u64 cur, .int .i64 ld, .bool true] (0, 0) _ rfl R Try.underlying28 rfl (by kernel_rfl)) rfl ?_
    have GE : w.heap.size ≤ w.heap.size + 1 := by omega
    have G0 : w0.heap.size ≤ w.heap.size := HSZ.out
    rw [E.out]
    exact ⟨rfl, HI2, ((QB.out.setCell (p := ⟨w.heap.size + 1, 0, none⟩) (Nat.le_trans G0 GE) _).setCell (p := ⟨w.heap.size + 1, 1, none⟩) (Nat.le_trans G0 GE) _).setCell (p := ⟨w.heap.size + 1, 2, none⟩) (Nat.le_trans G0 GE) _, ((QF.out.setNew (p := ⟨w.heap.size + 1, 0, none⟩) GE _).setNew (p := ⟨w.heap.size + 1, 1, none⟩) GE _).setNew (p := ⟨w.heap.size + 1, 2, none⟩) GE _⟩
theorem gload_T (gg gp gc gm gl gs g3 : Nat) (G : GSt) (pk ps pp id : Int) (w0 w : World) (hI : GhostIs w0 w gg gp gc gm gl gs g3 G) (hB : Below w0.heap.size w0 w) :
    Calls Try.prog 42 #[.pointer (some ⟨gg, 0, none⟩), .agg #[.int .i64 pk, .int .i64 ps, .int .i64 pp, .int .i64 id]] w (GPost w0 w gg gp gc gm gl gs g3 (gloadG G (pk, ps, pp) id) (.agg #[.int .u64 (getw G.p.m (pk, ps, pp)), .int .i64 ((get G.leads (pk, ps, pp)).getD 0), .bool (staleR G pk ps id)])) :=
  (gload_U gg gp gc gm gl gs g3 G pk ps pp id w0 w hI hB).mono fun _ _ h => h.post
end Go.Proofs.Ytlpnggapndokeaa.PIdealKeeps

namespace Go.Proofs.Ytlpnggapndokeaa.PIdealKeeps
open Go Go.RowKit Go.Proofs.YtlpnggapndokeaaW.PrintWords Go.Proofs.YtlpnggapndokeaaW.PrintLast Go.Proofs.YtlpnggapndokeaaW.PrintMore Go.Proofs.Ytlpnggapndokeaa.M
attribute [local go_sem] max2_int min2_int max_two min_two max_three min_three max_four min_four
set_option linter.unusedVariables false
set_option linter.unusedSimpArgs false
set_option maxHeartbeats 4000000 in
set_option maxRecDepth 100000 in
theorem pswapNil_T (pk ps pp id ox oy x y : Int) (ost st : Bool) (w : World) : Calls Try.prog 33 #[.pointer none, .agg #[.int .i64 pk, .int .i64 ps, .int .i64 pp, .int .i64 id], .agg #[.int .u64 ox, .int .i64 oy, .bool ost], .agg #[.int .u64 x, .int .i64 y, .bool st]] w fun e w' => e = .returned (.bool false) ∧ Below w.heap.size w w' := by
  have hu121 := Try.underlying121
  have hu25 := Try.underlying25
  have hu28 := Try.underlying28
  have hu23 := Try.underlying23
  have B0 := Aside0.mk (below_drew (below_alloc (below_alloc (below_alloc (Below.refl w.heap.size w) (.cells #[.int .i64 pk, .int .i64 ps, .int .i64 pp, .int .i64 id] 25)) (.cells #[.int .u64 ox, .int .i64 oy, .bool ost] 28)) (.cells #[.int .u64 x, .int .i64 y, .bool st] 28)))
  have X0 := Aside0.mk (blk_drew (blk_alloc (blk_alloc (blk_new w (.cells #[.int .i64 pk, .int .i64 ps, .int .i64 pp, .int .i64 id] 25)) (.cells #[.int .u64 ox, .int .i64 oy, .bool ost] 28)) (.cells #[.int .u64 x, .int .i64 y, .bool st] 28)))
  have X1 := Aside0.mk (blk_drew (blk_alloc (blk_new2 w (.cells #[.int .i64 pk, .int .i64 ps, .int .i64 pp, .int .i64 id] 25) (.cells #[.int .u64 ox, .int .i64 oy, .bool ost] 28)) (.cells #[.int .u64 x, .int .i64 y, .bool st] 28)))
  have X2 := Aside0.mk (blk_drew (blk_new3 w (.cells #[.int .i64 pk, .int .i64 ps, .int .i64 pp, .int .i64 id] 25) (.cells #[.int .u64 ox, .int .i64 oy, .bool ost] 28) (.cells #[.int .u64 x, .int .i64 y, .bool st] 28)))
  go_enter Try.func33, Try.ntmps33
  go_wp2_with fail
  refine start_ (n := 10) (S := fun w' => w'.cell? ⟨w.heap.size, 0, none⟩ = some (.int .i64 pk) ∧ w'.cell? ⟨w.heap.size, 1, none⟩ = some (.int .i64 ps) ∧ w'.cell? ⟨w.heap.size, 2, none⟩ = some (.int .i64 pp) ∧ w'.cell? ⟨w.heap.size + 1, 0, none⟩ = some (.int .u64 ox) ∧ w'.cell? ⟨w.heap.size + 1 + 1, 0, none⟩ = some (.int .u64 x)) (ds := [8]) (lb 10 0) (by kernel_rfl) rfl rfl ⟨(blk_cell X0.out 0).trans rfl, (blk_cell X0.out 1).trans rfl, (blk_cell X0.out 2).trans rfl, (blk_cell X1.out 0).trans rfl, (blk_cell X2.out 0).trans rfl⟩ (fun hHeld => ?_)
  refine pS (v := ?_) (a' := ?_) 0 (some 9) (lb 10 1) rfl rfl (by kernel_rfl) (fun _ _ _ h => h) (by rfl) ?_ ?_ ?_; rotate_left; (intro w'; go_simp; with_reducible rfl); rotate_left; (simp only [Act.put, List.setIfInBounds_toArray, List.set_cons_zero, List.set_cons_succ, i64_w, i32_w]; rfl)
  refine pS (v := ?_) (a' := ?_) 2 (some 11) (lb 10 5) rfl rfl (by kernel_rfl) (fun _ _ _ h => h) (by rfl) ?_ ?_ ?_; rotate_left; (intro w'; go_simp; with_reducible rfl); rotate_left; (simp only [Act.put, List.setIfInBounds_toArray, List.set_cons_zero, List.set_cons_succ, i64_w, i32_w]; rfl)
  refine pS (v := ?_) (a' := ?_) 4 (some 13) (lb 10 21) rfl rfl (by kernel_rfl) (fun _ _ _ h => h) (by rfl) ?_ ?_ ?_; rotate_left; (intro w'; go_simp; with_reducible rfl); rotate_left; (simp only [Act.put, List.setIfInBounds_toArray, List.set_cons_zero, List.set_cons_succ, i64_w, i32_w]; rfl)
  refine pS (v := ?_) (a' := ?_) 6 (some 15) (lb 10 85) rfl rfl (by kernel_rfl) (fun _ _ _ h => h) (by rfl) ?_ ?_ ?_; rotate_left; (intro w'; go_simp; with_reducible rfl); rotate_left; (simp only [Act.put, List.setIfInBounds_toArray, List.set_cons_zero, List.set_cons_succ, i64_w, i32_w]; rfl)
  refine tS (v := ?_) (a' := ?_) 3 (some 12) (lb 10 93) rfl rfl (by kernel_rfl) (fun _ _ _ h => h) hHeld (by rfl) ?_ ?_ ?_; rotate_left; (rintro w' ⟨s0, s1, s2, s3, s4⟩; go_simp; with_reducible rfl); rotate_left; (simp only [Act.put, List.setIfInBounds_toArray, List.set_cons_zero, List.set_cons_succ, i64_w, i32_w]; rfl)
  refine tS (v := ?_) (a' := ?_) 5 (some 14) (lb 10 125) rfl rfl (by kernel_rfl) (fun _ _ _ h => h) hHeld (by rfl) ?_ ?_ ?_; rotate_left; (rintro w' ⟨s0, s1, s2, s3, s4⟩; go_simp; with_reducible rfl); rotate_left; (simp only [Act.put, List.setIfInBounds_toArray, List.set_cons_zero, List.set_cons_succ, i64_w, i32_w]; rfl)
  refine tS (v := ?_) (a' := ?_) 7 (some 16) (lb 10 253) rfl rfl (by kernel_rfl) (fun _ _ _ h => h) hHeld (by rfl) ?_ ?_ ?_; rotate_left; (rintro w' ⟨s0, s1, s2, s3, s4⟩; go_simp; with_reducible rfl); rotate_left; (simp only [Act.put, List.setIfInBounds_toArray, List.set_cons_zero, List.set_cons_succ, i64_w, i32_w]; rfl)
  refine one_ (i := 1) (N := some 10) (lb 10 255) rfl rfl (by kernel_rfl) (by decide) (fun K hK => ?_)
  refine goes_ Try.func87 (by kernel_rfl) rfl #[.pointer none] (by rfl) rfl rfl (by simp only [List.map_toArray, List.map_cons, List.map_nil]; rfl) ?_
  with_reducible refine (pwordsNil_T _).mono ?_
  rintro e w5 ⟨rfl, rfl⟩
  refine ⟨_, rfl, ?_⟩
  refine hK.out _ _ ⟨(blk_cell X0.out 0).trans rfl, (blk_cell X0.out 1).trans rfl, (blk_cell X0.out 2).trans rfl, (blk_cell X1.out 0).trans rfl, (blk_cell X2.out 0).trans rfl⟩ (fun hHeld => ?_)
  clear hK K
  refine norm_ (a' := ?_) ?_ ?_
  rotate_left
  · show Act.put _ (some 10) _ = _
    simp only [Act.put, List.setIfInBounds_toArray, List.set_cons_zero, List.set_cons_succ, i64_w, i32_w]
    rfl
  refine last_ (i := 8) (N := some 17) (lb 10 511) rfl rfl (by kernel_rfl) (by decide) (fun K hK => ?_)
  refine goes_ Try.func90 (by kernel_rfl) rfl #[.pointer none, Value.agg #[.int .i64 pk, .int .i64 ps, .int .i64 pp], .int .u64 ox, .int .u64 x] (by rfl) rfl rfl (by simp only [List.map_toArray, List.map_cons, List.map_nil]; rfl) ?_
  with_reducible refine (cswapNil_T pk ps pp ox x _).mono ?_
  rintro e w6 ⟨rfl, hb⟩
  refine ⟨_, rfl, ?_⟩
  have R2 := Aside0.mk (below_step B0.out hb)
  clear hb
  refine hK.out _ _ ?_
  clear hK K
  refine norm_ (a' := ?_) ?_ ?_
  rotate_left
  · show Act.put _ (some 17) _ = _
    simp only [Act.put, List.setIfInBounds_toArray, List.set_cons_zero, List.set_cons_succ, i64_w, i32_w]
    rfl
  refine pS (v := ?_) (a' := ?_) 9 (some 8) (lb 10 1023) rfl rfl (by kernel_rfl) (fun _ _ _ h => h) (by rfl) ?_ ?_ ?_; rotate_left; (intro w'; go_simp; with_reducible rfl); rotate_left; (simp only [Act.put, List.setIfInBounds_toArray, List.set_cons_zero, List.set_cons_succ, i64_w, i32_w]; rfl)
  refine done_ (by kernel_rfl) ?_
  go_wp2_with fail
  go_ret
  exact ⟨rfl, R2.out⟩
set_option maxHeartbeats 4000000 in
set_option maxRecDepth 100000 in
theorem paddNil_T (pk ps pp id n : Int) (w : World) : Calls Try.prog 34 #[.pointer none, .agg #[.int .i64 pk, .int .i64 ps, .int .i64 pp, .int .i64 id], .int .u64 n] w fun e w' => e = .returned (.int .u64 0) ∧ Below w.heap.size w w' := by
  have hu121 := Try.underlying121
  have hu25 := Try.underlying25
  have hu28 := Try.underlying28
  have hu23 := Try.underlying23
  have B0 := Aside0.mk (below_drew (below_alloc (Below.refl w.heap.size w) (.cells #[.int .i64 pk, .int .i64 ps, .int .i64 pp, .int .i64 id] 25)))
  have X0 := Aside0.mk (blk_drew (blk_new w (.cells #[.int .i64 pk, .int .i64 ps, .int .i64 pp, .int .i64 id] 25)))
  go_enter Try.func34, Try.ntmps34
  go_wp2_with fail
  refine start_ (n := 7) (S := fun w' => w'.cell? ⟨w.heap.size, 0, none⟩ = some (.int .i64 pk) ∧ w'.cell? ⟨w.heap.size, 1, none⟩ = some (.int .i64 ps) ∧ w'.cell? ⟨w.heap.size, 2, none⟩ = some (.int .i64 pp)) (ds := [5]) (lb 7 0) (by kernel_rfl) rfl rfl ⟨(blk_cell X0.out 0).trans rfl, (blk_cell X0.out 1).trans rfl, (blk_cell X0.out 2).trans rfl⟩ (fun hHeld => ?_)
  refine pS (v := ?_) (a' := ?_) 0 (some 7) (lb 7 1) rfl rfl (by kernel_rfl) (fun _ _ _ h => h) (by rfl) ?_ ?_ ?_; rotate_left; (intro w'; go_simp; with_reducible rfl); rotate_left; (simp only [Act.put, List.setIfInBounds_toArray, List.set_cons_zero, List.set_cons_succ, i64_w, i32_w]; rfl)
  refine pS (v := ?_) (a' := ?_) 2 (some 9) (lb 7 5) rfl rfl (by kernel_rfl) (fun _ _ _ h => h) (by rfl) ?_ ?_ ?_; rotate_left; (intro w'; go_simp; with_reducible rfl); rotate_left; (simp only [Act.put, List.setIfInBounds_toArray, List.set_cons_zero, List.set_cons_succ, i64_w, i32_w]; rfl)
  refine pS (v := ?_) (a' := ?_) 4 (some 11) (lb 7 21) rfl rfl (by kernel_rfl) (fun _ _ _ h => h) (by rfl) ?_ ?_ ?_; rotate_left; (intro w'; go_simp; with_reducible rfl); rotate_left; (simp only [Act.put, List.setIfInBounds_toArray, List.set_cons_zero, List.set_cons_succ, i64_w, i32_w]; rfl)
  refine tS (v := ?_) (a' := ?_) 3 (some 10) (lb 7 29) rfl rfl (by kernel_rfl) (fun _ _ _ h => h) hHeld (by rfl) ?_ ?_ ?_; rotate_left; (rintro w' ⟨s0, s1, s2⟩; go_simp; with_reducible rfl); rotate_left; (simp only [Act.put, List.setIfInBounds_toArray, List.set_cons_zero, List.set_cons_succ, i64_w, i32_w]; rfl)
  refine one_ (i := 1) (N := some 8) (lb 7 31) rfl rfl (by kernel_rfl) (by decide) (fun K hK => ?_)
  refine goes_ Try.func87 (by kernel_rfl) rfl #[.pointer none] (by rfl) rfl rfl (by simp only [List.map_toArray, List.map_cons, List.map_nil]; rfl) ?_
  with_reducible refine (pwordsNil_T _).mono ?_
  rintro e w5 ⟨rfl, rfl⟩
  refine ⟨_, rfl, ?_⟩
  refine hK.out _ _ ⟨(blk_cell X0.out 0).trans rfl, (blk_cell X0.out 1).trans rfl, (blk_cell X0.out 2).trans rfl⟩ (fun hHeld => ?_)
  clear hK K
  refine norm_ (a' := ?_) ?_ ?_
  rotate_left
  · show Act.put _ (some 8) _ = _
    simp only [Act.put, List.setIfInBounds_toArray, List.set_cons_zero, List.set_cons_succ, i64_w, i32_w]
    rfl
  refine last_ (i := 5) (N := some 12) (lb 7 63) rfl rfl (by kernel_rfl) (by decide) (fun K hK => ?_)
  refine goes_ Try.func91 (by kernel_rfl) rfl #[.pointer none, Value.agg #[.int .i64 pk, .int .i64 ps, .int .i64 pp], .int .u64 n] (by rfl) rfl rfl (by simp only [List.map_toArray, List.map_cons, List.map_nil]; rfl) ?_
  with_reducible refine (caddNil_T pk ps pp n _).mono ?_
  rintro e w6 ⟨rfl, hb⟩
  refine ⟨_, rfl, ?_⟩
  have R2 := Aside0.mk (below_step B0.out hb)
  clear hb
  refine hK.out _ _ ?_
  clear hK K
  refine norm_ (a' := ?_) ?_ ?_
  rotate_left
  · show Act.put _ (some 12) _ = _
    simp only [Act.put, List.setIfInBounds_toArray, List.set_cons_zero, List.set_cons_succ, i64_w, i32_w]
    rfl
  refine pS (v := ?_) (a' := ?_) 6 (some 6) (lb 7 127) rfl rfl (by kernel_rfl) (fun _ _ _ h => h) (by rfl) ?_ ?_ ?_; rotate_left; (intro w'; go_simp; with_reducible rfl); rotate_left; (simp only [Act.put, List.setIfInBounds_toArray, List.set_cons_zero, List.set_cons_succ, i64_w, i32_w]; rfl)
  refine done_ (by kernel_rfl) ?_
  go_wp2_with fail
  go_ret
  exact ⟨rfl, R2.out⟩
set_option maxHeartbeats 4000000 in
set_option maxRecDepth 100000 in
theorem ppeekNil_T (pk ps pp : Int) (w : World) : Calls Try.prog 35 #[.pointer none, .agg #[.int .i64 pk, .int .i64 ps, .int .i64 pp]] w fun e w' => e = .returned (.int .u64 0) ∧ Below w.heap.size w w' := by
  have hu121 := Try.underlying121
  have hu25 := Try.underlying25
  have hu28 := Try.underlying28
  have hu23 := Try.underlying23
  have B0 := Aside0.mk (below_drew (below_alloc (Below.refl w.heap.size w) (.cells #[.int .i64 pk, .int .i64 ps, .int .i64 pp] 23)))
  have X0 := Aside0.mk (blk_drew (blk_new w (.cells #[.int .i64 pk, .int .i64 ps, .int .i64 pp] 23)))
  go_enter Try.func35, Try.ntmps35
  go_wp2_with fail
  refine start_ (n := 5) (S := fun w' => w'.cell? ⟨w.heap.size, 0, none⟩ = some (.int .i64 pk) ∧ w'.cell? ⟨w.heap.size, 1, none⟩ = some (.int .i64 ps) ∧ w'.cell? ⟨w.heap.size, 2, none⟩ = some (.int .i64 pp)) (ds := [3]) (lb 5 0) (by kernel_rfl) rfl rfl ⟨(blk_cell X0.out 0).trans rfl, (blk_cell X0.out 1).trans rfl, (blk_cell X0.out 2).trans rfl⟩ (fun hHeld => ?_)
  refine pS (v := ?_) (a' := ?_) 0 (some 5) (lb 5 1) rfl rfl (by kernel_rfl) (fun _ _ _ h => h) (by rfl) ?_ ?_ ?_; rotate_left; (intro w'; go_simp; with_reducible rfl); rotate_left; (simp only [Act.put, List.setIfInBounds_toArray, List.set_cons_zero, List.set_cons_succ, i64_w, i32_w]; rfl)
  refine tS (v := ?_) (a' := ?_) 2 (some 7) (lb 5 5) rfl rfl (by kernel_rfl) (fun _ _ _ h => h) hHeld (by rfl) ?_ ?_ ?_; rotate_left; (rintro w' ⟨s0, s1, s2⟩; go_simp; with_reducible rfl); rotate_left; (simp only [Act.put, List.setIfInBounds_toArray, List.set_cons_zero, List.set_cons_succ, i64_w, i32_w]; rfl)
  refine one_ (i := 1) (N := some 6) (lb 5 7) rfl rfl (by kernel_rfl) (by decide) (fun K hK => ?_)
  refine goes_ Try.func87 (by kernel_rfl) rfl #[.pointer none] (by rfl) rfl rfl (by simp only [List.map_toArray, List.map_cons, List.map_nil]; rfl) ?_
  with_reducible refine (pwordsNil_T _).mono ?_
  rintro e w5 ⟨rfl, rfl⟩
  refine ⟨_, rfl, ?_⟩
  refine hK.out _ _ ⟨(blk_cell X0.out 0).trans rfl, (blk_cell X0.out 1).trans rfl, (blk_cell X0.out 2).trans rfl⟩ (fun hHeld => ?_)
  clear hK K
  refine norm_ (a' := ?_) ?_ ?_
  rotate_left
  · show Act.put _ (some 6) _ = _
    simp only [Act.put, List.setIfInBounds_toArray, List.set_cons_zero, List.set_cons_succ, i64_w, i32_w]
    rfl
  refine last_ (i := 3) (N := some 8) (lb 5 15) rfl rfl (by kernel_rfl) (by decide) (fun K hK => ?_)
  refine goes_ Try.func92 (by kernel_rfl) rfl #[.pointer none, Value.agg #[.int .i64 pk, .int .i64 ps, .int .i64 pp]] (by rfl) rfl rfl (by simp only [List.map_toArray, List.map_cons, List.map_nil]; rfl) ?_
  with_reducible refine (cpeekNil_T pk ps pp _).mono ?_
  rintro e w6 ⟨rfl, hb⟩
  refine ⟨_, rfl, ?_⟩
  have R2 := Aside0.mk (below_step B0.out hb)
  clear hb
  refine hK.out _ _ ?_
  clear hK K
  refine norm_ (a' := ?_) ?_ ?_
  rotate_left
  · show Act.put _ (some 8) _ = _
    simp only [Act.put, List.setIfInBounds_toArray, List.set_cons_zero, List.set_cons_succ, i64_w, i32_w]
    rfl
  refine pS (v := ?_) (a' := ?_) 4 (some 4) (lb 5 31) rfl rfl (by kernel_rfl) (fun _ _ _ h => h) (by rfl) ?_ ?_ ?_; rotate_left; (intro w'; go_simp; with_reducible rfl); rotate_left; (simp only [Act.put, List.setIfInBounds_toArray, List.set_cons_zero, List.set_cons_succ, i64_w, i32_w]; rfl)
  refine done_ (by kernel_rfl) ?_
  go_wp2_with fail
  go_ret
  exact ⟨rfl, R2.out⟩
set_option maxHeartbeats 4000000 in
set_option maxRecDepth 100000 in
theorem pcountNil_T (w : World) : Calls Try.prog 36 #[.pointer none] w fun e w' => e = .returned (.agg #[.int .i64 0, .int .i64 0, .int .i64 0, .int .i64 0, .int .i64 0]) ∧ Below w.heap.size w w' := by
  have hu38 := Try.underlying38
  have X0 := Aside0.mk (blk_new w (.cells #[.int .i64 0, .int .i64 0, .int .i64 0, .int .i64 0, .int .i64 0] 38))
  go_enter Try.func36, Try.ntmps36
  go_wp2_with fail
  refine (pwordsNil_T _).mono ?_
  rintro e w1 ⟨rfl, rfl⟩
  go_wp2_with fail
  refine (ccountNil_T _).mono ?_
  rintro e w2 ⟨rfl, hb⟩
  have Y0 := Aside0.mk (blk_below X0.out hb)
  have B := Aside0.mk (below_step (below_alloc (Below.refl w.heap.size w) (.cells #[.int .i64 0, .int .i64 0, .int .i64 0, .int .i64 0, .int .i64 0] 38)) hb)
  clear hb
  have z0 : w2.cell? ⟨w.heap.size, 0, none⟩ = some (.int .i64 0) := (blk_cell Y0.out 0).trans rfl
  have z1 : w2.cell? ⟨w.heap.size, 1, none⟩ = some (.int .i64 0) := (blk_cell Y0.out 1).trans rfl
  have z2 : w2.cell? ⟨w.heap.size, 2, none⟩ = some (.int .i64 0) := (blk_cell Y0.out 2).trans rfl
  have z3 : w2.cell? ⟨w.heap.size, 3, none⟩ = some (.int .i64 0) := (blk_cell Y0.out 3).trans rfl
  have z4 : w2.cell? ⟨w.heap.size, 4, none⟩ = some (.int .i64 0) := (blk_cell Y0.out 4).trans rfl
  have y0 : w2.frozen? ⟨w.heap.size, 0, none⟩ = false := blk_frozen Y0.out 0
  have y1 : w2.frozen? ⟨w.heap.size, 1, none⟩ = false := blk_frozen Y0.out 1
  have y2 : w2.frozen? ⟨w.heap.size, 2, none⟩ = false := blk_frozen Y0.out 2
  have y3 : w2.frozen? ⟨w.heap.size, 3, none⟩ = false := blk_frozen Y0.out 3
  have y4 : w2.frozen? ⟨w.heap.size, 4, none⟩ = false := blk_frozen Y0.out 4
  go_wp2_with fail
  refine bodyPost_ret (results_cell_row rfl _ _ w.heap.size 38 #[.int .i64 0, .int .i64 0, .int .i64 0, .int .i64 0, .int .i64 0] (0, 0) _ rfl (blk_put (blk_put (blk_put (blk_put (blk_put Y0.out 0 (.int .i64 0) rfl) 1 (.int .i64 0) rfl) 2 (.int .i64 0) rfl) 3 (.int .i64 0) rfl) 4 (.int .i64 0) rfl) Try.underlying38 rfl (by kernel_rfl)) rfl ?_
  exact ⟨rfl, (((((B.out.setCell (p := ⟨w.heap.size, 0, none⟩) (Nat.le_refl _) _).setCell (p := ⟨w.heap.size, 1, none⟩) (Nat.le_refl _) _).setCell (p := ⟨w.heap.size, 2, none⟩) (Nat.le_refl _) _).setCell (p := ⟨w.heap.size, 3, none⟩) (Nat.le_refl _) _).setCell (p := ⟨w.heap.size, 4, none⟩) (Nat.le_refl _) _)⟩
set_option maxHeartbeats 4000000 in
set_option maxRecDepth 100000 in
theorem ccopyNil_T (w : World) : Calls Try.prog 102 #[.pointer none] w fun e w' => e = .returned (.pointer none) ∧ Below w.heap.size w w' := by
  go_enter Try.func102, Try.ntmps102
  go_wp2_with fail
  go_ret
  exact ⟨rfl, Below.refl _ _⟩
set_option maxHeartbeats 4000000 in
set_option maxRecDepth 100000 in
theorem pcellsNil_T (w : World) : Calls Try.prog 53 #[.pointer none] w fun e w' => e = .returned (.pointer none) ∧ Below w.heap.size w w' := by
  go_enter Try.func53, Try.ntmps53
  go_wp2_with fail
  refine (pwordsNil_T _).mono ?_
  rintro e w1 ⟨rfl, rfl⟩
  go_wp2_with fail
  refine (ccopyNil_T _).mono ?_
  rintro e w2 ⟨rfl, hb⟩
  have B := Aside0.mk hb
  clear hb
  go_wp2_with fail
  go_ret
  exact ⟨rfl, B.out⟩
set_option maxHeartbeats 4000000 in
set_option maxRecDepth 100000 in
theorem gstoreNil_T (pk ps pp id x y : Int) (st : Bool) (w : World) : Calls Try.prog 44 #[.pointer none, .agg #[.int .i64 pk, .int .i64 ps, .int .i64 pp, .int .i64 id], .agg #[.int .u64 x, .int .i64 y, .bool st]] w fun e w' => e = .returned (.tuple #[]) ∧ Below w.heap.size w w' := by
  have hu121 := Try.underlying121
  have hu25 := Try.underlying25
  have hu28 := Try.underlying28
  have hu23 := Try.underlying23
  go_enter Try.func44, Try.ntmps44
  go_wp2_with fail
  refine bodyPost_ret (results_none rfl _ _ _) rfl ?_
  exact ⟨rfl, below_alloc (below_alloc (Below.refl _ _) _) _⟩
set_option maxHeartbeats 4000000 in
set_option maxRecDepth 100000 in
theorem gloadNil_T (pk ps pp id : Int) (w : World) : Calls Try.prog 42 #[.pointer none, .agg #[.int .i64 pk, .int .i64 ps, .int .i64 pp, .int .i64 id]] w fun e w' => e = .returned (.agg #[.int .u64 0, .int .i64 0, .bool false]) ∧ Below w.heap.size w w' := by
  have hu121 := Try.underlying121
  have hu25 := Try.underlying25
  have hu28 := Try.underlying28
  have hu23 := Try.underlying23
  go_enter Try.func42, Try.ntmps42
  go_wp2_with fail
  refine bodyPost_ret (results_cell_row rfl _ _ (w.heap.size + 1) 28 #[.int .u64 0, .int .i64 0, .bool false] (0, 0) _ rfl (blk_new2 w _ _) Try.underlying28 rfl (by kernel_rfl)) rfl ?_
  exact ⟨rfl, below_alloc (below_alloc (Below.refl _ _) _) _⟩
set_option maxHeartbeats 4000000 in
set_option maxRecDepth 100000 in
theorem gswapNil_T (pk ps pp id ox oy x y : Int) (ost st : Bool) (w : World) : Calls Try.prog 46 #[.pointer none, .agg #[.int .i64 pk, .int .i64 ps, .int .i64 pp, .int .i64 id], .agg #[.int .u64 ox, .int .i64 oy, .bool ost], .agg #[.int .u64 x, .int .i64 y, .bool st]] w fun e w' => e = .returned (.bool false) ∧ Below w.heap.size w w' := by
  have hu121 := Try.underlying121
  have hu25 := Try.underlying25
  have hu28 := Try.underlying28
  have hu23 := Try.underlying23
  have B0 := Aside0.mk (below_drew (below_alloc (below_alloc (below_alloc (Below.refl w.heap.size w) (.cells #[.int .i64 pk, .int .i64 ps, .int .i64 pp, .int .i64 id] 25)) (.cells #[.int .u64 ox, .int .i64 oy, .bool ost] 28)) (.cells #[.int .u64 x, .int .i64 y, .bool st] 28)))
  have X0 := Aside0.mk (blk_drew (blk_alloc (blk_alloc (blk_new w (.cells #[.int .i64 pk, .int .i64 ps, .int .i64 pp, .int .i64 id] 25)) (.cells #[.int .u64 ox, .int .i64 oy, .bool ost] 28)) (.cells #[.int .u64 x, .int .i64 y, .bool st] 28)))
  have X1 := Aside0.mk (blk_drew (blk_alloc (blk_new2 w (.cells #[.int .i64 pk, .int .i64 ps, .int .i64 pp, .int .i64 id] 25) (.cells #[.int .u64 ox, .int .i64 oy, .bool ost] 28)) (.cells #[.int .u64 x, .int .i64 y, .bool st] 28)))
  have X2 := Aside0.mk (blk_drew (blk_new3 w (.cells #[.int .i64 pk, .int .i64 ps, .int .i64 pp, .int .i64 id] 25) (.cells #[.int .u64 ox, .int .i64 oy, .bool ost] 28) (.cells #[.int .u64 x, .int .i64 y, .bool st] 28)))
  go_enter Try.func46, Try.ntmps46
  go_wp2_with fail
  refine start_ (n := 7) (S := fun w' => w'.cell? ⟨w.heap.size, 0, none⟩ = some (.int .i64 pk) ∧ w'.cell? ⟨w.heap.size, 1, none⟩ = some (.int .i64 ps) ∧ w'.cell? ⟨w.heap.size, 2, none⟩ = some (.int .i64 pp) ∧ w'.cell? ⟨w.heap.size, 3, none⟩ = some (.int .i64 id) ∧ w'.cell? ⟨w.heap.size + 1, 0, none⟩ = some (.int .u64 ox) ∧ w'.cell? ⟨w.heap.size + 1, 1, none⟩ = some (.int .i64 oy) ∧ w'.cell? ⟨w.heap.size + 1, 2, none⟩ = some (.bool ost) ∧ w'.cell? ⟨w.heap.size + 1 + 1, 0, none⟩ = some (.int .u64 x) ∧ w'.cell? ⟨w.heap.size + 1 + 1, 1, none⟩ = some (.int .i64 y) ∧ w'.cell? ⟨w.heap.size + 1 + 1, 2, none⟩ = some (.bool st)) (ds := [5]) (lb 7 0) (by kernel_rfl) rfl rfl ⟨(blk_cell X0.out 0).trans rfl, (blk_cell X0.out 1).trans rfl, (blk_cell X0.out 2).trans rfl, (blk_cell X0.out 3).trans rfl, (blk_cell X1.out 0).trans rfl, (blk_cell X1.out 1).trans rfl, (blk_cell X1.out 2).trans rfl, (blk_cell X2.out 0).trans rfl, (blk_cell X2.out 1).trans rfl, (blk_cell X2.out 2).trans rfl⟩ (fun hHeld => ?_)
  refine pS (v := ?_) (a' := ?_) 0 (some 9) (lb 7 1) rfl rfl (by kernel_rfl) (fun _ _ _ h => h) (by rfl) ?_ ?_ ?_; rotate_left; (intro w'; go_simp; with_reducible rfl); rotate_left; (simp only [Act.put, List.setIfInBounds_toArray, List.set_cons_zero, List.set_cons_succ, i64_w, i32_w]; rfl)
  refine tS (v := ?_) (a' := ?_) 2 (some 11) (lb 7 5) rfl rfl (by kernel_rfl) (fun _ _ _ h => h) hHeld (by rfl) ?_ ?_ ?_; rotate_left; (rintro w' ⟨s0, s1, s2, s3, s4, s5, s6, s7, s8, s9⟩; go_simp; with_reducible rfl); rotate_left; (simp only [Act.put, List.setIfInBounds_toArray, List.set_cons_zero, List.set_cons_succ, i64_w, i32_w]; rfl)
  refine tS (v := ?_) (a' := ?_) 3 (some 12) (lb 7 13) rfl rfl (by kernel_rfl) (fun _ _ _ h => h) hHeld (by rfl) ?_ ?_ ?_; rotate_left; (rintro w' ⟨s0, s1, s2, s3, s4, s5, s6, s7, s8, s9⟩; go_simp; with_reducible rfl); rotate_left; (simp only [Act.put, List.setIfInBounds_toArray, List.set_cons_zero, List.set_cons_succ, i64_w, i32_w]; rfl)
  refine tS (v := ?_) (a' := ?_) 4 (some 13) (lb 7 29) rfl rfl (by kernel_rfl) (fun _ _ _ h => h) hHeld (by rfl) ?_ ?_ ?_; rotate_left; (rintro w' ⟨s0, s1, s2, s3, s4, s5, s6, s7, s8, s9⟩; go_simp; with_reducible rfl); rotate_left; (simp only [Act.put, List.setIfInBounds_toArray, List.set_cons_zero, List.set_cons_succ, i64_w, i32_w]; rfl)
  refine one_ (i := 1) (N := some 10) (lb 7 31) rfl rfl (by kernel_rfl) (by decide) (fun K hK => ?_)
  refine goes_ Try.func96 (by kernel_rfl) rfl #[.pointer none] (by rfl) rfl rfl (by simp only [List.map_toArray, List.map_cons, List.map_nil]; rfl) ?_
  with_reducible refine (gunderNil_T _).mono ?_
  rintro e w5 ⟨rfl, rfl⟩
  refine ⟨_, rfl, ?_⟩
  refine hK.out _ _ ⟨(blk_cell X0.out 0).trans rfl, (blk_cell X0.out 1).trans rfl, (blk_cell X0.out 2).trans rfl, (blk_cell X0.out 3).trans rfl, (blk_cell X1.out 0).trans rfl, (blk_cell X1.out 1).trans rfl, (blk_cell X1.out 2).trans rfl, (blk_cell X2.out 0).trans rfl, (blk_cell X2.out 1).trans rfl, (blk_cell X2.out 2).trans rfl⟩ (fun hHeld => ?_)
  clear hK K
  refine norm_ (a' := ?_) ?_ ?_
  rotate_left
  · show Act.put _ (some 10) _ = _
    simp only [Act.put, List.setIfInBounds_toArray, List.set_cons_zero, List.set_cons_succ, i64_w, i32_w]
    rfl
  refine last_ (i := 5) (N := some 14) (lb 7 63) rfl rfl (by kernel_rfl) (by decide) (fun K hK => ?_)
  refine goes_ Try.func33 (by kernel_rfl) rfl #[.pointer none, Value.agg #[.int .i64 pk, .int .i64 ps, .int .i64 pp, .int .i64 id], Value.agg #[.int .u64 ox, .int .i64 oy, .bool ost], Value.agg #[.int .u64 x, .int .i64 y, .bool st]] (by rfl) rfl rfl (by simp only [List.map_toArray, List.map_cons, List.map_nil]; rfl) ?_
  with_reducible refine (pswapNil_T pk ps pp id ox oy x y ost st _).mono ?_
  rintro e w6 ⟨rfl, hb⟩
  refine ⟨_, rfl, ?_⟩
  have R2 := Aside0.mk (below_step B0.out hb)
  clear hb
  refine hK.out _ _ ?_
  clear hK K
  refine norm_ (a' := ?_) ?_ ?_
  rotate_left
  · show Act.put _ (some 14) _ = _
    simp only [Act.put, List.setIfInBounds_toArray, List.set_cons_zero, List.set_cons_succ, i64_w, i32_w]
    rfl
  refine pS (v := ?_) (a' := ?_) 6 (some 15) (lb 7 127) rfl rfl (by kernel_rfl) (fun _ _ _ h => h) (by rfl) ?_ ?_ ?_; rotate_left; (intro w'; go_simp; with_reducible rfl); rotate_left; (simp only [Act.put, List.setIfInBounds_toArray, List.set_cons_zero, List.set_cons_succ, i64_w, i32_w]; rfl)
  refine done_ (by kernel_rfl) ?_
  go_wp2_with fail
  go_ret
  exact ⟨rfl, R2.out⟩
set_option maxHeartbeats 4000000 in
set_option maxRecDepth 100000 in
theorem gaddNil_T (pk ps pp id n : Int) (w : World) : Calls Try.prog 48 #[.pointer none, .agg #[.int .i64 pk, .int .i64 ps, .int .i64 pp, .int .i64 id], .int .u64 n] w fun e w' => e = .returned (.int .u64 0) ∧ Below w.heap.size w w' := by
  have hu121 := Try.underlying121
  have hu25 := Try.underlying25
  have hu28 := Try.underlying28
  have hu23 := Try.underlying23
  have B0 := Aside0.mk (below_drew (below_alloc (Below.refl w.heap.size w) (.cells #[.int .i64 pk, .int .i64 ps, .int .i64 pp, .int .i64 id] 25)))
  have X0 := Aside0.mk (blk_drew (blk_new w (.cells #[.int .i64 pk, .int .i64 ps, .int .i64 pp, .int .i64 id] 25)))
  go_enter Try.func48, Try.ntmps48
  go_wp2_with fail
  refine start_ (n := 6) (S := fun w' => w'.cell? ⟨w.heap.size, 0, none⟩ = some (.int .i64 pk) ∧ w'.cell? ⟨w.heap.size, 1, none⟩ = some (.int .i64 ps) ∧ w'.cell? ⟨w.heap.size, 2, none⟩ = some (.int .i64 pp) ∧ w'.cell? ⟨w.heap.size, 3, none⟩ = some (.int .i64 id)) (ds := [4]) (lb 6 0) (by kernel_rfl) rfl rfl ⟨(blk_cell X0.out 0).trans rfl, (blk_cell X0.out 1).trans rfl, (blk_cell X0.out 2).trans rfl, (blk_cell X0.out 3).trans rfl⟩ (fun hHeld => ?_)
  refine pS (v := ?_) (a' := ?_) 0 (some 7) (lb 6 1) rfl rfl (by kernel_rfl) (fun _ _ _ h => h) (by rfl) ?_ ?_ ?_; rotate_left; (intro w'; go_simp; with_reducible rfl); rotate_left; (simp only [Act.put, List.setIfInBounds_toArray, List.set_cons_zero, List.set_cons_succ, i64_w, i32_w]; rfl)
  refine pS (v := ?_) (a' := ?_) 3 (some 10) (lb 6 9) rfl rfl (by kernel_rfl) (fun _ _ _ h => h) (by rfl) ?_ ?_ ?_; rotate_left; (intro w'; go_simp; with_reducible rfl); rotate_left; (simp only [Act.put, List.setIfInBounds_toArray, List.set_cons_zero, List.set_cons_succ, i64_w, i32_w]; rfl)
  refine tS (v := ?_) (a' := ?_) 2 (some 9) (lb 6 13) rfl rfl (by kernel_rfl) (fun _ _ _ h => h) hHeld (by rfl) ?_ ?_ ?_; rotate_left; (rintro w' ⟨s0, s1, s2, s3⟩; go_simp; with_reducible rfl); rotate_left; (simp only [Act.put, List.setIfInBounds_toArray, List.set_cons_zero, List.set_cons_succ, i64_w, i32_w]; rfl)
  refine one_ (i := 1) (N := some 8) (lb 6 15) rfl rfl (by kernel_rfl) (by decide) (fun K hK => ?_)
  refine goes_ Try.func96 (by kernel_rfl) rfl #[.pointer none] (by rfl) rfl rfl (by simp only [List.map_toArray, List.map_cons, List.map_nil]; rfl) ?_
  with_reducible refine (gunderNil_T _).mono ?_
  rintro e w5 ⟨rfl, rfl⟩
  refine ⟨_, rfl, ?_⟩
  refine hK.out _ _ ⟨(blk_cell X0.out 0).trans rfl, (blk_cell X0.out 1).trans rfl, (blk_cell X0.out 2).trans rfl, (blk_cell X0.out 3).trans rfl⟩ (fun hHeld => ?_)
  clear hK K
  refine norm_ (a' := ?_) ?_ ?_
  rotate_left
  · show Act.put _ (some 8) _ = _
    simp only [Act.put, List.setIfInBounds_toArray, List.set_cons_zero, List.set_cons_succ, i64_w, i32_w]
    rfl
  refine last_ (i := 4) (N := some 11) (lb 6 31) rfl rfl (by kernel_rfl) (by decide) (fun K hK => ?_)
  refine goes_ Try.func34 (by kernel_rfl) rfl #[.pointer none, Value.agg #[.int .i64 pk, .int .i64 ps, .int .i64 pp, .int .i64 id], .int .u64 n] (by rfl) rfl rfl (by simp only [List.map_toArray, List.map_cons, List.map_nil]; rfl) ?_
  with_reducible refine (paddNil_T pk ps pp id n _).mono ?_
  rintro e w6 ⟨rfl, hb⟩
  refine ⟨_, rfl, ?_⟩
  have R2 := Aside0.mk (below_step B0.out hb)
  clear hb
  refine hK.out _ _ ?_
  clear hK K
  refine norm_ (a' := ?_) ?_ ?_
  rotate_left
  · show Act.put _ (some 11) _ = _
    simp only [Act.put, List.setIfInBounds_toArray, List.set_cons_zero, List.set_cons_succ, i64_w, i32_w]
    rfl
  refine pS (v := ?_) (a' := ?_) 5 (some 6) (lb 6 63) rfl rfl (by kernel_rfl) (fun _ _ _ h => h) (by rfl) ?_ ?_ ?_; rotate_left; (intro w'; go_simp; with_reducible rfl); rotate_left; (simp only [Act.put, List.setIfInBounds_toArray, List.set_cons_zero, List.set_cons_succ, i64_w, i32_w]; rfl)
  refine done_ (by kernel_rfl) ?_
  go_wp2_with fail
  go_ret
  exact ⟨rfl, R2.out⟩
set_option maxHeartbeats 4000000 in
set_option maxRecDepth 100000 in
theorem gpeekNil_T (pk ps pp : Int) (w : World) : Calls Try.prog 49 #[.pointer none, .agg #[.int .i64 pk, .int .i64 ps, .int .i64 pp]] w fun e w' => e = .returned (.int .u64 0) ∧ Below w.heap.size w w' := by
  have hu121 := Try.underlying121
  have hu25 := Try.underlying25
  have hu28 := Try.underlying28
  have hu23 := Try.underlying23
  have B0 := Aside0.mk (below_drew (below_alloc (Below.refl w.heap.size w) (.cells #[.int .i64 pk, .int .i64 ps, .int .i64 pp] 23)))
  have X0 := Aside0.mk (blk_drew (blk_new w (.cells #[.int .i64 pk, .int .i64 ps, .int .i64 pp] 23)))
  go_enter Try.func49, Try.ntmps49
  go_wp2_with fail
  refine start_ (n := 5) (S := fun w' => w'.cell? ⟨w.heap.size, 0, none⟩ = some (.int .i64 pk) ∧ w'.cell? ⟨w.heap.size, 1, none⟩ = some (.int .i64 ps) ∧ w'.cell? ⟨w.heap.size, 2, none⟩ = some (.int .i64 pp)) (ds := [3]) (lb 5 0) (by kernel_rfl) rfl rfl ⟨(blk_cell X0.out 0).trans rfl, (blk_cell X0.out 1).trans rfl, (blk_cell X0.out 2).trans rfl⟩ (fun hHeld => ?_)
  refine pS (v := ?_) (a' := ?_) 0 (some 5) (lb 5 1) rfl rfl (by kernel_rfl) (fun _ _ _ h => h) (by rfl) ?_ ?_ ?_; rotate_left; (intro w'; go_simp; with_reducible rfl); rotate_left; (simp only [Act.put, List.setIfInBounds_toArray, List.set_cons_zero, List.set_cons_succ, i64_w, i32_w]; rfl)
  refine tS (v := ?_) (a' := ?_) 2 (some 7) (lb 5 5) rfl rfl (by kernel_rfl) (fun _ _ _ h => h) hHeld (by rfl) ?_ ?_ ?_; rotate_left; (rintro w' ⟨s0, s1, s2⟩; go_simp; with_reducible rfl); rotate_left; (simp only [Act.put, List.setIfInBounds_toArray, List.set_cons_zero, List.set_cons_succ, i64_w, i32_w]; rfl)
  refine one_ (i := 1) (N := some 6) (lb 5 7) rfl rfl (by kernel_rfl) (by decide) (fun K hK => ?_)
  refine goes_ Try.func96 (by kernel_rfl) rfl #[.pointer none] (by rfl) rfl rfl (by simp only [List.map_toArray, List.map_cons, List.map_nil]; rfl) ?_
  with_reducible refine (gunderNil_T _).mono ?_
  rintro e w5 ⟨rfl, rfl⟩
  refine ⟨_, rfl, ?_⟩
  refine hK.out _ _ ⟨(blk_cell X0.out 0).trans rfl, (blk_cell X0.out 1).trans rfl, (blk_cell X0.out 2).trans rfl⟩ (fun hHeld => ?_)
  clear hK K
  refine norm_ (a' := ?_) ?_ ?_
  rotate_left
  · show Act.put _ (some 6) _ = _
    simp only [Act.put, List.setIfInBounds_toArray, List.set_cons_zero, List.set_cons_succ, i64_w, i32_w]
    rfl
  refine last_ (i := 3) (N := some 8) (lb 5 15) rfl rfl (by kernel_rfl) (by decide) (fun K hK => ?_)
  refine goes_ Try.func35 (by kernel_rfl) rfl #[.pointer none, Value.agg #[.int .i64 pk, .int .i64 ps, .int .i64 pp]] (by rfl) rfl rfl (by simp only [List.map_toArray, List.map_cons, List.map_nil]; rfl) ?_
  with_reducible refine (ppeekNil_T pk ps pp _).mono ?_
  rintro e w6 ⟨rfl, hb⟩
  refine ⟨_, rfl, ?_⟩
  have R2 := Aside0.mk (below_step B0.out hb)
  clear hb
  refine hK.out _ _ ?_
  clear hK K
  refine norm_ (a' := ?_) ?_ ?_
  rotate_left
  · show Act.put _ (some 8) _ = _
    simp only [Act.put, List.setIfInBounds_toArray, List.set_cons_zero, List.set_cons_succ, i64_w, i32_w]
    rfl
  refine pS (v := ?_) (a' := ?_) 4 (some 4) (lb 5 31) rfl rfl (by kernel_rfl) (fun _ _ _ h => h) (by rfl) ?_ ?_ ?_; rotate_left; (intro w'; go_simp; with_reducible rfl); rotate_left; (simp only [Act.put, List.setIfInBounds_toArray, List.set_cons_zero, List.set_cons_succ, i64_w, i32_w]; rfl)
  refine done_ (by kernel_rfl) ?_
  go_wp2_with fail
  go_ret
  exact ⟨rfl, R2.out⟩
set_option maxHeartbeats 4000000 in
set_option maxRecDepth 100000 in
theorem gcountNil_T (w : World) : Calls Try.prog 50 #[.pointer none] w fun e w' => e = .returned (.agg #[.int .i64 0, .int .i64 0, .int .i64 0, .int .i64 0, .int .i64 0]) ∧ Below w.heap.size w w' := by
  have hu38 := Try.underlying38
  have X0 := Aside0.mk (blk_new w (.cells #[.int .i64 0, .int .i64 0, .int .i64 0, .int .i64 0, .int .i64 0] 38))
  go_enter Try.func50, Try.ntmps50
  go_wp2_with fail
  refine (gunderNil_T _).mono ?_
  rintro e w1 ⟨rfl, rfl⟩
  go_wp2_with fail
  refine (pcountNil_T _).mono ?_
  rintro e w2 ⟨rfl, hb⟩
  have Y0 := Aside0.mk (blk_below X0.out hb)
  have B := Aside0.mk (below_step (below_alloc (Below.refl w.heap.size w) (.cells #[.int .i64 0, .int .i64 0, .int .i64 0, .int .i64 0, .int .i64 0] 38)) hb)
  clear hb
  have z0 : w2.cell? ⟨w.heap.size, 0, none⟩ = some (.int .i64 0) := (blk_cell Y0.out 0).trans rfl
  have z1 : w2.cell? ⟨w.heap.size, 1, none⟩ = some (.int .i64 0) := (blk_cell Y0.out 1).trans rfl
  have z2 : w2.cell? ⟨w.heap.size, 2, none⟩ = some (.int .i64 0) := (blk_cell Y0.out 2).trans rfl
  have z3 : w2.cell? ⟨w.heap.size, 3, none⟩ = some (.int .i64 0) := (blk_cell Y0.out 3).trans rfl
  have z4 : w2.cell? ⟨w.heap.size, 4, none⟩ = some (.int .i64 0) := (blk_cell Y0.out 4).trans rfl
  have y0 : w2.frozen? ⟨w.heap.size, 0, none⟩ = false := blk_frozen Y0.out 0
  have y1 : w2.frozen? ⟨w.heap.size, 1, none⟩ = false := blk_frozen Y0.out 1
  have y2 : w2.frozen? ⟨w.heap.size, 2, none⟩ = false := blk_frozen Y0.out 2
  have y3 : w2.frozen? ⟨w.heap.size, 3, none⟩ = false := blk_frozen Y0.out 3
  have y4 : w2.frozen? ⟨w.heap.size, 4, none⟩ = false := blk_frozen Y0.out 4
  go_wp2_with fail
  refine bodyPost_ret (results_cell_row rfl _ _ w.heap.size 38 #[.int .i64 0, .int .i64 0, .int .i64 0, .int .i64 0, .int .i64 0] (0, 0) _ rfl (blk_put (blk_put (blk_put (blk_put (blk_put Y0.out 0 (.int .i64 0) rfl) 1 (.int .i64 0) rfl) 2 (.int .i64 0) rfl) 3 (.int .i64 0) rfl) 4 (.int .i64 0) rfl) Try.underlying38 rfl (by kernel_rfl)) rfl ?_
  exact ⟨rfl, (((((B.out.setCell (p := ⟨w.heap.size, 0, none⟩) (Nat.le_refl _) _).setCell (p := ⟨w.heap.size, 1, none⟩) (Nat.le_refl _) _).setCell (p := ⟨w.heap.size, 2, none⟩) (Nat.le_refl _) _).setCell (p := ⟨w.heap.size, 3, none⟩) (Nat.le_refl _) _).setCell (p := ⟨w.heap.size, 4, none⟩) (Nat.le_refl _) _)⟩
set_option maxHeartbeats 4000000 in
set_option maxRecDepth 100000 in
theorem gcellsNil_T (w : World) : Calls Try.prog 51 #[.pointer none] w fun e w' => e = .returned (.pointer none) ∧ Below w.heap.size w w' := by
  go_enter Try.func51, Try.ntmps51
  go_wp2_with fail
  refine (gunderNil_T _).mono ?_
  rintro e w1 ⟨rfl, rfl⟩
  go_wp2_with fail
  refine (pcellsNil_T _).mono ?_
  rintro e w2 ⟨rfl, hb⟩
  have B := Aside0.mk hb
  clear hb
  go_wp2_with fail
  go_ret
  exact ⟨rfl, B.out⟩
set_option maxHeartbeats 4000000 in
set_option maxRecDepth 100000 in
theorem gbornNil_T (slot : Int) (w : World) : Calls Try.prog 39 #[.pointer none, .int .i64 slot] w fun e w' => e = .returned (.int .i64 0) ∧ Below w.heap.size w w' := by
  go_enter Try.func39, Try.ntmps39
  go_wp2_with fail
  refine (gsoulsNil_T _).mono ?_
  rintro e w1 ⟨rfl, rfl⟩
  go_wp2_with fail
  refine (soulBornNil_T slot _).mono ?_
  rintro e w2 ⟨rfl, hb⟩
  have B := Aside0.mk hb
  clear hb
  go_wp2_with fail
  go_ret
  exact ⟨rfl, B.out⟩
def isR (now : List (Int × Int)) (slot id : Int) : Bool := (id != 0) && ((get now slot).getD 0 == id)
set_option maxHeartbeats 4000000 in
set_option maxRecDepth 100000 in
theorem soulIs_T (gs g3 : Nat) (v : Value) (now : List (Int × Int)) (row : List Int) (slot id : Int) (w0 w : World) (hI : SoulIs w0 w gs g3 v now row) :
    Calls Try.prog 72 #[.pointer (some ⟨gs, 0, none⟩), .agg #[.int .i64 slot, .int .i64 id]] w fun e w' => e = .returned (.bool (isR now slot id)) ∧ Below w.heap.size w w' := by
  have hu95 := Try.underlying95
  have JI := Aside0.mk (hI.alloc (.cells #[.int .i64 slot, .int .i64 id] 95)).drew
  have B0 := Aside0.mk (below_drew (below_alloc (Below.refl w.heap.size w) (.cells #[.int .i64 slot, .int .i64 id] 95)))
  have X0 := Aside0.mk (blk_drew (blk_new w (.cells #[.int .i64 slot, .int .i64 id] 95)))
  clear hI
  obtain ⟨nw, hnw⟩ : ∃ n, (get now slot).getD 0 = n := ⟨_, rfl⟩
  have HN := Aside0.mk hnw
  by_cases h0 : id = 0
  · subst h0
    have E := Aside0.mk (show isR now slot 0 = false from rfl)
    clear hnw
    go_enter Try.func72, Try.ntmps72
    go_wp2_with fail
    refine start_ (n := 13) (S := fun w' => w'.cell? ⟨w.heap.size, 0, none⟩ = some (.int .i64 slot) ∧ w'.cell? ⟨w.heap.size, 1, none⟩ = some (.int .i64 0)) (ds := []) (lb 13 0) (by kernel_rfl) rfl rfl ⟨(blk_cell X0.out 0).trans rfl, (blk_cell X0.out 1).trans rfl⟩ (fun hHeld => ?_)
    refine pS (v := ?_) (a' := ?_) 0 (some 5) (lb 13 1) rfl rfl (by kernel_rfl) (fun _ _ _ h => h) (by rfl) ?_ ?_ ?_; rotate_left; (intro w'; go_simp; with_reducible rfl); rotate_left; (simp only [Act.put, List.setIfInBounds_toArray, List.set_cons_zero, List.set_cons_succ, i64_w, i32_w]; rfl)
    refine tS (v := ?_) (a' := ?_) 1 (some 6) (lb 13 3) rfl rfl (by kernel_rfl) (fun _ _ _ h => h) hHeld (by rfl) ?_ ?_ ?_; rotate_left; (rintro w' ⟨s0, s1⟩; go_simp; with_reducible rfl); rotate_left; (simp only [Act.put, List.setIfInBounds_toArray, List.set_cons_zero, List.set_cons_succ, i64_w, i32_w]; rfl)
    refine pS (v := ?_) (a' := ?_) 2 (some 7) (lb 13 7) rfl rfl (by kernel_rfl) (fun _ _ _ h => h) (by rfl) ?_ ?_ ?_; rotate_left; (intro w'; go_simp; with_reducible rfl); rotate_left; (simp only [Act.put, List.setIfInBounds_toArray, List.set_cons_zero, List.set_cons_succ, i64_w, i32_w]; rfl)
    refine pS (v := ?_) (a' := ?_) 3 (some 8) (lb 13 15) rfl rfl (by kernel_rfl) (fun _ _ _ h => h) (by rfl) ?_ ?_ ?_; rotate_left; (intro w'; go_simp; with_reducible rfl); rotate_left; (simp only [Act.put, List.setIfInBounds_toArray, List.set_cons_zero, List.set_cons_succ, i64_w, i32_w]; rfl)
    refine pO (a' := ?_) 4 (some 9) (lb 13 31) rfl rfl (by kernel_rfl) (fun _ _ _ h => h) (by rfl) ?_ ?_; rotate_left; (simp only [Act.put, List.setIfInBounds_toArray, List.set_cons_zero, List.set_cons_succ, i64_w, i32_w]; rfl)
    refine pO (a' := ?_) 5 (some 10) (lb 13 63) rfl rfl (by kernel_rfl) (fun _ _ _ h => h) (by rfl) ?_ ?_; rotate_left; (simp only [Act.put, List.setIfInBounds_toArray, List.set_cons_zero, List.set_cons_succ, i64_w, i32_w]; rfl)
    refine pO (a' := ?_) 6 (some 11) (lb 13 127) rfl rfl (by kernel_rfl) (fun _ _ _ h => h) (by rfl) ?_ ?_; rotate_left; (simp only [Act.put, List.setIfInBounds_toArray, List.set_cons_zero, List.set_cons_succ, i64_w, i32_w]; rfl)
    refine pO (a' := ?_) 7 (some 12) (lb 13 255) rfl rfl (by kernel_rfl) (fun _ _ _ h => h) (by rfl) ?_ ?_; rotate_left; (simp only [Act.put, List.setIfInBounds_toArray, List.set_cons_zero, List.set_cons_succ, i64_w, i32_w]; rfl)
    refine pO (a' := ?_) 8 (some 13) (lb 13 511) rfl rfl (by kernel_rfl) (fun _ _ _ h => h) (by rfl) ?_ ?_; rotate_left; (simp only [Act.put, List.setIfInBounds_toArray, List.set_cons_zero, List.set_cons_succ, i64_w, i32_w]; rfl)
    refine pO (a' := ?_) 9 (some 14) (lb 13 1023) rfl rfl (by kernel_rfl) (fun _ _ _ h => h) (by rfl) ?_ ?_; rotate_left; (simp only [Act.put, List.setIfInBounds_toArray, List.set_cons_zero, List.set_cons_succ, i64_w, i32_w]; rfl)
    refine pO (a' := ?_) 10 (some 15) (lb 13 2047) rfl rfl (by kernel_rfl) (fun _ _ _ h => h) (by rfl) ?_ ?_; rotate_left; (simp only [Act.put, List.setIfInBounds_toArray, List.set_cons_zero, List.set_cons_succ, i64_w, i32_w]; rfl)
    refine pS (v := ?_) (a' := ?_) 11 (some 16) (lb 13 4095) rfl rfl (by kernel_rfl) (fun _ _ _ h => h) (by rfl) ?_ ?_ ?_; rotate_left; (intro w'; go_simp; with_reducible rfl); rotate_left; (simp only [Act.put, List.setIfInBounds_toArray, List.set_cons_zero, List.set_cons_succ, i64_w, i32_w]; rfl)
    refine pS (v := ?_) (a' := ?_) 12 (some 4) (lb 13 8191) rfl rfl (by kernel_rfl) (fun _ _ _ h => h) (by rfl) ?_ ?_ ?_; rotate_left; (intro w'; go_simp; with_reducible rfl); rotate_left; (simp only [Act.put, List.setIfInBounds_toArray, List.set_cons_zero, List.set_cons_succ, i64_w, i32_w]; rfl)
    refine done_ (by kernel_rfl) ?_
    go_wp2_with fail
    go_ret
    rw [E.out]
    exact ⟨rfl, B0.out⟩
  · have t1 : (id != 0) = true := bne_iff_ne.mpr h0
    have E := Aside0.mk (show isR now slot id = (nw == id) by unfold isR; rw [hnw, t1]; rfl)
    clear h0 hnw
    go_enter Try.func72, Try.ntmps72
    go_wp2_with fail
    refine start_ (n := 13) (S := fun w' => w'.cell? ⟨w.heap.size, 0, none⟩ = some (.int .i64 slot) ∧ w'.cell? ⟨w.heap.size, 1, none⟩ = some (.int .i64 id)) (ds := []) (lb 13 0) (by kernel_rfl) rfl rfl ⟨(blk_cell X0.out 0).trans rfl, (blk_cell X0.out 1).trans rfl⟩ (fun hHeld => ?_)
    refine pS (v := ?_) (a' := ?_) 0 (some 5) (lb 13 1) rfl rfl (by kernel_rfl) (fun _ _ _ h => h) (by rfl) ?_ ?_ ?_; rotate_left; (intro w'; go_simp; with_reducible rfl); rotate_left; (simp only [Act.put, List.setIfInBounds_toArray, List.set_cons_zero, List.set_cons_succ, i64_w, i32_w]; rfl)
    refine tS (v := ?_) (a' := ?_) 1 (some 6) (lb 13 3) rfl rfl (by kernel_rfl) (fun _ _ _ h => h) hHeld (by rfl) ?_ ?_ ?_; rotate_left; (rintro w' ⟨s0, s1⟩; go_simp; with_reducible rfl); rotate_left; (simp only [Act.put, List.setIfInBounds_toArray, List.set_cons_zero, List.set_cons_succ, i64_w, i32_w]; rfl)
    refine pS (v := ?_) (a' := ?_) 2 (some 7) (lb 13 7) rfl rfl (by kernel_rfl) (fun _ _ _ h => h) (by rfl) ?_ ?_ ?_; rotate_left; (intro w'; go_simp; with_reducible rfl); rotate_left; (simp only [Act.put, List.setIfInBounds_toArray, List.set_cons_zero, List.set_cons_succ, i64_w, i32_w]; rfl)
    refine pS (v := ?_) (a' := ?_) 3 (some 8) (lb 13 15) rfl rfl (by kernel_rfl) (fun _ _ _ h => h) (by rfl) ?_ ?_ ?_; rotate_left; (intro w'; go_simp; with_reducible rfl); rotate_left; (simp only [Act.put, List.setIfInBounds_toArray, List.set_cons_zero, List.set_cons_succ, i64_w, i32_w]; rfl)
    refine pS (v := ?_) (a' := ?_) 4 (some 9) (lb 13 31) rfl rfl (by kernel_rfl) (fun _ _ _ h => h) (by rfl) ?_ ?_ ?_; rotate_left; (intro w'; go_simp; with_reducible rfl); rotate_left; (simp only [Act.put, List.setIfInBounds_toArray, List.set_cons_zero, List.set_cons_succ, i64_w, i32_w]; rfl)
    refine pS (v := ?_) (a' := ?_) 5 (some 10) (lb 13 63) rfl rfl (by kernel_rfl) (fun _ _ _ h => h) (by rfl) ?_ ?_ ?_; rotate_left; (intro w'; go_simp; with_reducible rfl); rotate_left; (simp only [Act.put, List.setIfInBounds_toArray, List.set_cons_zero, List.set_cons_succ, i64_w, i32_w]; rfl)
    refine pS (v := ?_) (a' := ?_) 8 (some 13) (lb 13 319) rfl rfl (by kernel_rfl) (fun _ _ _ h => h) (by rfl) ?_ ?_ ?_; rotate_left; (intro w'; go_simp; with_reducible rfl); rotate_left; (simp only [Act.put, List.setIfInBounds_toArray, List.set_cons_zero, List.set_cons_succ, i64_w, i32_w]; rfl)
    refine tS (v := ?_) (a' := ?_) 6 (some 11) (lb 13 383) rfl rfl (by kernel_rfl) (fun _ _ _ h => h) hHeld (by rfl) ?_ ?_ ?_; rotate_left; (rintro w' ⟨s0, s1⟩; go_simp; with_reducible rfl); rotate_left; (simp only [Act.put, List.setIfInBounds_toArray, List.set_cons_zero, List.set_cons_succ, i64_w, i32_w]; rfl)
    refine tS (v := ?_) (a' := ?_) 9 (some 14) (lb 13 895) rfl rfl (by kernel_rfl) (fun _ _ _ h => h) hHeld (by rfl) ?_ ?_ ?_; rotate_left; (rintro w' ⟨s0, s1⟩; go_simp; with_reducible rfl); rotate_left; (simp only [Act.put, List.setIfInBounds_toArray, List.set_cons_zero, List.set_cons_succ, i64_w, i32_w]; rfl)
    refine one_ (i := 7) (N := some 12) (lb 13 1023) rfl rfl (by kernel_rfl) (by decide) (fun K hK => ?_)
    refine goes_ Try.func41 (by kernel_rfl) rfl #[.pointer (some ⟨gs, 0, none⟩), .int .i64 slot] (by rfl) rfl rfl (by simp only [List.map_toArray, List.map_cons, List.map_nil]; rfl) ?_
    with_reducible refine (soulNow_T gs g3 v now row slot w0 _ JI.out).mono ?_
    rintro e w5 ⟨rfl, hb⟩
    refine ⟨_, rfl, ?_⟩
    rw [HN.out]
    have Y0 := Aside0.mk (blk_below X0.out hb)
    have B5 := Aside0.mk (below_step B0.out hb)
    clear hb
    refine hK.out _ _ ⟨(blk_cell Y0.out 0).trans rfl, (blk_cell Y0.out 1).trans rfl⟩ (fun hHeld => ?_)
    clear hK K
    refine norm_ (a' := ?_) ?_ ?_
    rotate_left
    · show Act.put _ (some 12) _ = _
      simp only [Act.put, List.setIfInBounds_toArray, List.set_cons_zero, List.set_cons_succ, i64_w, i32_w]
      rfl
    refine pS (v := ?_) (a' := ?_) 10 (some 15) (lb 13 2047) rfl rfl (by kernel_rfl) (fun _ _ _ h => h) (by rfl) ?_ ?_ ?_; rotate_left; (intro w'; go_simp; with_reducible rfl); rotate_left; (simp only [Act.put, List.setIfInBounds_toArray, List.set_cons_zero, List.set_cons_succ, i64_w, i32_w]; rfl)
    refine pS (v := ?_) (a' := ?_) 11 (some 16) (lb 13 4095) rfl rfl (by kernel_rfl) (fun _ _ _ h => h) (by rfl) ?_ ?_ ?_; rotate_left; (intro w'; go_simp; with_reducible rfl); rotate_left; (simp only [Act.put, List.setIfInBounds_toArray, List.set_cons_zero, List.set_cons_succ, i64_w, i32_w]; rfl)
    refine pS (v := ?_) (a' := ?_) 12 (some 4) (lb 13 8191) rfl rfl (by kernel_rfl) (fun _ _ _ h => h) (by rfl) ?_ ?_ ?_; rotate_left; (intro w'; go_simp; with_reducible rfl); rotate_left; (simp only [Act.put, List.setIfInBounds_toArray, List.set_cons_zero, List.set_cons_succ, i64_w, i32_w]; rfl)
    refine done_ (by kernel_rfl) ?_
    go_wp2_with fail
    go_ret
    rw [E.out]
    exact ⟨rfl, B5.out⟩
end Go.Proofs.Ytlpnggapndokeaa.PIdealKeeps

