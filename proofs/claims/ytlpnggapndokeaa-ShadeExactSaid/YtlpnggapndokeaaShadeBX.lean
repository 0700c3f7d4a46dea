/-
Loads of that memory.
-/
import Derived.Test.YtlpnggapndokeaaShade
import Derived.Test.YtlpnggapndokeaaShort
namespace Go.Proofs.Ytlpnggapndokeaa.PIdealKeeps
open Go Go.RowKit Go.Proofs.YtlpnggapndokeaaW.PrintWords Go.Proofs.YtlpnggapndokeaaW.PrintLast Go.Proofs.YtlpnggapndokeaaW.PrintMore Go.Proofs.Ytlpnggapndokeaa.M
attribute [local go_sem] max2_int min2_int max_two min_two max_three min_three max_four min_four
set_option linter.unusedVariables false
set_option linter.unusedSimpArgs false
def sloadV (G : GSt) (ws : List Int) (k : K3) (id : Int) : Value := if staleR G k.1 k.2.1 id = true then .agg #[.int .u64 (nextW ws (G.stale + 1)), .int .i64 0, .bool true] else .agg #[.int .u64 (getw G.p.m k), .int .i64 ((get G.leads k).getD 0), .bool false]
set_option maxHeartbeats 4000000 in
set_option maxRecDepth 100000 in
theorem sload_T (gh gg gp gc gm gl gs g3 : Nat) (G : GSt) (sv : Value) (ws : List Int) (pk ps pp id : Int) (w0 w : World) (hI : ShadeIs w0 w gh gg gp gc gm gl gs g3 G sv ws) (hB : Below w0.heap.size w0 w) (hs : 0 ≤ G.stale ∧ G.stale ≤ 100000) :
    Calls Try.prog 60 #[.pointer (some ⟨gh, 0, none⟩), .agg #[.int .i64 pk, .int .i64 ps, .int .i64 pp, .int .i64 id]] w (SPost w0 w gh gg gp gc gm gl gs g3 (gloadG G (pk, ps, pp) id) sv ws (sloadV G ws (pk, ps, pp) id)) := by
  have hu25 := Try.underlying25
  have hu28 := Try.underlying28
  have hu23 := Try.underlying23
  have JI := Aside0.mk ((hI.alloc (.cells #[.int .i64 pk, .int .i64 ps, .int .i64 pp, .int .i64 id] 25)).alloc (.cells #[.int .u64 0, .int .i64 0, .bool false] 28)).drew
  have JB := Aside0.mk (below_drew (below_alloc (below_alloc hB (.cells #[.int .i64 pk, .int .i64 ps, .int .i64 pp, .int .i64 id] 25)) (.cells #[.int .u64 0, .int .i64 0, .bool false] 28)))
  have JF := Aside0.mk (((Fr.refl (GhostT gg gc gm gl) w).alloc (.cells #[.int .i64 pk, .int .i64 ps, .int .i64 pp, .int .i64 id] 25)).alloc (.cells #[.int .u64 0, .int .i64 0, .bool false] 28)).drew
  have X0 := Aside0.mk (blk_drew (blk_alloc (blk_new w (.cells #[.int .i64 pk, .int .i64 ps, .int .i64 pp, .int .i64 id] 25)) (.cells #[.int .u64 0, .int .i64 0, .bool false] 28)))
  have X1 := Aside0.mk (blk_drew (blk_new2 w (.cells #[.int .i64 pk, .int .i64 ps, .int .i64 pp, .int .i64 id] 25) (.cells #[.int .u64 0, .int .i64 0, .bool false] 28)))
  have HSZ := Aside0.mk hB.size
  have HS := Aside0.mk hs
  clear hI hB hs
  obtain ⟨cur, hcur⟩ : ∃ c, getw G.p.m (pk, ps, pp) = c := ⟨_, rfl⟩
  obtain ⟨ld, hld⟩ : ∃ c, (get G.leads (pk, ps, pp)).getD 0 = c := ⟨_, rfl⟩
  obtain ⟨b, hb⟩ : ∃ c, staleR G pk ps id = c := ⟨_, rfl⟩
  have HCUR := Aside0.mk hcur
  have HLD := Aside0.mk hld
  have HST := Aside0.mk hb
  clear hcur hld hb
  go_enter Try.func60, Try.ntmps60
  go_wp2_with fail
  refine start_ (n := 6) (S := fun w' => w'.cell? ⟨w.heap.size, 0, none⟩ = some (.int .i64 pk) ∧ w'.cell? ⟨w.heap.size, 1, none⟩ = some (.int .i64 ps) ∧ w'.cell? ⟨w.heap.size, 2, none⟩ = some (.int .i64 pp) ∧ w'.cell? ⟨w.heap.size, 3, none⟩ = some (.int .i64 id)) (ds := [5]) (lb 6 0) (by kernel_rfl) rfl rfl ⟨(blk_cell X0.out 0).trans rfl, (blk_cell X0.out 1).trans rfl, (blk_cell X0.out 2).trans rfl, (blk_cell X0.out 3).trans rfl⟩ (fun hHeld => ?_)
  refine pS (v := ?_) (a' := ?_) 0 (some 6) (lb 6 1) rfl rfl (by kernel_rfl) (fun _ _ _ h => h) (by rfl) ?_ ?_ ?_; rotate_left; (intro w'; go_simp; with_reducible rfl); rotate_left; (simp only [Act.put, List.setIfInBounds_toArray, List.set_cons_zero, List.set_cons_succ, i64_w, i32_w]; rfl)
  refine tS (v := ?_) (a' := ?_) 2 (some 8) (lb 6 5) rfl rfl (by kernel_rfl) (fun _ _ _ h => h) hHeld (by rfl) ?_ ?_ ?_; rotate_left; (rintro w' ⟨s0, s1, s2, s3⟩; go_simp; with_reducible rfl); rotate_left; (simp only [Act.put, List.setIfInBounds_toArray, List.set_cons_zero, List.set_cons_succ, i64_w, i32_w]; rfl)
  refine join_ (σ := Nat) 1 (lb 6 31) (fun s_ => [(7, .pointer (some ⟨gg, 0, none⟩)), (9, .agg #[.int .u64 cur, .int .i64 ld, .bool b]), (5, .pointer (some ⟨s_, 0, none⟩))]) (fun s_ w' => (w'.cell? ⟨w.heap.size, 0, none⟩ = some (.int .i64 pk) ∧ w'.cell? ⟨w.heap.size, 1, none⟩ = some (.int .i64 ps) ∧ w'.cell? ⟨w.heap.size, 2, none⟩ = some (.int .i64 pp) ∧ w'.cell? ⟨w.heap.size, 3, none⟩ = some (.int .i64 id)) ∧ (ShadeIs w0 w' gh gg gp gc gm gl gs g3 (gloadG G (pk, ps, pp) id) sv ws) ∧ Below w0.heap.size w0 w' ∧ Fr (GhostT gg gc gm gl) w w' ∧ w'.heap[w.heap.size]? = some (.cells #[.int .i64 pk, .int .i64 ps, .int .i64 pp, .int .i64 id] 25 (0, 0)) ∧ w'.heap[w.heap.size + 1]? = some (.cells #[.int .u64 0, .int .i64 0, .bool false] 28 (0, 0)) ∧ w'.heap[s_]? = some (.cells #[.int .u64 0, .int .i64 0, .bool false] 28 (0, 0)) ∧ w.heap.size + 1 < s_) ?_ ?_
  rotate_left
  · intro hCont
    refine two_ (i := 1) (j := 4) (Ni := some 7) (Nj := some 5) (lb 6 7) (lb 6 21) rfl rfl rfl rfl (by kernel_rfl) (by decide) (by decide) (fun K hK => ?_) (fun K hK => ?_)
    · skip
      refine goes_ Try.func105 (by kernel_rfl) rfl #[.pointer (some ⟨gh, 0, none⟩)] (by rfl) rfl rfl (by simp only [List.map_toArray, List.map_cons, List.map_nil]; rfl) ?_
      with_reducible refine (sunder_T gh gg gp gc gm gl gs g3 _ sv ws w0 _ JI.out).mono ?_
      rintro e wU ⟨rfl, rfl⟩
      refine ⟨_, rfl, ?_⟩
      refine hK.out _ _ ⟨(blk_cell X0.out 0).trans rfl, (blk_cell X0.out 1).trans rfl, (blk_cell X0.out 2).trans rfl, (blk_cell X0.out 3).trans rfl⟩ (fun hHeld => ?_)
      clear hK K
      refine norm_ (a' := ?_) ?_ ?_
      rotate_left
      · show Act.put _ (some 7) _ = _
        simp only [Act.put, List.setIfInBounds_toArray, List.set_cons_zero, List.set_cons_succ, i64_w, i32_w]
        rfl
      refine two_ (i := 3) (j := 4) (Ni := some 9) (Nj := some 5) (lb 6 15) (lb 6 23) rfl rfl rfl rfl (by kernel_rfl) (by decide) (by decide) (fun K hK => ?_) (fun K hK => ?_)
      · skip
        refine goes_ Try.func42 (by kernel_rfl) rfl #[.pointer (some ⟨gg, 0, none⟩), Value.agg #[.int .i64 pk, .int .i64 ps, .int .i64 pp, .int .i64 id]] (by rfl) rfl rfl (by simp only [List.map_toArray, List.map_cons, List.map_nil]; rfl) ?_
        with_reducible refine (gload_U gg gp gc gm gl gs g3 G pk ps pp id w0 _ JI.out.ghost JB.out).mono ?_
        rintro e wS ⟨rfl, h1_, h2_, h3_⟩
        refine ⟨_, rfl, ?_⟩
        rw [HCUR.out, HLD.out, HST.out]
        have JIn := Aside0.mk (JI.out.turn h1_ h3_)
        have JBn := Aside0.mk h2_
        have JFn := Aside0.mk (JF.out.trans h3_)
        have X0n := Aside0.mk (JI.out.ghost.staysT h3_ X0.out (by decide) (by decide))
        have X1n := Aside0.mk (JI.out.ghost.staysT h3_ X1.out (by decide) (by decide))
        clear JI JB JF X0 X1
        have JI := JIn
        have JB := JBn
        have JF := JFn
        have X0 := X0n
        have X1 := X1n
        clear JIn JBn JFn X0n X1n
        clear h1_ h2_ h3_
        refine hK.out _ _ ⟨(blk_cell X0.out 0).trans rfl, (blk_cell X0.out 1).trans rfl, (blk_cell X0.out 2).trans rfl, (blk_cell X0.out 3).trans rfl⟩ (fun hHeld => ?_)
        clear hK K
        refine norm_ (a' := ?_) ?_ ?_
        rotate_left
        · show Act.put _ (some 9) _ = _
          simp only [Act.put, List.setIfInBounds_toArray, List.set_cons_zero, List.set_cons_succ, i64_w, i32_w]
          rfl
        refine one_ (i := 4) (N := some 5) (lb 6 31) rfl rfl (by kernel_rfl) (by decide) (fun K hK => ?_)
        refine box_step ?hg (N := 5) ?hd (cs := #[.int .u64 0, .int .i64 0, .bool false]) (t := 28) ?hr ?_; (case hd => rfl); (case hg => rfl); (case hr => first | (go_simp; done) | (go_simp; rfl))
        intro gS hg wA hbox hb
        have JIn := Aside0.mk (JI.out.below hb)
        have JBn := Aside0.mk (below_step JB.out hb)
        have JFn := Aside0.mk (JF.out.below hb)
        have X0n := Aside0.mk (blk_below X0.out hb)
        have X1n := Aside0.mk (blk_below X1.out hb)
        have GW := Aside0.mk (show w.heap.size + 1 < gS by rw [hg]; exact blk_lt X1.out)
        have GS := Aside0.mk hbox
        clear JI JB JF X0 X1
        have JI := JIn
        have JB := JBn
        have JF := JFn
        have X0 := X0n
        have X1 := X1n
        clear JIn JBn JFn X0n X1n
        clear hg hbox hb
        refine hK.out _ _ ⟨(blk_cell X0.out 0).trans rfl, (blk_cell X0.out 1).trans rfl, (blk_cell X0.out 2).trans rfl, (blk_cell X0.out 3).trans rfl⟩ (fun hHeld => ?_)
        clear hK K
        refine norm_ (a' := ?_) ?_ ?_
        rotate_left
        · show Act.put _ (some 5) _ = _
          simp only [Act.put, List.setIfInBounds_toArray, List.set_cons_zero, List.set_cons_succ, i64_w, i32_w]
          rfl
        exact norm_ (by simp only [putAll, Act.put, List.setIfInBounds_toArray, List.set_cons_zero, List.set_cons_succ]) (hCont gS _ ⟨hHeld, JI.out, JB.out, JF.out, X0.out, X1.out, GS.out, GW.out⟩)
      · skip
        refine box_step ?hg (N := 5) ?hd (cs := #[.int .u64 0, .int .i64 0, .bool false]) (t := 28) ?hr ?_; (case hd => rfl); (case hg => rfl); (case hr => first | (go_simp; done) | (go_simp; rfl))
        intro gS hg wA hbox hb
        have JIn := Aside0.mk (JI.out.below hb)
        have JBn := Aside0.mk (below_step JB.out hb)
        have JFn := Aside0.mk (JF.out.below hb)
        have X0n := Aside0.mk (blk_below X0.out hb)
        have X1n := Aside0.mk (blk_below X1.out hb)
        have GW := Aside0.mk (show w.heap.size + 1 < gS by rw [hg]; exact blk_lt X1.out)
        have GS := Aside0.mk hbox
        clear JI JB JF X0 X1
        have JI := JIn
        have JB := JBn
        have JF := JFn
        have X0 := X0n
        have X1 := X1n
        clear JIn JBn JFn X0n X1n
        clear hg hbox hb
        refine hK.out _ _ ⟨(blk_cell X0.out 0).trans rfl, (blk_cell X0.out 1).trans rfl, (blk_cell X0.out 2).trans rfl, (blk_cell X0.out 3).trans rfl⟩ (fun hHeld => ?_)
        clear hK K
        refine norm_ (a' := ?_) ?_ ?_
        rotate_left
        · show Act.put _ (some 5) _ = _
          simp only [Act.put, List.setIfInBounds_toArray, List.set_cons_zero, List.set_cons_succ, i64_w, i32_w]
          rfl
        refine one_ (i := 3) (N := some 9) (lb 6 31) rfl rfl (by kernel_rfl) (by decide) (fun K hK => ?_)
        refine goes_ Try.func42 (by kernel_rfl) rfl #[.pointer (some ⟨gg, 0, none⟩), Value.agg #[.int .i64 pk, .int .i64 ps, .int .i64 pp, .int .i64 id]] (by rfl) rfl rfl (by simp only [List.map_toArray, List.map_cons, List.map_nil]; rfl) ?_
        with_reducible refine (gload_U gg gp gc gm gl gs g3 G pk ps pp id w0 _ JI.out.ghost JB.out).mono ?_
        rintro e wS ⟨rfl, h1_, h2_, h3_⟩
        refine ⟨_, rfl, ?_⟩
        rw [HCUR.out, HLD.out, HST.out]
        have JIn := Aside0.mk (JI.out.turn h1_ h3_)
        have JBn := Aside0.mk h2_
        have JFn := Aside0.mk (JF.out.trans h3_)
        have X0n := Aside0.mk (JI.out.ghost.staysT h3_ X0.out (by decide) (by decide))
        have X1n := Aside0.mk (JI.out.ghost.staysT h3_ X1.out (by decide) (by decide))
        have GSn := Aside0.mk (JI.out.ghost.staysT h3_ GS.out (by decide) (by decide))
        clear GS
        have GS := GSn
        clear GSn
        clear JI JB JF X0 X1
        have JI := JIn
        have JB := JBn
        have JF := JFn
        have X0 := X0n
        have X1 := X1n
        clear JIn JBn JFn X0n X1n
        clear h1_ h2_ h3_
        refine hK.out _ _ ⟨(blk_cell X0.out 0).trans rfl, (blk_cell X0.out 1).trans rfl, (blk_cell X0.out 2).trans rfl, (blk_cell X0.out 3).trans rfl⟩ (fun hHeld => ?_)
        clear hK K
        refine norm_ (a' := ?_) ?_ ?_
        rotate_left
        · show Act.put _ (some 9) _ = _
          simp only [Act.put, List.setIfInBounds_toArray, List.set_cons_zero, List.set_cons_succ, i64_w, i32_w]
          rfl
        exact norm_ (by simp only [putAll, Act.put, List.setIfInBounds_toArray, List.set_cons_zero, List.set_cons_succ]) (hCont gS _ ⟨hHeld, JI.out, JB.out, JF.out, X0.out, X1.out, GS.out, GW.out⟩)
    · skip
      refine box_step ?hg (N := 5) ?hd (cs := #[.int .u64 0, .int .i64 0, .bool false]) (t := 28) ?hr ?_; (case hd => rfl); (case hg => rfl); (case hr => first | (go_simp; done) | (go_simp; rfl))
      intro gS hg wA hbox hb
      have JIn := Aside0.mk (JI.out.below hb)
      have JBn := Aside0.mk (below_step JB.out hb)
      have JFn := Aside0.mk (JF.out.below hb)
      have X0n := Aside0.mk (blk_below X0.out hb)
      have X1n := Aside0.mk (blk_below X1.out hb)
      have GW := Aside0.mk (show w.heap.size + 1 < gS by rw [hg]; exact blk_lt X1.out)
      have GS := Aside0.mk hbox
      clear JI JB JF X0 X1
      have JI := JIn
      have JB := JBn
      have JF := JFn
      have X0 := X0n
      have X1 := X1n
      clear JIn JBn JFn X0n X1n
      clear hg hbox hb
      refine hK.out _ _ ⟨(blk_cell X0.out 0).trans rfl, (blk_cell X0.out 1).trans rfl, (blk_cell X0.out 2).trans rfl, (blk_cell X0.out 3).trans rfl⟩ (fun hHeld => ?_)
      clear hK K
      refine norm_ (a' := ?_) ?_ ?_
      rotate_left
      · show Act.put _ (some 5) _ = _
        simp only [Act.put, List.setIfInBounds_toArray, List.set_cons_zero, List.set_cons_succ, i64_w, i32_w]
        rfl
      refine one_ (i := 1) (N := some 7) (lb 6 23) rfl rfl (by kernel_rfl) (by decide) (fun K hK => ?_)
      refine goes_ Try.func105 (by kernel_rfl) rfl #[.pointer (some ⟨gh, 0, none⟩)] (by rfl) rfl rfl (by simp only [List.map_toArray, List.map_cons, List.map_nil]; rfl) ?_
      with_reducible refine (sunder_T gh gg gp gc gm gl gs g3 _ sv ws w0 _ JI.out).mono ?_
      rintro e wU ⟨rfl, rfl⟩
      refine ⟨_, rfl, ?_⟩
      refine hK.out _ _ ⟨(blk_cell X0.out 0).trans rfl, (blk_cell X0.out 1).trans rfl, (blk_cell X0.out 2).trans rfl, (blk_cell X0.out 3).trans rfl⟩ (fun hHeld => ?_)
      clear hK K
      refine norm_ (a' := ?_) ?_ ?_
      rotate_left
      · show Act.put _ (some 7) _ = _
        simp only [Act.put, List.setIfInBounds_toArray, List.set_cons_zero, List.set_cons_succ, i64_w, i32_w]
        rfl
      refine one_ (i := 3) (N := some 9) (lb 6 31) rfl rfl (by kernel_rfl) (by decide) (fun K hK => ?_)
      refine goes_ Try.func42 (by kernel_rfl) rfl #[.pointer (some ⟨gg, 0, none⟩), Value.agg #[.int .i64 pk, .int .i64 ps, .int .i64 pp, .int .i64 id]] (by rfl) rfl rfl (by simp only [List.map_toArray, List.map_cons, List.map_nil]; rfl) ?_
      with_reducible refine (gload_U gg gp gc gm gl gs g3 G pk ps pp id w0 _ JI.out.ghost JB.out).mono ?_
      rintro e wS ⟨rfl, h1_, h2_, h3_⟩
      refine ⟨_, rfl, ?_⟩
      rw [HCUR.out, HLD.out, HST.out]
      have JIn := Aside0.mk (JI.out.turn h1_ h3_)
      have JBn := Aside0.mk h2_
      have JFn := Aside0.mk (JF.out.trans h3_)
      have X0n := Aside0.mk (JI.out.ghost.staysT h3_ X0.out (by decide) (by decide))
      have X1n := Aside0.mk (JI.out.ghost.staysT h3_ X1.out (by decide) (by decide))
      have GSn := Aside0.mk (JI.out.ghost.staysT h3_ GS.out (by decide) (by decide))
      clear GS
      have GS := GSn
      clear GSn
      clear JI JB JF X0 X1
      have JI := JIn
      have JB := JBn
      have JF := JFn
      have X0 := X0n
      have X1 := X1n
      clear JIn JBn JFn X0n X1n
      clear h1_ h2_ h3_
      refine hK.out _ _ ⟨(blk_cell X0.out 0).trans rfl, (blk_cell X0.out 1).trans rfl, (blk_cell X0.out 2).trans rfl, (blk_cell X0.out 3).trans rfl⟩ (fun hHeld => ?_)
      clear hK K
      refine norm_ (a' := ?_) ?_ ?_
      rotate_left
      · show Act.put _ (some 9) _ = _
        simp only [Act.put, List.setIfInBounds_toArray, List.set_cons_zero, List.set_cons_succ, i64_w, i32_w]
        rfl
      exact norm_ (by simp only [putAll, Act.put, List.setIfInBounds_toArray, List.set_cons_zero, List.set_cons_succ]) (hCont gS _ ⟨hHeld, JI.out, JB.out, JF.out, X0.out, X1.out, GS.out, GW.out⟩)
  rintro gS wF ⟨hHeld, f1_, f2_, f3_, f4_, f5_, f6_, f7_⟩
  have JI := Aside0.mk (show (ShadeIs w0 wF gh gg gp gc gm gl gs g3 (gloadG G (pk, ps, pp) id) sv ws) from f1_)
  have JB := Aside0.mk f2_
  have JF := Aside0.mk (show Fr (GhostT gg gc gm gl) w wF from f3_)
  have X0 := Aside0.mk (show wF.heap[w.heap.size]? = some (.cells #[.int .i64 pk, .int .i64 ps, .int .i64 pp, .int .i64 id] 25 (0, 0)) from f4_)
  have X1 := Aside0.mk (show wF.heap[w.heap.size + 1]? = some (.cells #[.int .u64 0, .int .i64 0, .bool false] 28 (0, 0)) from f5_)
  have GS := Aside0.mk (show wF.heap[gS]? = some (.cells #[.int .u64 0, .int .i64 0, .bool false] 28 (0, 0)) from f6_)
  have GW := Aside0.mk (show w.heap.size + 1 < gS from f7_)
  clear f1_ f2_ f3_ f4_ f5_ f6_ f7_
  refine norm_ (a' := ?_) ?_ ?_
  rotate_left
  · simp only [putAll, Act.put, List.setIfInBounds_toArray, List.set_cons_zero, List.set_cons_succ]
    rfl
  refine last_ (i := 5) (N := none) (lb 6 63) rfl rfl (by kernel_rfl) (by decide) (fun K hK => ?_)
  have z0 : wF.cell? ⟨gS, 0, none⟩ = some (.int .u64 0) := (blk_cell GS.out 0).trans rfl
  have z1 : wF.cell? ⟨gS, 1, none⟩ = some (.int .i64 0) := (blk_cell GS.out 1).trans rfl
  have z2 : wF.cell? ⟨gS, 2, none⟩ = some (.bool false) := (blk_cell GS.out 2).trans rfl
  have y0 : wF.frozen? ⟨gS, 0, none⟩ = false := blk_frozen GS.out 0
  have y1 : wF.frozen? ⟨gS, 1, none⟩ = false := blk_frozen GS.out 1
  have y2 : wF.frozen? ⟨gS, 2, none⟩ = false := blk_frozen GS.out 2
  refine skip_ (w1 := ?_) (by rfl) rfl ?_ ?_
  rotate_left
  · go_simp
    rfl
  clear z0 z1 z2 y0 y1 y2
  refine hK.out _ _ ?_
  clear hK K
  refine done_ (by kernel_rfl) ?_
  have P0 := blk_put GS.out 0 (.int .u64 cur) rfl
  have P1 := blk_put P0 1 (.int .i64 ld) rfl
  have GT := Aside0.mk (blk_put P1 2 (.bool b) rfl)
  have NB := Aside0.mk (show w.heap.size + 1 ≠ gS by have := GW.out; omega)
  have KI := Aside0.mk (((JI.out.far GS.out (by decide) (by decide) (by decide) (by decide) (by decide) (by decide) (by decide) 0 (.int .u64 cur)).far P0 (by decide) (by decide) (by decide) (by decide) (by decide) (by decide) (by decide) 1 (.int .i64 ld)).far P1 (by decide) (by decide) (by decide) (by decide) (by decide) (by decide) (by decide) 2 (.bool b))
  have GE : w.heap.size ≤ gS := by have := GW.out; omega
  have GE0 : w0.heap.size ≤ gS := Nat.le_trans HSZ.out GE
  have KB := Aside0.mk (((JB.out.setCell (p := ⟨gS, 0, none⟩) GE0 (.int .u64 cur)).setCell (p := ⟨gS, 1, none⟩) GE0 (.int .i64 ld)).setCell (p := ⟨gS, 2, none⟩) GE0 (.bool b))
  have KF := Aside0.mk (((JF.out.setNew (p := ⟨gS, 0, none⟩) GE (.int .u64 cur)).setNew (p := ⟨gS, 1, none⟩) GE (.int .i64 ld)).setNew (p := ⟨gS, 2, none⟩) GE (.bool b))
  have Y1 := Aside0.mk (blk_far (p := ⟨gS, 2, none⟩) (blk_far (p := ⟨gS, 1, none⟩) (blk_far (p := ⟨gS, 0, none⟩) X1.out NB.out (.int .u64 cur)) NB.out (.int .i64 ld)) NB.out (.bool b))
  clear P0 P1 GE GE0 JI JB JF X0 X1 GS
  generalize ((wF.setCell ⟨gS, 0, none⟩ (.int .u64 cur)).setCell ⟨gS, 1, none⟩ (.int .i64 ld)).setCell ⟨gS, 2, none⟩ (.bool b) = w7 at *
  have x2 : w7.cell? ⟨gS, 2, none⟩ = some (.bool b) := (blk_cell GT.out 2).trans rfl
  cases b with
  | false =>
    have E := Aside0.mk (show sloadV G ws (pk, ps, pp) id = .agg #[.int .u64 cur, .int .i64 ld, .bool false] by unfold sloadV; rw [show staleR G ((pk, ps, pp) : K3).1 ((pk, ps, pp) : K3).2.1 id = false from HST.out, HCUR.out, HLD.out]; rfl)
    have g0 : w7.cell? ⟨gS, 0, none⟩ = some (.int .u64 cur) := (blk_cell GT.out 0).trans rfl
    have g1 : w7.cell? ⟨gS, 1, none⟩ = some (.int .i64 ld) := (blk_cell GT.out 1).trans rfl
    have g2 : w7.cell? ⟨gS, 2, none⟩ = some (.bool false) := (blk_cell GT.out 2).trans rfl
    have h0 : w7.cell? ⟨w.heap.size + 1, 0, none⟩ = some (.int .u64 0) := (blk_cell Y1.out 0).trans rfl
    have i0 : w7.frozen? ⟨w.heap.size + 1, 0, none⟩ = false := blk_frozen Y1.out 0
    have h1 : w7.cell? ⟨w.heap.size + 1, 1, none⟩ = some (.int .i64 0) := (blk_cell Y1.out 1).trans rfl
    have i1 : w7.frozen? ⟨w.heap.size + 1, 1, none⟩ = false := blk_frozen Y1.out 1
    have h2 : w7.cell? ⟨w.heap.size + 1, 2, none⟩ = some (.bool false) := (blk_cell Y1.out 2).trans rfl
    have i2 : w7.frozen? ⟨w.heap.size + 1, 2, none⟩ = false := blk_frozen Y1.out 2
    go_wp2_with fail
    have R0 := blk_put Y1.out 0 (.int .u64 cur) rfl
    have R1 := blk_put R0 1 (.int .i64 ld) rfl
    have R := blk_put R1 2 (.bool false) rfl
    have HI2 := ((KI.out.far Y1.out (by decide) (by decide) (by decide) (by decide) (by decide) (by decide) (by decide) 0 (.int .u64 cur)).far R0 (by decide) (by decide) (by decide) (by decide) (by decide) (by decide) (by decide) 1 (.int .i64 ld)).far R1 (by decide) (by decide) (by decide) (by decide) (by decide) (by decide) (by decide) 2 (.bool false)
    refine bodyPost_ret (results_cell_row rfl _ _ (w.heap.size + 1) 28 #[.int .u64 cur, .int .i64 ld, .bool false] (0, 0) _ rfl R Try.underlying28 rfl (by kernel_rfl)) rfl ?_
    have GE : w.heap.size ≤ w.heap.size + 1 := by omega
    have G0 : w0.heap.size ≤ w.heap.size := HSZ.out
    rw [E.out]
    exact ⟨rfl, HI2, ((KB.out.setCell (p := ⟨w.heap.size + 1, 0, none⟩) (Nat.le_trans G0 GE) _).setCell (p := ⟨w.heap.size + 1, 1, none⟩) (Nat.le_trans G0 GE) _).setCell (p := ⟨w.heap.size + 1, 2, none⟩) (Nat.le_trans G0 GE) _, ((KF.out.setNew (p := ⟨w.heap.size + 1, 0, none⟩) GE _).setNew (p := ⟨w.heap.size + 1, 1, none⟩) GE _).setNew (p := ⟨w.heap.size + 1, 2, none⟩) GE _⟩
  | true =>
    have E := Aside0.mk (show sloadV G ws (pk, ps, pp) id = .agg #[.int .u64 (nextW ws (G.stale + 1)), .int .i64 0, .bool true] by unfold sloadV; rw [show staleR G ((pk, ps, pp) : K3).1 ((pk, ps, pp) : K3).2.1 id = true from HST.out]; rfl)
    have ST := Aside0.mk (show (gloadG G (pk, ps, pp) id).stale = G.stale + 1 by
      unfold gloadG
      rw [show staleR G ((pk, ps, pp) : K3).1 ((pk, ps, pp) : K3).2.1 id = true from HST.out, if_pos rfl]
      show wrap64 (G.stale + 1) = G.stale + 1
      have := HS.out
      unfold wrap64
      omega)
    go_wp2_with fail
    refine (stold_T gh gg gp gc gm gl gs g3 _ sv ws w0 _ KI.out).mono ?_
    rintro e w8 ⟨rfl, rfl⟩
    rw [ST.out]
    go_wp2_with fail
    refine (snext_T gh gg gp gc gm gl gs g3 _ sv ws (G.stale + 1) w0 _ KI.out (by have := HS.out; omega) (by have := HS.out; omega)).mono ?_
    rintro e w9 ⟨rfl, hb⟩
    have LI := Aside0.mk (KI.out.below hb)
    have LB := Aside0.mk (below_step KB.out hb)
    have LF := Aside0.mk (KF.out.below hb)
    have Y2 := Aside0.mk (blk_below Y1.out hb)
    clear hb
    have h0 : w9.cell? ⟨w.heap.size + 1, 0, none⟩ = some (.int .u64 0) := (blk_cell Y2.out 0).trans rfl
    have i0 : w9.frozen? ⟨w.heap.size + 1, 0, none⟩ = false := blk_frozen Y2.out 0
    have h1 : w9.cell? ⟨w.heap.size + 1, 1, none⟩ = some (.int .i64 0) := (blk_cell Y2.out 1).trans rfl
    have i1 : w9.frozen? ⟨w.heap.size + 1, 1, none⟩ = false := blk_frozen Y2.out 1
    have h2 : w9.cell? ⟨w.heap.size + 1, 2, none⟩ = some (.bool false) := (blk_cell Y2.out 2).trans rfl
    have i2 : w9.frozen? ⟨w.heap.size + 1, 2, none⟩ = false := blk_frozen Y2.out 2
    go_wp2_with fail
    have R0 := blk_put Y2.out 0 (.int .u64 (nextW ws (G.stale + 1))) rfl
    have R1 := blk_put R0 1 (.int .i64 0) rfl
    have R := blk_put R1 2 (.bool true) rfl
    have HI2 := ((LI.out.far Y2.out (by decide) (by decide) (by decide) (by decide) (by decide) (by decide) (by decide) 0 (.int .u64 (nextW ws (G.stale + 1)))).far R0 (by decide) (by decide) (by decide) (by decide) (by decide) (by decide) (by decide) 1 (.int .i64 0)).far R1 (by decide) (by decide) (by decide) (by decide) (by decide) (by decide) (by decide) 2 (.bool true)
    refine bodyPost_ret (results_cell_row rfl _ _ (w.heap.size + 1) 28 #[.int .u64 (nextW ws (G.stale + 1)), .int .i64 0, .bool true] (0, 0) _ rfl R Try.underlying28 rfl (by kernel_rfl)) rfl ?_
    have GE : w.heap.size ≤ w.heap.size + 1 := by omega
    have G0 : w0.heap.size ≤ w.heap.size := HSZ.out
    rw [E.out]
    exact ⟨rfl, HI2, ((LB.out.setCell (p := ⟨w.heap.size + 1, 0, none⟩) (Nat.le_trans G0 GE) _).setCell (p := ⟨w.heap.size + 1, 1, none⟩) (Nat.le_trans G0 GE) _).setCell (p := ⟨w.heap.size + 1, 2, none⟩) (Nat.le_trans G0 GE) _, ((LF.out.setNew (p := ⟨w.heap.size + 1, 0, none⟩) GE _).setNew (p := ⟨w.heap.size + 1, 1, none⟩) GE _).setNew (p := ⟨w.heap.size + 1, 2, none⟩) GE _⟩
end Go.Proofs.Ytlpnggapndokeaa.PIdealKeeps

namespace Go.Proofs.Ytlpnggapndokeaa.PIdealKeeps
open Go Go.RowKit Go.Proofs.YtlpnggapndokeaaW.PrintWords Go.Proofs.YtlpnggapndokeaaW.PrintLast Go.Proofs.YtlpnggapndokeaaW.PrintMore Go.Proofs.Ytlpnggapndokeaa.M
theorem ShadeIs.rebase {w0 w wb : World} {gh gg gp gc gm gl gs g3 : Nat} {G : GSt} {sv : Value} {ws : List Int} (h : ShadeIs wb w gh gg gp gc gm gl gs g3 G sv ws) (hle : w0.heap.size ≤ wb.heap.size) : ShadeIs w0 w gh gg gp gc gm gl gs g3 G sv ws := ⟨h.blk, h.ghost.rebase hle, Kd.R_lower h.row hle, Nat.le_trans hle h.b⟩
theorem gload_stale {G : GSt} {k : K3} {id : Int} (h : staleR G k.1 k.2.1 id = true) : gloadG G k id = { { G with p := cloadC G.p } with stale := wrap64 (G.stale + 1) } := by
  unfold gloadG
  rw [h]
  rfl
theorem gload_fresh {G : GSt} {k : K3} {id : Int} (h : staleR G k.1 k.2.1 id = false) : gloadG G k id = { G with p := cloadC G.p } := by
  unfold gloadG
  rw [h]
  rfl
theorem sload_stale {G : GSt} {ws : List Int} {k : K3} {id : Int} (h : staleR G k.1 k.2.1 id = true) : sloadV G ws k id = .agg #[.int .u64 (nextW ws (G.stale + 1)), .int .i64 0, .bool true] := by
  unfold sloadV
  rw [h]
  rfl
theorem sload_fresh {G : GSt} {ws : List Int} {k : K3} {id : Int} (h : staleR G k.1 k.2.1 id = false) : sloadV G ws k id = .agg #[.int .u64 (getw G.p.m k), .int .i64 ((get G.leads k).getD 0), .bool false] := by
  unfold sloadV
  rw [h]
  rfl
end Go.Proofs.Ytlpnggapndokeaa.PIdealKeeps

