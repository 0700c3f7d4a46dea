/-
The plain world: what its functions compute.
-/
import Derived.Test.YtlpnggapndokeaaCells
import Derived.Test.YtlpnggapndokeaaIdealB
namespace Go.Proofs.Ytlpnggapndokeaa.PIdealKeeps
open Go Go.RowKit Go.Proofs.YtlpnggapndokeaaW.PrintWords Go.Proofs.YtlpnggapndokeaaW.PrintLast Go.Proofs.YtlpnggapndokeaaW.PrintMore Go.Proofs.Ytlpnggapndokeaa.M
attribute [local go_sem] max2_int min2_int max_two min_two max_three min_three max_four min_four
set_option linter.unusedVariables false
set_option linter.unusedSimpArgs false
structure PlainIs (w0 w : World) (gp gc gm : Nat) (C : CSt) : Prop where
  blk : w.heap[gp]? = some (.cells #[.pointer (some ⟨gc, 0, none⟩)] 116 (0, 0))
  cells : CellsIs w0 w gc gm C
  b : w0.heap.size ≤ gp
section
variable {w0 w w1 : World} {gp gc gm : Nat} {C : CSt} {S : Nat → Obj → Prop}
theorem PlainIs.below (h : PlainIs w0 w gp gc gm C) (hb : Below w.heap.size w w1) : PlainIs w0 w1 gp gc gm C := ⟨blk_below h.blk hb, h.cells.below hb, h.b⟩
theorem PlainIs.alloc (h : PlainIs w0 w gp gc gm C) (o : Obj) : PlainIs w0 (w.alloc o) gp gc gm C := ⟨blk_alloc h.blk o, h.cells.alloc o, h.b⟩
theorem PlainIs.drew (h : PlainIs w0 w gp gc gm C) : PlainIs w0 w.drew gp gc gm C := ⟨blk_drew h.blk, h.cells.drew, h.b⟩
theorem PlainIs.rebase {wb : World} (h : PlainIs wb w gp gc gm C) (hle : w0.heap.size ≤ wb.heap.size) : PlainIs w0 w gp gc gm C := ⟨h.blk, h.cells.rebase hle, Nat.le_trans hle h.b⟩
theorem PlainIs.fr (h : PlainIs w0 w gp gc gm C) (hf : Fr S w w1) (hs0 : ∀ cs, ¬ S gp (.cells cs 116 (0, 0))) (hs1 : ∀ cs, ¬ S gc (.cells cs 131 (0, 0))) (hs2 : ∀ es c, ¬ S gm (.map es c)) : PlainIs w0 w1 gp gc gm C :=
  ⟨hf.blk h.blk (hs0 _), h.cells.fr' hf hs1 hs2, h.b⟩
theorem PlainIs.turn {C' : CSt} (h : PlainIs w0 w gp gc gm C) (h1 : CellsIs w0 w1 gc gm C') (hf : Fr (CellsS gc gm) w w1) : PlainIs w0 w1 gp gc gm C' := ⟨h.cells.stays hf h.blk (by decide), h1, h.b⟩
end
/-- What an access leaves, and answers. -/
def PPost (w0 w : World) (gp gc gm : Nat) (C : CSt) (r : Value) (e : Ending) (w' : World) : Prop := e = .returned r ∧ PlainIs w0 w' gp gc gm C ∧ Below w0.heap.size w0 w' ∧ Fr (CellsS gc gm) w w'
theorem PlainIs.far {w0 w : World} {gp gc gm : Nat} {C : CSt} (h : PlainIs w0 w gp gc gm C) {p : Nat} {cs : Array Value} {t : TypeId} (hb : w.heap[p]? = some (.cells cs t (0, 0))) (h1 : t ≠ 116) (h2 : t ≠ 131) (i : Nat) (u : Value) : PlainIs w0 (w.setCell ⟨p, i, none⟩ u) gp gc gm C := by
  refine h.fr (Fr.set1 hb i u) ?_ ?_ ?_
  · rintro cs' ⟨rfl, e⟩
    injection e with _ e
    exact h1 e.symm
  · rintro cs' ⟨rfl, e⟩
    injection e with _ e
    exact h2 e.symm
  · rintro es c ⟨rfl, e⟩
    cases e
set_option maxHeartbeats 4000000 in
set_option maxRecDepth 100000 in
theorem pwords_T (gp gc gm : Nat) (C : CSt) (w0 w : World) (hI : PlainIs w0 w gp gc gm C) : Calls Try.prog 87 #[.pointer (some ⟨gp, 0, none⟩)] w fun e w' => e = .returned (.pointer (some ⟨gc, 0, none⟩)) ∧ w' = w := by
  have hu116 := Try.underlying116
  have c0 : w.cell? ⟨gp, 0, none⟩ = some (.pointer (some ⟨gc, 0, none⟩)) := (blk_cell hI.blk 0).trans rfl
  clear hI
  go_enter Try.func87, Try.ntmps87
  go_wp2_with fail
  go_ret
  exact ⟨rfl, rfl⟩
theorem pwordsNil_T (w : World) : Calls Try.prog 87 #[.pointer none] w fun e w' => e = .returned (.pointer none) ∧ w' = w := by
  go_enter Try.func87, Try.ntmps87
  go_wp2_with fail
  go_ret
  exact ⟨rfl, rfl⟩
set_option maxHeartbeats 4000000 in
set_option maxRecDepth 100000 in
theorem pstore_T (gp gc gm : Nat) (C : CSt) (pk ps pp id x y : Int) (st : Bool) (w0 w : World) (hI : PlainIs w0 w gp gc gm C) (hB : Below w0.heap.size w0 w) :
    Calls Try.prog 32 #[.pointer (some ⟨gp, 0, none⟩), .agg #[.int .i64 pk, .int .i64 ps, .int .i64 pp, .int .i64 id], .agg #[.int .u64 x, .int .i64 y, .bool st]] w (PPost w0 w gp gc gm (cstoreC C (pk, ps, pp) x) (.tuple #[])) := by
  have hu23 := Try.underlying23
  have hu25 := Try.underlying25
  have hu28 := Try.underlying28
  have JI := Aside0.mk ((hI.alloc (.cells #[.int .i64 pk, .int .i64 ps, .int .i64 pp, .int .i64 id] 25)).alloc (.cells #[.int .u64 x, .int .i64 y, .bool st] 28)).drew
  have JB := Aside0.mk (below_drew (below_alloc (below_alloc hB (.cells #[.int .i64 pk, .int .i64 ps, .int .i64 pp, .int .i64 id] 25)) (.cells #[.int .u64 x, .int .i64 y, .bool st] 28)))
  have JF := Aside0.mk (((Fr.refl (CellsS gc gm) w).alloc (.cells #[.int .i64 pk, .int .i64 ps, .int .i64 pp, .int .i64 id] 25)).alloc (.cells #[.int .u64 x, .int .i64 y, .bool st] 28)).drew
  have X0 := Aside0.mk (blk_drew (blk_alloc (blk_new w (.cells #[.int .i64 pk, .int .i64 ps, .int .i64 pp, .int .i64 id] 25)) (.cells #[.int .u64 x, .int .i64 y, .bool st] 28)))
  have X1 := Aside0.mk (blk_drew (blk_new2 w (.cells #[.int .i64 pk, .int .i64 ps, .int .i64 pp, .int .i64 id] 25) (.cells #[.int .u64 x, .int .i64 y, .bool st] 28)))
  have GE := Aside0.mk hB.size
  clear hI hB
  go_enter Try.func32, Try.ntmps32
  go_wp2_with fail
  refine start_ (n := 7) (S := fun w' => w'.cell? ⟨w.heap.size, 0, none⟩ = some (.int .i64 pk) ∧ w'.cell? ⟨w.heap.size, 1, none⟩ = some (.int .i64 ps) ∧ w'.cell? ⟨w.heap.size, 2, none⟩ = some (.int .i64 pp) ∧ w'.cell? ⟨w.heap.size + 1, 0, none⟩ = some (.int .u64 x)) (ds := [6]) #[false, false, false, false, false, false, false] (by kernel_rfl) rfl rfl ⟨(blk_cell X0.out 0).trans rfl, (blk_cell X0.out 1).trans rfl, (blk_cell X0.out 2).trans rfl, (blk_cell X1.out 0).trans rfl⟩ (fun hHeld => ?_)
  refine pure_ (i := 0) (N := some 6) (v := ?_) (a' := ?_) #[true, false, false, false, false, false, false] rfl rfl (by kernel_rfl) (fun _ _ _ h => h) (Or.inl ⟨by rfl, ?_⟩) ?_ ?_
  rotate_left
  · intro w'
    go_simp
    with_reducible rfl
  rotate_left
  · simp only [Act.put, List.setIfInBounds_toArray, List.set_cons_zero, List.set_cons_succ, i64_w, i32_w]
    rfl
  refine pure_ (i := 2) (N := some 8) (v := ?_) (a' := ?_) #[true, false, true, false, false, false, false] rfl rfl (by kernel_rfl) (fun _ _ _ h => h) (Or.inl ⟨by rfl, ?_⟩) ?_ ?_
  rotate_left
  · intro w'
    go_simp
    with_reducible rfl
  rotate_left
  · simp only [Act.put, List.setIfInBounds_toArray, List.set_cons_zero, List.set_cons_succ, i64_w, i32_w]
    rfl
  refine pure_ (i := 4) (N := some 10) (v := ?_) (a' := ?_) #[true, false, true, false, true, false, false] rfl rfl (by kernel_rfl) (fun _ _ _ h => h) (Or.inl ⟨by rfl, ?_⟩) ?_ ?_
  rotate_left
  · intro w'
    go_simp
    with_reducible rfl
  rotate_left
  · simp only [Act.put, List.setIfInBounds_toArray, List.set_cons_zero, List.set_cons_succ, i64_w, i32_w]
    rfl
  refine take_ (i := 3) (N := some 9) (v := ?_) (a' := ?_) #[true, false, true, true, true, false, false] rfl rfl (by kernel_rfl) (fun _ _ _ h => h) (Or.inl ⟨by rfl, ?_⟩) hHeld ?_ ?_
  rotate_left
  · rintro w' ⟨s0, s1, s2, s3⟩
    go_simp
    with_reducible rfl
  rotate_left
  · simp only [Act.put, List.setIfInBounds_toArray, List.set_cons_zero, List.set_cons_succ, i64_w, i32_w]
    rfl
  refine take_ (i := 5) (N := some 11) (v := ?_) (a' := ?_) #[true, false, true, true, true, true, false] rfl rfl (by kernel_rfl) (fun _ _ _ h => h) (Or.inl ⟨by rfl, ?_⟩) hHeld ?_ ?_
  rotate_left
  · rintro w' ⟨s0, s1, s2, s3⟩
    go_simp
    with_reducible rfl
  rotate_left
  · simp only [Act.put, List.setIfInBounds_toArray, List.set_cons_zero, List.set_cons_succ, i64_w, i32_w]
    rfl
  refine one_ (i := 1) (N := some 7) #[true, true, true, true, true, true, false] rfl rfl (by kernel_rfl) (by decide) (fun K hK => ?_)
  refine goes_ Try.func87 (by kernel_rfl) rfl #[.pointer (some ⟨gp, 0, none⟩)] (by rfl) rfl rfl (by simp only [List.map_toArray, List.map_cons, List.map_nil]; rfl) ?_
  with_reducible refine (pwords_T gp gc gm C w0 _ JI.out).mono ?_
  rintro e w5 ⟨rfl, rfl⟩
  refine ⟨_, rfl, ?_⟩
  refine hK.out _ _ ⟨(blk_cell X0.out 0).trans rfl, (blk_cell X0.out 1).trans rfl, (blk_cell X0.out 2).trans rfl, (blk_cell X1.out 0).trans rfl⟩ (fun hHeld => ?_)
  clear hK K
  refine norm_ (a' := ?_) ?_ ?_
  rotate_left
  · show Act.put _ (some 7) _ = _
    simp only [Act.put, List.setIfInBounds_toArray, List.set_cons_zero, List.set_cons_succ, i64_w, i32_w]
    rfl
  refine last_ (i := 6) (N := some 12) #[true, true, true, true, true, true, true] rfl rfl (by kernel_rfl) (by decide) (fun K hK => ?_)
  refine goes_ Try.func89 (by kernel_rfl) rfl #[.pointer (some ⟨gc, 0, none⟩), Value.agg #[.int .i64 pk, .int .i64 ps, .int .i64 pp], .int .u64 x] (by rfl) rfl rfl (by simp only [List.map_toArray, List.map_cons, List.map_nil]; rfl) ?_
  with_reducible refine (cstore_T gc gm C pk ps pp x w0 _ JI.out.cells JB.out).mono ?_
  rintro e w6 ⟨rfl, h1_, h2_, h3_⟩
  refine ⟨_, rfl, ?_⟩
  have R1 := Aside0.mk (JI.out.turn h1_ h3_)
  have R2 := Aside0.mk h2_
  have R3 := Aside0.mk (JF.out.trans h3_)
  clear h1_ h2_ h3_
  refine hK.out _ _ ?_
  clear hK K
  refine norm_ (a' := ?_) ?_ ?_
  rotate_left
  · show Act.put _ (some 12) _ = _
    simp only [Act.put, List.setIfInBounds_toArray, List.set_cons_zero, List.set_cons_succ, i64_w, i32_w]
    rfl
  refine done_ (by kernel_rfl) ?_
  go_wp2_with fail
  refine bodyPost_end (results_none rfl _ _ _) rfl ?_
  exact ⟨rfl, R1.out, R2.out, R3.out⟩
set_option maxHeartbeats 4000000 in
set_option maxRecDepth 100000 in
theorem pswap_T (gp gc gm : Nat) (C : CSt) (pk ps pp id ox oy x y : Int) (ost st : Bool) (w0 w : World) (hI : PlainIs w0 w gp gc gm C) (hB : Below w0.heap.size w0 w) :
    Calls Try.prog 33 #[.pointer (some ⟨gp, 0, none⟩), .agg #[.int .i64 pk, .int .i64 ps, .int .i64 pp, .int .i64 id], .agg #[.int .u64 ox, .int .i64 oy, .bool ost], .agg #[.int .u64 x, .int .i64 y, .bool st]] w (PPost w0 w gp gc gm (cswapC C (pk, ps, pp) ox x) (.bool (cswapR C (pk, ps, pp) ox))) := by
  have hu23 := Try.underlying23
  have hu25 := Try.underlying25
  have hu28 := Try.underlying28
  have JI := Aside0.mk (((hI.alloc (.cells #[.int .i64 pk, .int .i64 ps, .int .i64 pp, .int .i64 id] 25)).alloc (.cells #[.int .u64 ox, .int .i64 oy, .bool ost] 28)).alloc (.cells #[.int .u64 x, .int .i64 y, .bool st] 28)).drew
  have JB := Aside0.mk (below_drew (below_alloc (below_alloc (below_alloc hB (.cells #[.int .i64 pk, .int .i64 ps, .int .i64 pp, .int .i64 id] 25)) (.cells #[.int .u64 ox, .int .i64 oy, .bool ost] 28)) (.cells #[.int .u64 x, .int .i64 y, .bool st] 28)))
  have JF := Aside0.mk ((((Fr.refl (CellsS gc gm) w).alloc (.cells #[.int .i64 pk, .int .i64 ps, .int .i64 pp, .int .i64 id] 25)).alloc (.cells #[.int .u64 ox, .int .i64 oy, .bool ost] 28)).alloc (.cells #[.int .u64 x, .int .i64 y, .bool st] 28)).drew
  have X0 := Aside0.mk (blk_drew (blk_alloc (blk_alloc (blk_new w (.cells #[.int .i64 pk, .int .i64 ps, .int .i64 pp, .int .i64 id] 25)) (.cells #[.int .u64 ox, .int .i64 oy, .bool ost] 28)) (.cells #[.int .u64 x, .int .i64 y, .bool st] 28)))
  have X1 := Aside0.mk (blk_drew (blk_alloc (blk_new2 w (.cells #[.int .i64 pk, .int .i64 ps, .int .i64 pp, .int .i64 id] 25) (.cells #[.int .u64 ox, .int .i64 oy, .bool ost] 28)) (.cells #[.int .u64 x, .int .i64 y, .bool st] 28)))
  have X2 := Aside0.mk (blk_drew (blk_new3 w (.cells #[.int .i64 pk, .int .i64 ps, .int .i64 pp, .int .i64 id] 25) (.cells #[.int .u64 ox, .int .i64 oy, .bool ost] 28) (.cells #[.int .u64 x, .int .i64 y, .bool st] 28)))
  have GE := Aside0.mk hB.size
  clear hI hB
  go_enter Try.func33, Try.ntmps33
  go_wp2_with fail
  refine start_ (n := 10) (S := fun w' => w'.cell? ⟨w.heap.size, 0, none⟩ = some (.int .i64 pk) ∧ w'.cell? ⟨w.heap.size, 1, none⟩ = some (.int .i64 ps) ∧ w'.cell? ⟨w.heap.size, 2, none⟩ = some (.int .i64 pp) ∧ w'.cell? ⟨w.heap.size + 1, 0, none⟩ = some (.int .u64 ox) ∧ w'.cell? ⟨w.heap.size + 1 + 1, 0, none⟩ = some (.int .u64 x)) (ds := [8]) #[false, false, false, false, false, false, false, false, false, false] (by kernel_rfl) rfl rfl ⟨(blk_cell X0.out 0).trans rfl, (blk_cell X0.out 1).trans rfl, (blk_cell X0.out 2).trans rfl, (blk_cell X1.out 0).trans rfl, (blk_cell X2.out 0).trans rfl⟩ (fun hHeld => ?_)
  refine pure_ (i := 0) (N := some 9) (v := ?_) (a' := ?_) #[true, false, false, false, false, false, false, false, false, false] rfl rfl (by kernel_rfl) (fun _ _ _ h => h) (Or.inl ⟨by rfl, ?_⟩) ?_ ?_
  rotate_left
  · intro w'
    go_simp
    with_reducible rfl
  rotate_left
  · simp only [Act.put, List.setIfInBounds_toArray, List.set_cons_zero, List.set_cons_succ, i64_w, i32_w]
    rfl
  refine pure_ (i := 2) (N := some 11) (v := ?_) (a' := ?_) #[true, false, true, false, false, false, false, false, false, false] rfl rfl (by kernel_rfl) (fun _ _ _ h => h) (Or.inl ⟨by rfl, ?_⟩) ?_ ?_
  rotate_left
  · intro w'
    go_simp
    with_reducible rfl
  rotate_left
  · simp only [Act.put, List.setIfInBounds_toArray, List.set_cons_zero, List.set_cons_succ, i64_w, i32_w]
    rfl
  refine pure_ (i := 4) (N := some 13) (v := ?_) (a' := ?_) #[true, false, true, false, true, false, false, false, false, false] rfl rfl (by kernel_rfl) (fun _ _ _ h => h) (Or.inl ⟨by rfl, ?_⟩) ?_ ?_
  rotate_left
  · intro w'
    go_simp
    with_reducible rfl
  rotate_left
  · simp only [Act.put, List.setIfInBounds_toArray, List.set_cons_zero, List.set_cons_succ, i64_w, i32_w]
    rfl
  refine pure_ (i := 6) (N := some 15) (v := ?_) (a' := ?_) #[true, false, true, false, true, false, true, false, false, false] rfl rfl (by kernel_rfl) (fun _ _ _ h => h) (Or.inl ⟨by rfl, ?_⟩) ?_ ?_
  rotate_left
  · intro w'
    go_simp
    with_reducible rfl
  rotate_left
  · simp only [Act.put, List.setIfInBounds_toArray, List.set_cons_zero, List.set_cons_succ, i64_w, i32_w]
    rfl
  refine take_ (i := 3) (N := some 12) (v := ?_) (a' := ?_) #[true, false, true, true, true, false, true, false, false, false] rfl rfl (by kernel_rfl) (fun _ _ _ h => h) (Or.inl ⟨by rfl, ?_⟩) hHeld ?_ ?_
  rotate_left
  · rintro w' ⟨s0, s1, s2, s3, s4⟩
    go_simp
    with_reducible rfl
  rotate_left
  · simp only [Act.put, List.setIfInBounds_toArray, List.set_cons_zero, List.set_cons_succ, i64_w, i32_w]
    rfl
  refine take_ (i := 5) (N := some 14) (v := ?_) (a' := ?_) #[true, false, true, true, true, true, true, false, false, false] rfl rfl (by kernel_rfl) (fun _ _ _ h => h) (Or.inl ⟨by rfl, ?_⟩) hHeld ?_ ?_
  rotate_left
  · rintro w' ⟨s0, s1, s2, s3, s4⟩
    go_simp
    with_reducible rfl
  rotate_left
  · simp only [Act.put, List.setIfInBounds_toArray, List.set_cons_zero, List.set_cons_succ, i64_w, i32_w]
    rfl
  refine take_ (i := 7) (N := some 16) (v := ?_) (a' := ?_) #[true, false, true, true, true, true, true, true, false, false] rfl rfl (by kernel_rfl) (fun _ _ _ h => h) (Or.inl ⟨by rfl, ?_⟩) hHeld ?_ ?_
  rotate_left
  · rintro w' ⟨s0, s1, s2, s3, s4⟩
    go_simp
    with_reducible rfl
  rotate_left
  · simp only [Act.put, List.setIfInBounds_toArray, List.set_cons_zero, List.set_cons_succ, i64_w, i32_w]
    rfl
  refine one_ (i := 1) (N := some 10) #[true, true, true, true, true, true, true, true, false, false] rfl rfl (by kernel_rfl) (by decide) (fun K hK => ?_)
  refine goes_ Try.func87 (by kernel_rfl) rfl #[.pointer (some ⟨gp, 0, none⟩)] (by rfl) rfl rfl (by simp only [List.map_toArray, List.map_cons, List.map_nil]; rfl) ?_
  with_reducible refine (pwords_T gp gc gm C w0 _ JI.out).mono ?_
  rintro e w5 ⟨rfl, rfl⟩
  refine ⟨_, rfl, ?_⟩
  refine hK.out _ _ ⟨(blk_cell X0.out 0).trans rfl, (blk_cell X0.out 1).trans rfl, (blk_cell X0.out 2).trans rfl, (blk_cell X1.out 0).trans rfl, (blk_cell X2.out 0).trans rfl⟩ (fun hHeld => ?_)
  clear hK K
  refine norm_ (a' := ?_) ?_ ?_
  rotate_left
  · show Act.put _ (some 10) _ = _
    simp only [Act.put, List.setIfInBounds_toArray, List.set_cons_zero, List.set_cons_succ, i64_w, i32_w]
    rfl
  refine last_ (i := 8) (N := some 17) #[true, true, true, true, true, true, true, true, true, false] rfl rfl (by kernel_rfl) (by decide) (fun K hK => ?_)
  refine goes_ Try.func90 (by kernel_rfl) rfl #[.pointer (some ⟨gc, 0, none⟩), Value.agg #[.int .i64 pk, .int .i64 ps, .int .i64 pp], .int .u64 ox, .int .u64 x] (by rfl) rfl rfl (by simp only [List.map_toArray, List.map_cons, List.map_nil]; rfl) ?_
  with_reducible refine (cswap_T gc gm C pk ps pp ox x w0 _ JI.out.cells JB.out).mono ?_
  rintro e w6 ⟨rfl, h1_, h2_, h3_⟩
  refine ⟨_, rfl, ?_⟩
  have R1 := Aside0.mk (JI.out.turn h1_ h3_)
  have R2 := Aside0.mk h2_
  have R3 := Aside0.mk (JF.out.trans h3_)
  clear h1_ h2_ h3_
  refine hK.out _ _ ?_
  clear hK K
  refine norm_ (a' := ?_) ?_ ?_
  rotate_left
  · show Act.put _ (some 17) _ = _
    simp only [Act.put, List.setIfInBounds_toArray, List.set_cons_zero, List.set_cons_succ, i64_w, i32_w]
    rfl
  refine pure_ (i := 9) (N := some 8) (v := ?_) (a' := ?_) #[true, true, true, true, true, true, true, true, true, true] rfl rfl (by kernel_rfl) (fun _ _ _ h => h) (Or.inl ⟨by rfl, ?_⟩) ?_ ?_
  rotate_left
  · intro w'
    go_simp
    with_reducible rfl
  rotate_left
  · simp only [Act.put, List.setIfInBounds_toArray, List.set_cons_zero, List.set_cons_succ, i64_w, i32_w]
    rfl
  refine done_ (by kernel_rfl) ?_
  go_wp2_with fail
  go_ret
  exact ⟨rfl, R1.out, R2.out, R3.out⟩
set_option maxHeartbeats 4000000 in
set_option maxRecDepth 100000 in
theorem padd_T (gp gc gm : Nat) (C : CSt) (pk ps pp id n : Int) (w0 w : World) (hI : PlainIs w0 w gp gc gm C) (hB : Below w0.heap.size w0 w) :
    Calls Try.prog 34 #[.pointer (some ⟨gp, 0, none⟩), .agg #[.int .i64 pk, .int .i64 ps, .int .i64 pp, .int .i64 id], .int .u64 n] w (PPost w0 w gp gc gm (caddC C (pk, ps, pp) n) (.int .u64 (getw C.m (pk, ps, pp)))) := by
  have hu23 := Try.underlying23
  have hu25 := Try.underlying25
  have hu28 := Try.underlying28
  have JI := Aside0.mk (hI.alloc (.cells #[.int .i64 pk, .int .i64 ps, .int .i64 pp, .int .i64 id] 25)).drew
  have JB := Aside0.mk (below_drew (below_alloc hB (.cells #[.int .i64 pk, .int .i64 ps, .int .i64 pp, .int .i64 id] 25)))
  have JF := Aside0.mk ((Fr.refl (CellsS gc gm) w).alloc (.cells #[.int .i64 pk, .int .i64 ps, .int .i64 pp, .int .i64 id] 25)).drew
  have X0 := Aside0.mk (blk_drew (blk_new w (.cells #[.int .i64 pk, .int .i64 ps, .int .i64 pp, .int .i64 id] 25)))
  have GE := Aside0.mk hB.size
  clear hI hB
  go_enter Try.func34, Try.ntmps34
  go_wp2_with fail
  refine start_ (n := 7) (S := fun w' => w'.cell? ⟨w.heap.size, 0, none⟩ = some (.int .i64 pk) ∧ w'.cell? ⟨w.heap.size, 1, none⟩ = some (.int .i64 ps) ∧ w'.cell? ⟨w.heap.size, 2, none⟩ = some (.int .i64 pp)) (ds := [5]) #[false, false, false, false, false, false, false] (by kernel_rfl) rfl rfl ⟨(blk_cell X0.out 0).trans rfl, (blk_cell X0.out 1).trans rfl, (blk_cell X0.out 2).trans rfl⟩ (fun hHeld => ?_)
  refine pure_ (i := 0) (N := some 7) (v := ?_) (a' := ?_) #[true, false, false, false, false, false, false] rfl rfl (by kernel_rfl) (fun _ _ _ h => h) (Or.inl ⟨by rfl, ?_⟩) ?_ ?_
  rotate_left
  · intro w'
    go_simp
    with_reducible rfl
  rotate_left
  · simp only [Act.put, List.setIfInBounds_toArray, List.set_cons_zero, List.set_cons_succ, i64_w, i32_w]
    rfl
  refine pure_ (i := 2) (N := some 9) (v := ?_) (a' := ?_) #[true, false, true, false, false, false, false] rfl rfl (by kernel_rfl) (fun _ _ _ h => h) (Or.inl ⟨by rfl, ?_⟩) ?_ ?_
  rotate_left
  · intro w'
    go_simp
    with_reducible rfl
  rotate_left
  · simp only [Act.put, List.setIfInBounds_toArray, List.set_cons_zero, List.set_cons_succ, i64_w, i32_w]
    rfl
  refine pure_ (i := 4) (N := some 11) (v := ?_) (a' := ?_) #[true, false, true, false, true, false, false] rfl rfl (by kernel_rfl) (fun _ _ _ h => h) (Or.inl ⟨by rfl, ?_⟩) ?_ ?_
  rotate_left
  · intro w'
    go_simp
    with_reducible rfl
  rotate_left
  · simp only [Act.put, List.setIfInBounds_toArray, List.set_cons_zero, List.set_cons_succ, i64_w, i32_w]
    rfl
  refine take_ (i := 3) (N := some 10) (v := ?_) (a' := ?_) #[true, false, true, true, true, false, false] rfl rfl (by kernel_rfl) (fun _ _ _ h => h) (Or.inl ⟨by rfl, ?_⟩) hHeld ?_ ?_
  rotate_left
  · rintro w' ⟨s0, s1, s2⟩
    go_simp
    with_reducible rfl
  rotate_left
  · simp only [Act.put, List.setIfInBounds_toArray, List.set_cons_zero, List.set_cons_succ, i64_w, i32_w]
    rfl
  refine one_ (i := 1) (N := some 8) #[true, true, true, true, true, false, false] rfl rfl (by kernel_rfl) (by decide) (fun K hK => ?_)
  refine goes_ Try.func87 (by kernel_rfl) rfl #[.pointer (some ⟨gp, 0, none⟩)] (by rfl) rfl rfl (by simp only [List.map_toArray, List.map_cons, List.map_nil]; rfl) ?_
  with_reducible refine (pwords_T gp gc gm C w0 _ JI.out).mono ?_
  rintro e w5 ⟨rfl, rfl⟩
  refine ⟨_, rfl, ?_⟩
  refine hK.out _ _ ⟨(blk_cell X0.out 0).trans rfl, (blk_cell X0.out 1).trans rfl, (blk_cell X0.out 2).trans rfl⟩ (fun hHeld => ?_)
  clear hK K
  refine norm_ (a' := ?_) ?_ ?_
  rotate_left
  · show Act.put _ (some 8) _ = _
    simp only [Act.put, List.setIfInBounds_toArray, List.set_cons_zero, List.set_cons_succ, i64_w, i32_w]
    rfl
  refine last_ (i := 5) (N := some 12) #[true, true, true, true, true, true, false] rfl rfl (by kernel_rfl) (by decide) (fun K hK => ?_)
  refine goes_ Try.func91 (by kernel_rfl) rfl #[.pointer (some ⟨gc, 0, none⟩), Value.agg #[.int .i64 pk, .int .i64 ps, .int .i64 pp], .int .u64 n] (by rfl) rfl rfl (by simp only [List.map_toArray, List.map_cons, List.map_nil]; rfl) ?_
  with_reducible refine (cadd_T gc gm C pk ps pp n w0 _ JI.out.cells JB.out).mono ?_
  rintro e w6 ⟨rfl, h1_, h2_, h3_⟩
  refine ⟨_, rfl, ?_⟩
  have R1 := Aside0.mk (JI.out.turn h1_ h3_)
  have R2 := Aside0.mk h2_
  have R3 := Aside0.mk (JF.out.trans h3_)
  clear h1_ h2_ h3_
  refine hK.out _ _ ?_
  clear hK K
  refine norm_ (a' := ?_) ?_ ?_
  rotate_left
  · show Act.put _ (some 12) _ = _
    simp only [Act.put, List.setIfInBounds_toArray, List.set_cons_zero, List.set_cons_succ, i64_w, i32_w]
    rfl
  refine pure_ (i := 6) (N := some 6) (v := ?_) (a' := ?_) #[true, true, true, true, true, true, true] rfl rfl (by kernel_rfl) (fun _ _ _ h => h) (Or.inl ⟨by rfl, ?_⟩) ?_ ?_
  rotate_left
  · intro w'
    go_simp
    with_reducible rfl
  rotate_left
  · simp only [Act.put, List.setIfInBounds_toArray, List.set_cons_zero, List.set_cons_succ, i64_w, i32_w]
    rfl
  refine done_ (by kernel_rfl) ?_
  go_wp2_with fail
  go_ret
  exact ⟨rfl, R1.out, R2.out, R3.out⟩
set_option maxHeartbeats 4000000 in
set_option maxRecDepth 100000 in
theorem pload_T (gp gc gm : Nat) (C : CSt) (pk ps pp id : Int) (w0 w : World) (hI : PlainIs w0 w gp gc gm C) (hB : Below w0.heap.size w0 w) :
    Calls Try.prog 31 #[.pointer (some ⟨gp, 0, none⟩), .agg #[.int .i64 pk, .int .i64 ps, .int .i64 pp, .int .i64 id]] w (PPost w0 w gp gc gm (cloadC C) (.agg #[.int .u64 (getw C.m (pk, ps, pp)), .int .i64 0, .bool false])) := by
  have hu23 := Try.underlying23
  have hu25 := Try.underlying25
  have hu28 := Try.underlying28
  have JI := Aside0.mk ((hI.alloc (.cells #[.int .i64 pk, .int .i64 ps, .int .i64 pp, .int .i64 id] 25)).alloc (.cells #[.int .u64 0, .int .i64 0, .bool false] 28)).drew
  have JB := Aside0.mk (below_drew (below_alloc (below_alloc hB (.cells #[.int .i64 pk, .int .i64 ps, .int .i64 pp, .int .i64 id] 25)) (.cells #[.int .u64 0, .int .i64 0, .bool false] 28)))
  have JF := Aside0.mk (((Fr.refl (CellsS gc gm) w).alloc (.cells #[.int .i64 pk, .int .i64 ps, .int .i64 pp, .int .i64 id] 25)).alloc (.cells #[.int .u64 0, .int .i64 0, .bool false] 28)).drew
  have X0 := Aside0.mk (blk_drew (blk_alloc (blk_new w (.cells #[.int .i64 pk, .int .i64 ps, .int .i64 pp, .int .i64 id] 25)) (.cells #[.int .u64 0, .int .i64 0, .bool false] 28)))
  have X1 := Aside0.mk (blk_drew (blk_new2 w (.cells #[.int .i64 pk, .int .i64 ps, .int .i64 pp, .int .i64 id] 25) (.cells #[.int .u64 0, .int .i64 0, .bool false] 28)))
  have GE := Aside0.mk hB.size
  clear hI hB
  go_enter Try.func31, Try.ntmps31
  go_wp2_with fail
  refine start_ (n := 7) (S := fun w' => w'.cell? ⟨w.heap.size, 0, none⟩ = some (.int .i64 pk) ∧ w'.cell? ⟨w.heap.size, 1, none⟩ = some (.int .i64 ps) ∧ w'.cell? ⟨w.heap.size, 2, none⟩ = some (.int .i64 pp)) (ds := [6]) #[false, false, false, false, false, false, false] (by kernel_rfl) rfl rfl ⟨(blk_cell X0.out 0).trans rfl, (blk_cell X0.out 1).trans rfl, (blk_cell X0.out 2).trans rfl⟩ (fun hHeld => ?_)
  refine pure_ (i := 0) (N := some 5) (v := ?_) (a' := ?_) #[true, false, false, false, false, false, false] rfl rfl (by kernel_rfl) (fun _ _ _ h => h) (Or.inl ⟨by rfl, ?_⟩) ?_ ?_
  rotate_left
  · intro w'
    go_simp
    with_reducible rfl
  rotate_left
  · simp only [Act.put, List.setIfInBounds_toArray, List.set_cons_zero, List.set_cons_succ, i64_w, i32_w]
    rfl
  refine pure_ (i := 2) (N := some 7) (v := ?_) (a' := ?_) #[true, false, true, false, false, false, false] rfl rfl (by kernel_rfl) (fun _ _ _ h => h) (Or.inl ⟨by rfl, ?_⟩) ?_ ?_
  rotate_left
  · intro w'
    go_simp
    with_reducible rfl
  rotate_left
  · simp only [Act.put, List.setIfInBounds_toArray, List.set_cons_zero, List.set_cons_succ, i64_w, i32_w]
    rfl
  refine take_ (i := 3) (N := some 8) (v := ?_) (a' := ?_) #[true, false, true, true, false, false, false] rfl rfl (by kernel_rfl) (fun _ _ _ h => h) (Or.inl ⟨by rfl, ?_⟩) hHeld ?_ ?_
  rotate_left
  · rintro w' ⟨s0, s1, s2⟩
    go_simp
    with_reducible rfl
  rotate_left
  · simp only [Act.put, List.setIfInBounds_toArray, List.set_cons_zero, List.set_cons_succ, i64_w, i32_w]
    rfl
  refine one_ (i := 1) (N := some 6) #[true, true, true, true, false, false, false] rfl rfl (by kernel_rfl) (by decide) (fun K hK => ?_)
  refine goes_ Try.func87 (by kernel_rfl) rfl #[.pointer (some ⟨gp, 0, none⟩)] (by rfl) rfl rfl (by simp only [List.map_toArray, List.map_cons, List.map_nil]; rfl) ?_
  with_reducible refine (pwords_T gp gc gm C w0 _ JI.out).mono ?_
  rintro e w5 ⟨rfl, rfl⟩
  refine ⟨_, rfl, ?_⟩
  refine hK.out _ _ ⟨(blk_cell X0.out 0).trans rfl, (blk_cell X0.out 1).trans rfl, (blk_cell X0.out 2).trans rfl⟩ (fun hHeld => ?_)
  clear hK K
  refine norm_ (a' := ?_) ?_ ?_
  rotate_left
  · show Act.put _ (some 6) _ = _
    simp only [Act.put, List.setIfInBounds_toArray, List.set_cons_zero, List.set_cons_succ, i64_w, i32_w]
    rfl
  refine one_ (i := 4) (N := some 9) #[true, true, true, true, true, false, false] rfl rfl (by kernel_rfl) (by decide) (fun K hK => ?_)
  refine goes_ Try.func88 (by kernel_rfl) rfl #[.pointer (some ⟨gc, 0, none⟩), Value.agg #[.int .i64 pk, .int .i64 ps, .int .i64 pp]] (by rfl) rfl rfl (by simp only [List.map_toArray, List.map_cons, List.map_nil]; rfl) ?_
  with_reducible refine (cload_T gc gm C pk ps pp w0 _ JI.out.cells JB.out).mono ?_
  rintro e w6 ⟨rfl, h1_, h2_, h3_⟩
  refine ⟨_, rfl, ?_⟩
  have R1 := Aside0.mk (JI.out.turn h1_ h3_)
  have R2 := Aside0.mk h2_
  have R3 := Aside0.mk (JF.out.trans h3_)
  have Y0 := Aside0.mk (JI.out.cells.stays h3_ X0.out (by decide))
  have Y1 := Aside0.mk (JI.out.cells.stays h3_ X1.out (by decide))
  clear h1_ h2_ h3_
  refine hK.out _ _ ⟨(blk_cell Y0.out 0).trans rfl, (blk_cell Y0.out 1).trans rfl, (blk_cell Y0.out 2).trans rfl⟩ (fun hHeld => ?_)
  clear hK K
  refine norm_ (a' := ?_) ?_ ?_
  rotate_left
  · show Act.put _ (some 9) _ = _
    simp only [Act.put, List.setIfInBounds_toArray, List.set_cons_zero, List.set_cons_succ, i64_w, i32_w]
    rfl
  refine pure_ (i := 5) (N := some 10) (v := ?_) (a' := ?_) #[true, true, true, true, true, true, false] rfl rfl (by kernel_rfl) (fun _ _ _ h => h) (Or.inl ⟨by rfl, ?_⟩) ?_ ?_
  rotate_left
  · intro w'
    go_simp
    with_reducible rfl
  rotate_left
  · simp only [Act.put, List.setIfInBounds_toArray, List.set_cons_zero, List.set_cons_succ, i64_w, i32_w]
    rfl
  refine last_ (i := 6) (N := none) #[true, true, true, true, true, true, true] rfl rfl (by kernel_rfl) (by decide) (fun K hK => ?_)
  have z0 : w6.cell? ⟨w.heap.size + 1, 0, none⟩ = some (.int .u64 0) := (blk_cell Y1.out 0).trans rfl
  have z1 : w6.cell? ⟨w.heap.size + 1, 1, none⟩ = some (.int .i64 0) := (blk_cell Y1.out 1).trans rfl
  have z2 : w6.cell? ⟨w.heap.size + 1, 2, none⟩ = some (.bool false) := (blk_cell Y1.out 2).trans rfl
  have y0 : w6.frozen? ⟨w.heap.size + 1, 0, none⟩ = false := blk_frozen Y1.out 0
  have y1 : w6.frozen? ⟨w.heap.size + 1, 1, none⟩ = false := blk_frozen Y1.out 1
  have y2 : w6.frozen? ⟨w.heap.size + 1, 2, none⟩ = false := blk_frozen Y1.out 2
  refine skip_ (w1 := ?_) (by rfl) rfl ?_ ?_
  rotate_left
  · go_simp
    rfl
  clear z0 z1 z2 y0 y1 y2
  refine hK.out _ _ ?_
  clear hK K
  refine done_ (by kernel_rfl) ?_
  go_wp2_with fail
  obtain ⟨cur, hcur⟩ : ∃ c, getw C.m (pk, ps, pp) = c := ⟨_, rfl⟩
  rw [hcur]
  have P0 := blk_put Y1.out 0 (.int .u64 cur) rfl
  have P1 := blk_put P0 1 (.int .i64 0) rfl
  have P := blk_put P1 2 (.bool false) rfl
  have HI2 := ((R1.out.far Y1.out (by decide) (by decide) 0 (.int .u64 cur)).far P0 (by decide) (by decide) 1 (.int .i64 0)).far P1 (by decide) (by decide) 2 (.bool false)
  refine bodyPost_ret (results_cell_row rfl _ _ (w.heap.size + 1) 28 #[.int .u64 cur, .int .i64 0, .bool false] (0, 0) _ rfl P Try.underlying28 rfl (by kernel_rfl)) rfl ?_
  have GE1 : w.heap.size ≤ w.heap.size + 1 := by omega
  have G0 : w0.heap.size ≤ w.heap.size := GE.out
  exact ⟨rfl, HI2, ((R2.out.setCell (p := ⟨w.heap.size + 1, 0, none⟩) (Nat.le_trans G0 GE1) _).setCell (p := ⟨w.heap.size + 1, 1, none⟩) (Nat.le_trans G0 GE1) _).setCell (p := ⟨w.heap.size + 1, 2, none⟩) (Nat.le_trans G0 GE1) _, ((R3.out.setNew (p := ⟨w.heap.size + 1, 0, none⟩) GE1 _).setNew (p := ⟨w.heap.size + 1, 1, none⟩) GE1 _).setNew (p := ⟨w.heap.size + 1, 2, none⟩) GE1 _⟩
set_option maxHeartbeats 4000000 in
set_option maxRecDepth 100000 in
theorem ppeek_T (gp gc gm : Nat) (C : CSt) (pk ps pp : Int) (w0 w : World) (hI : PlainIs w0 w gp gc gm C) :
    Calls Try.prog 35 #[.pointer (some ⟨gp, 0, none⟩), .agg #[.int .i64 pk, .int .i64 ps, .int .i64 pp]] w fun e w' => e = .returned (.int .u64 (getw C.m (pk, ps, pp))) ∧ Below w.heap.size w w' := by
  have hu23 := Try.underlying23
  have JI := Aside0.mk (hI.alloc (.cells #[.int .i64 pk, .int .i64 ps, .int .i64 pp] 23)).drew
  have JB := Aside0.mk (below_drew (below_alloc (Below.refl w.heap.size w) (.cells #[.int .i64 pk, .int .i64 ps, .int .i64 pp] 23)))
  have X0 := Aside0.mk (blk_drew (blk_new w (.cells #[.int .i64 pk, .int .i64 ps, .int .i64 pp] 23)))
  clear hI
  go_enter Try.func35, Try.ntmps35
  go_wp2_with fail
  refine start_ (n := 5) (S := fun w' => w'.cell? ⟨w.heap.size, 0, none⟩ = some (.int .i64 pk) ∧ w'.cell? ⟨w.heap.size, 1, none⟩ = some (.int .i64 ps) ∧ w'.cell? ⟨w.heap.size, 2, none⟩ = some (.int .i64 pp)) (ds := [3]) #[false, false, false, false, false] (by kernel_rfl) rfl rfl ⟨(blk_cell X0.out 0).trans rfl, (blk_cell X0.out 1).trans rfl, (blk_cell X0.out 2).trans rfl⟩ (fun hHeld => ?_)
  refine pure_ (i := 0) (N := some 5) (v := ?_) (a' := ?_) #[true, false, false, false, false] rfl rfl (by kernel_rfl) (fun _ _ _ h => h) (Or.inl ⟨by rfl, ?_⟩) ?_ ?_
  rotate_left
  · intro w'
    go_simp
    with_reducible rfl
  rotate_left
  · simp only [Act.put, List.setIfInBounds_toArray, List.set_cons_zero, List.set_cons_succ, i64_w, i32_w]
    rfl
  refine take_ (i := 2) (N := some 7) (v := ?_) (a' := ?_) #[true, false, true, false, false] rfl rfl (by kernel_rfl) (fun _ _ _ h => h) (Or.inl ⟨by rfl, ?_⟩) hHeld ?_ ?_
  rotate_left
  · rintro w' ⟨s0, s1, s2⟩
    go_simp
    with_reducible rfl
  rotate_left
  · simp only [Act.put, List.setIfInBounds_toArray, List.set_cons_zero, List.set_cons_succ, i64_w, i32_w]
    rfl
  refine one_ (i := 1) (N := some 6) #[true, true, true, false, false] rfl rfl (by kernel_rfl) (by decide) (fun K hK => ?_)
  refine goes_ Try.func87 (by kernel_rfl) rfl #[.pointer (some ⟨gp, 0, none⟩)] (by rfl) rfl rfl (by simp only [List.map_toArray, List.map_cons, List.map_nil]; rfl) ?_
  with_reducible refine (pwords_T gp gc gm C w0 _ JI.out).mono ?_
  rintro e w5 ⟨rfl, rfl⟩
  refine ⟨_, rfl, ?_⟩
  refine hK.out _ _ ⟨(blk_cell X0.out 0).trans rfl, (blk_cell X0.out 1).trans rfl, (blk_cell X0.out 2).trans rfl⟩ (fun hHeld => ?_)
  clear hK K
  refine norm_ (a' := ?_) ?_ ?_
  rotate_left
  · show Act.put _ (some 6) _ = _
    simp only [Act.put, List.setIfInBounds_toArray, List.set_cons_zero, List.set_cons_succ, i64_w, i32_w]
    rfl
  refine last_ (i := 3) (N := some 8) #[true, true, true, true, false] rfl rfl (by kernel_rfl) (by decide) (fun K hK => ?_)
  refine goes_ Try.func92 (by kernel_rfl) rfl #[.pointer (some ⟨gc, 0, none⟩), Value.agg #[.int .i64 pk, .int .i64 ps, .int .i64 pp]] (by rfl) rfl rfl (by simp only [List.map_toArray, List.map_cons, List.map_nil]; rfl) ?_
  with_reducible refine (cpeek_T gc gm C pk ps pp w0 _ JI.out.cells).mono ?_
  rintro e w6 ⟨rfl, hb⟩
  refine ⟨_, rfl, ?_⟩
  have R2 := Aside0.mk (below_step JB.out hb)
  clear hb
  refine hK.out _ _ ?_
  clear hK K
  refine norm_ (a' := ?_) ?_ ?_
  rotate_left
  · show Act.put _ (some 8) _ = _
    simp only [Act.put, List.setIfInBounds_toArray, List.set_cons_zero, List.set_cons_succ, i64_w, i32_w]
    rfl
  refine pure_ (i := 4) (N := some 4) (v := ?_) (a' := ?_) #[true, true, true, true, true] rfl rfl (by kernel_rfl) (fun _ _ _ h => h) (Or.inl ⟨by rfl, ?_⟩) ?_ ?_
  rotate_left
  · intro w'
    go_simp
    with_reducible rfl
  rotate_left
  · simp only [Act.put, List.setIfInBounds_toArray, List.set_cons_zero, List.set_cons_succ, i64_w, i32_w]
    rfl
  refine done_ (by kernel_rfl) ?_
  go_wp2_with fail
  go_ret
  exact ⟨rfl, R2.out⟩
set_option maxHeartbeats 4000000 in
set_option maxRecDepth 100000 in
theorem pcount_T (gp gc gm : Nat) (C : CSt) (w0 w : World) (hI : PlainIs w0 w gp gc gm C) : Calls Try.prog 36 #[.pointer (some ⟨gp, 0, none⟩)] w fun e w' => e = .returned (.agg #[.int .i64 C.c1, .int .i64 C.c2, .int .i64 C.c3, .int .i64 C.c4, .int .i64 C.c5]) ∧ Below w.heap.size w w' := by
  have hu38 := Try.underlying38
  have JI := Aside0.mk (hI.alloc (.cells #[.int .i64 0, .int .i64 0, .int .i64 0, .int .i64 0, .int .i64 0] 38))
  have X0 := Aside0.mk (blk_new w (.cells #[.int .i64 0, .int .i64 0, .int .i64 0, .int .i64 0, .int .i64 0] 38))
  clear hI
  go_enter Try.func36, Try.ntmps36
  go_wp2_with fail
  refine (pwords_T gp gc gm C w0 _ JI.out).mono ?_
  rintro e w1 ⟨rfl, rfl⟩
  go_wp2_with fail
  refine (ccount_T gc gm C w0 _ JI.out.cells).mono ?_
  rintro e w2 ⟨rfl, hb⟩
  have Y0 := Aside0.mk (blk_below X0.out hb)
  have B := Aside0.mk (below_step (below_alloc (Below.refl w.heap.size w) (.cells #[.int .i64 0, .int .i64 0, .int .i64 0, .int .i64 0, .int .i64 0] 38)) hb)
  clear hb
  have z0 : w2.cell? ⟨w.heap.size, 0, none⟩ = some (.int .i64 0) := (blk_cell Y0.out 0).trans rfl
  have z1 : w2.cell? ⟨w.heap.size, 1, none⟩ = some (.int .i64 0) := (blk_cell Y0.out 1).trans rfl
  have z2 : w2.cell? ⟨w.heap.size, 2, none⟩ = some (.int .i64 0) := (blk_cell Y0.out 2).trans rfl
  have z3 : w2.cell? ⟨w.heap.size, 3, none⟩ = some (.int .i64 0) := (blk_cell Y0.out 3).trans rfl
  have z4 : w2.cell? ⟨w.heap.size, 4, none⟩ = some (.int .i64 0) := (blk_cell Y0.out 4).trans rfl
  have y0 : w2.frozen? ⟨w.heap.size, 0, none⟩ = false := blk_frozen Y0.out 0
  have y1 : w2.frozen? ⟨w.heap.size, 1, none⟩ = false := blk_frozen Y0.out 1
  have y2 : w2.frozen? ⟨w.heap.size, 2, none⟩ = false := blk_frozen Y0.out 2
  have y3 : w2.frozen? ⟨w.heap.size, 3, none⟩ = false := blk_frozen Y0.out 3
  have y4 : w2.frozen? ⟨w.heap.size, 4, none⟩ = false := blk_frozen Y0.out 4
  go_wp2_with fail
  refine bodyPost_ret (results_cell_row rfl _ _ w.heap.size 38 #[.int .i64 C.c1, .int .i64 C.c2, .int .i64 C.c3, .int .i64 C.c4, .int .i64 C.c5] (0, 0) _ rfl (blk_put (blk_put (blk_put (blk_put (blk_put Y0.out 0 (.int .i64 C.c1) rfl) 1 (.int .i64 C.c2) rfl) 2 (.int .i64 C.c3) rfl) 3 (.int .i64 C.c4) rfl) 4 (.int .i64 C.c5) rfl) Try.underlying38 rfl (by kernel_rfl)) rfl ?_
  exact ⟨rfl, ((((B.out.setCell (p := ⟨w.heap.size, 0, none⟩) (Nat.le_refl _) _).setCell (p := ⟨w.heap.size, 1, none⟩) (Nat.le_refl _) _).setCell (p := ⟨w.heap.size, 2, none⟩) (Nat.le_refl _) _).setCell (p := ⟨w.heap.size, 3, none⟩) (Nat.le_refl _) _).setCell (p := ⟨w.heap.size, 4, none⟩) (Nat.le_refl _) _⟩
set_option maxHeartbeats 4000000 in
set_option maxRecDepth 100000 in
theorem pnew_T (w : World) : Calls Try.prog 30 #[] w fun e w' => ∃ gp gc gm, e = .returned (.pointer (some ⟨gp, 0, none⟩)) ∧ PlainIs w w' gp gc gm C0 ∧ Below w.heap.size w w' := by
  have hu116 := Try.underlying116
  go_enter Try.func30, Try.ntmps30
  go_wp2_with fail
  refine (cnew_T w).mono ?_
  rintro e w1 ⟨gc, gm, rfl, h1, h2⟩
  have J := Aside0.mk (h1.alloc (.cells #[.pointer (some ⟨gc, 0, none⟩)] 116))
  have B := Aside0.mk (below_alloc h2 (.cells #[.pointer (some ⟨gc, 0, none⟩)] 116))
  have SZ := Aside0.mk h2.size
  clear h1 h2
  go_wp2_with fail
  go_ret
  exact ⟨_, _, _, rfl, ⟨blk_new _ _, J.out, SZ.out⟩, B.out⟩
end Go.Proofs.Ytlpnggapndokeaa.PIdealKeeps

