/-
The accesses of the ideal memory: what they compute.
-/
import Derived.Test.YtlpnggapndokeaaSoul
namespace Go.Proofs.Ytlpnggapndokeaa.PIdealKeeps
open Go Go.RowKit Go.Proofs.YtlpnggapndokeaaW.PrintWords Go.Proofs.YtlpnggapndokeaaW.PrintLast Go.Proofs.YtlpnggapndokeaaW.PrintMore Go.Proofs.Ytlpnggapndokeaa.M
attribute [local go_sem] max2_int min2_int max_two min_two max_three min_three max_four min_four
set_option linter.unusedVariables false
set_option linter.unusedSimpArgs false
theorem ofK_f {kd sl pt id ka kb kc kk : Int} (h : ofK kd sl pt id = (ka, kb, kc, kk)) : ideal_of.f kd sl pt id = some (ka, kb, kc, kk) := by
  rw [← h]
  unfold ofK ideal_of.f place_IsContent.f ideal_content.f place_Of.f
  clear h
  by_cases h1 : kd = 5
  · by_cases h2 : pt ≥ 0
    · by_cases h3 : pt = 1
      · subst h3; simp [h1]
      · by_cases h4 : pt = 2
        · subst h4; simp [h1]
        · rw [if_pos h1, if_pos h2, if_neg h3, if_pos (show kd = 5 ∧ pt ≥ 0 ∧ pt ≠ 1 ∧ pt ≠ 2 from ⟨h1, h2, h3, h4⟩)]
          simp [h4]
    · rw [if_pos h1, if_neg h2, if_neg (fun h => h2 h.2.1)]
      rfl
  · rw [if_neg h1, if_neg (fun h => h1 h.1)]
    rfl
theorem iof_T {kd sl pt id ka kb kc kk : Int} (w : World) (h : ofK kd sl pt id = (ka, kb, kc, kk)) :
    Calls Try.prog 80 #[.agg #[.int .i64 kd, .int .i64 sl, .int .i64 pt, .int .i64 id]] w fun e w' => e = .returned (.agg #[.int .i64 ka, .int .i64 kb, .int .i64 kc, .int .i64 kk]) ∧ Below w.heap.size w w' := ideal_of.calls kd sl pt id ka kb kc kk w (ofK_f h)
def storeA (A : ISt) (k : K4) (x y : Int) : ISt := putA { A with c2 := wrap64 (A.c2 + 1) } k x y
set_option maxHeartbeats 4000000 in
set_option maxRecDepth 100000 in
theorem istore_U (gi g1 g2 gs g3 : Nat) (A : ISt) (akd asl apt aid x y : Int) (st : Bool) (w0 w : World) (hI : IdealIs w0 w gi g1 g2 gs g3 A) (hB : Below w0.heap.size w0 w) :
    Calls Try.prog 16 #[.pointer (some ⟨gi, 0, none⟩), .agg #[.int .i64 akd, .int .i64 asl, .int .i64 apt, .int .i64 aid], .agg #[.int .u64 x, .int .i64 y, .bool st]] w (IPostT w0 w gi g1 g2 gs g3 (storeA A (ofK akd asl apt aid) x y) (.tuple #[])) := by
  have hu103 := Try.underlying103
  have hu25 := Try.underlying25
  have hu28 := Try.underlying28
  have hu38 := Try.underlying38
  obtain ⟨ka, kb, kc, kd, hK⟩ : ∃ a b c d, ofK akd asl apt aid = (a, b, c, d) := ⟨_, _, _, _, rfl⟩
  rw [hK]
  have HK := Aside0.mk hK
  have HB := Aside0.mk hB
  have JI0 := Aside0.mk ((hI.alloc (.cells #[.int .i64 akd, .int .i64 asl, .int .i64 apt, .int .i64 aid] 25)).alloc (.cells #[.int .u64 x, .int .i64 y, .bool st] 28))
  have c4 : ((w.alloc (.cells #[.int .i64 akd, .int .i64 asl, .int .i64 apt, .int .i64 aid] 25)).alloc (.cells #[.int .u64 x, .int .i64 y, .bool st] 28)).cell? ⟨gi, 4, none⟩ = some (.int .i64 A.c2) := (blk_cell JI0.out.blk 4).trans rfl
  have f4 := blk_frozen JI0.out.blk 4
  have JI := Aside0.mk (JI0.out.count 4 (.int .i64 (wrap64 (A.c2 + 1))) { A with c2 := wrap64 (A.c2 + 1) } rfl rfl rfl rfl rfl)
  have NA := Aside0.mk (show w.heap.size ≠ gi from (Nat.ne_of_lt (blk_lt hI.blk)).symm)
  have NV := Aside0.mk (show w.heap.size + 1 ≠ gi by have := blk_lt hI.blk; omega)
  have AB := Aside0.mk (blk_far (p := ⟨gi, 4, none⟩) (blk_alloc (blk_new w (.cells #[.int .i64 akd, .int .i64 asl, .int .i64 apt, .int .i64 aid] 25)) (.cells #[.int .u64 x, .int .i64 y, .bool st] 28)) NA.out (.int .i64 (wrap64 (A.c2 + 1))))
  have VB := Aside0.mk (blk_far (p := ⟨gi, 4, none⟩) (blk_new2 w (.cells #[.int .i64 akd, .int .i64 asl, .int .i64 apt, .int .i64 aid] 25) (.cells #[.int .u64 x, .int .i64 y, .bool st] 28)) NV.out (.int .i64 (wrap64 (A.c2 + 1))))
  have JB := Aside0.mk ((below_alloc (below_alloc HB.out (.cells #[.int .i64 akd, .int .i64 asl, .int .i64 apt, .int .i64 aid] 25)) (.cells #[.int .u64 x, .int .i64 y, .bool st] 28)).setCell (p := ⟨gi, 4, none⟩) hI.b0 (.int .i64 (wrap64 (A.c2 + 1))))
  have JF := Aside0.mk ((((Fr.refl (IdealT gi g1 g2) w).alloc (.cells #[.int .i64 akd, .int .i64 asl, .int .i64 apt, .int .i64 aid] 25)).alloc (.cells #[.int .u64 x, .int .i64 y, .bool st] 28)).set (p := ⟨gi, 4, none⟩) (fun _ => .inl rfl) (.int .i64 (wrap64 (A.c2 + 1))))
  clear hI hB JI0 NA NV hK
  go_enter Try.func16, Try.ntmps16
  go_wp2_with fail
  generalize ((w.alloc (.cells #[.int .i64 akd, .int .i64 asl, .int .i64 apt, .int .i64 aid] 25)).alloc (.cells #[.int .u64 x, .int .i64 y, .bool st] 28)).setCell ⟨gi, 4, none⟩ (.int .i64 (wrap64 (A.c2 + 1))) = w1 at *
  refine start_ (n := 5) (S := fun w' => w'.cell? ⟨w.heap.size, 0, none⟩ = some (.int .i64 akd) ∧ w'.cell? ⟨w.heap.size, 1, none⟩ = some (.int .i64 asl) ∧ w'.cell? ⟨w.heap.size, 2, none⟩ = some (.int .i64 apt) ∧ w'.cell? ⟨w.heap.size, 3, none⟩ = some (.int .i64 aid) ∧ w'.cell? ⟨w.heap.size + 1, 0, none⟩ = some (.int .u64 x) ∧ w'.cell? ⟨w.heap.size + 1, 1, none⟩ = some (.int .i64 y) ∧ w'.cell? ⟨w.heap.size + 1, 2, none⟩ = some (.bool st)) (ds := [4]) #[false, false, false, false, false] (by kernel_rfl) rfl rfl ⟨(blk_cell (blk_drew AB.out) 0).trans rfl, (blk_cell (blk_drew AB.out) 1).trans rfl, (blk_cell (blk_drew AB.out) 2).trans rfl, (blk_cell (blk_drew AB.out) 3).trans rfl, (blk_cell (blk_drew VB.out) 0).trans rfl, (blk_cell (blk_drew VB.out) 1).trans rfl, (blk_cell (blk_drew VB.out) 2).trans rfl⟩ (fun hHeld => ?_)
  refine pure_ (i := 0) (N := some 17) (v := ?_) (a' := ?_) #[true, false, false, false, false] rfl rfl (by kernel_rfl) (fun _ _ _ h => h) (Or.inl ⟨by rfl, ?_⟩) ?_ ?_
  rotate_left
  · intro w'
    go_simp
    with_reducible rfl
  rotate_left
  · simp only [Act.put, List.setIfInBounds_toArray, List.set_cons_zero, List.set_cons_succ, i64_w, i32_w]
    rfl
  refine take_ (i := 1) (N := some 18) (v := ?_) (a' := ?_) #[true, true, false, false, false] rfl rfl (by kernel_rfl) (fun _ _ _ h => h) (Or.inl ⟨by rfl, ?_⟩) hHeld ?_ ?_
  rotate_left
  · rintro w' ⟨s0, s1, s2, s3, s4, s5, s6⟩
    go_simp
    with_reducible rfl
  rotate_left
  · simp only [Act.put, List.setIfInBounds_toArray, List.set_cons_zero, List.set_cons_succ, i64_w, i32_w]
    rfl
  refine take_ (i := 3) (N := some 20) (v := ?_) (a' := ?_) #[true, true, false, true, false] rfl rfl (by kernel_rfl) (fun _ _ _ h => h) (Or.inl ⟨by rfl, ?_⟩) hHeld ?_ ?_
  rotate_left
  · rintro w' ⟨s0, s1, s2, s3, s4, s5, s6⟩
    go_simp
    with_reducible rfl
  rotate_left
  · simp only [Act.put, List.setIfInBounds_toArray, List.set_cons_zero, List.set_cons_succ, i64_w, i32_w]
    rfl
  refine one_ (i := 2) (N := some 19) #[true, true, true, true, false] rfl rfl (by kernel_rfl) (by decide) (fun K hK => ?_)
  refine goes_ Try.func80 (by kernel_rfl) rfl #[Value.agg #[.int .i64 akd, .int .i64 asl, .int .i64 apt, .int .i64 aid]] (by rfl) rfl rfl (by simp only [List.map_toArray, List.map_cons, List.map_nil]; rfl) ?_
  with_reducible refine (iof_T _ HK.out).mono ?_
  rintro e w5 ⟨rfl, hb⟩
  refine ⟨_, rfl, ?_⟩
  have AB2 := Aside0.mk (blk_below (blk_drew AB.out) hb)
  have VB2 := Aside0.mk (blk_below (blk_drew VB.out) hb)
  have JI2 := Aside0.mk (JI.out.drew.below hb)
  have JB2 := Aside0.mk (below_step (below_drew JB.out) hb)
  have JF2 := Aside0.mk (JF.out.drew.below hb)
  clear hb
  refine hK.out _ _ ⟨(blk_cell AB2.out 0).trans rfl, (blk_cell AB2.out 1).trans rfl, (blk_cell AB2.out 2).trans rfl, (blk_cell AB2.out 3).trans rfl, (blk_cell VB2.out 0).trans rfl, (blk_cell VB2.out 1).trans rfl, (blk_cell VB2.out 2).trans rfl⟩ (fun hHeld => ?_)
  clear hK K
  refine norm_ (a' := ?_) ?_ ?_
  rotate_left
  · show Act.put _ (some 19) _ = _
    simp only [Act.put, List.setIfInBounds_toArray, List.set_cons_zero, List.set_cons_succ, i64_w, i32_w]
    rfl
  refine last_ (i := 4) (N := some 21) #[true, true, true, true, true] rfl rfl (by kernel_rfl) (by decide) (fun K hK => ?_)
  refine goes_ Try.func79 (by kernel_rfl) rfl #[.pointer (some ⟨gi, 0, none⟩), Value.agg #[.int .i64 ka, .int .i64 kb, .int .i64 kc, .int .i64 kd], Value.agg #[.int .u64 x, .int .i64 y, .bool st]] (by rfl) rfl rfl (by simp only [List.map_toArray, List.map_cons, List.map_nil]; rfl) ?_
  with_reducible refine (iput_U gi g1 g2 gs g3 _ ka kb kc kd x y st w0 _ JI2.out JB2.out).mono ?_
  rintro e w6 ⟨rfl, h1_, h2_, h3_⟩
  refine ⟨_, rfl, ?_⟩
  have LI := Aside0.mk h1_
  have LB := Aside0.mk h2_
  have LF := Aside0.mk (JF2.out.trans h3_)
  clear h1_ h2_ h3_
  refine hK.out _ _ ?_
  clear hK K
  refine norm_ (a' := ?_) ?_ ?_
  rotate_left
  · show Act.put _ (some 21) _ = _
    simp only [Act.put, List.setIfInBounds_toArray, List.set_cons_zero, List.set_cons_succ, i64_w, i32_w]
    rfl
  refine done_ (by kernel_rfl) ?_
  go_wp2_with fail
  refine bodyPost_end (results_none rfl _ _ _) rfl ?_
  exact ⟨rfl, LI.out, LB.out, LF.out⟩
theorem istoreNil_T (akd asl apt aid x y : Int) (st : Bool) (w : World) :
    Calls Try.prog 16 #[.pointer none, .agg #[.int .i64 akd, .int .i64 asl, .int .i64 apt, .int .i64 aid], .agg #[.int .u64 x, .int .i64 y, .bool st]] w fun e w' => e = .returned (.tuple #[]) ∧ Below w.heap.size w w' := by
  have hu25 := Try.underlying25
  have hu28 := Try.underlying28
  go_enter Try.func16, Try.ntmps16
  go_wp2_with fail
  refine bodyPost_ret (results_none rfl _ _ _) rfl ?_
  exact ⟨rfl, below_alloc (below_alloc (Below.refl _ _) _) _⟩
theorem istore_T (gi g1 g2 gs g3 : Nat) (A : ISt) (akd asl apt aid x y : Int) (st : Bool) (w0 w : World) (hI : IdealIs w0 w gi g1 g2 gs g3 A) (hB : Below w0.heap.size w0 w) :
    Calls Try.prog 16 #[.pointer (some ⟨gi, 0, none⟩), .agg #[.int .i64 akd, .int .i64 asl, .int .i64 apt, .int .i64 aid], .agg #[.int .u64 x, .int .i64 y, .bool st]] w (IPost w0 w gi g1 g2 gs g3 (storeA A (ofK akd asl apt aid) x y) (.tuple #[])) :=
  (istore_U gi g1 g2 gs g3 A akd asl apt aid x y st w0 w hI hB).mono fun _ _ h => h.post
end Go.Proofs.Ytlpnggapndokeaa.PIdealKeeps

namespace Go.Proofs.Ytlpnggapndokeaa.PIdealKeeps
open Go Go.RowKit Go.Proofs.YtlpnggapndokeaaW.PrintWords Go.Proofs.YtlpnggapndokeaaW.PrintLast Go.Proofs.YtlpnggapndokeaaW.PrintMore Go.Proofs.Ytlpnggapndokeaa.M
attribute [local go_sem] max2_int min2_int max_two min_two max_three min_three max_four min_four
set_option linter.unusedVariables false
set_option linter.unusedSimpArgs false
def swapA (A : ISt) (k : K4) (ox x y : Int) : ISt := if (get A.words k).getD 0 = ox then putA { A with c3 := wrap64 (A.c3 + 1) } k x y else { A with c3 := wrap64 (A.c3 + 1), c4 := wrap64 (A.c4 + 1) }
def swapR (A : ISt) (k : K4) (ox : Int) : Bool := decide ((get A.words k).getD 0 = ox)
set_option maxHeartbeats 4000000 in
set_option maxRecDepth 100000 in
theorem iswap_U (gi g1 g2 gs g3 : Nat) (A : ISt) (akd asl apt aid ox oy x y : Int) (ost st : Bool) (w0 w : World) (hI : IdealIs w0 w gi g1 g2 gs g3 A) (hB : Below w0.heap.size w0 w) :
    Calls Try.prog 18 #[.pointer (some ⟨gi, 0, none⟩), .agg #[.int .i64 akd, .int .i64 asl, .int .i64 apt, .int .i64 aid], .agg #[.int .u64 ox, .int .i64 oy, .bool ost], .agg #[.int .u64 x, .int .i64 y, .bool st]] w (IPostT w0 w gi g1 g2 gs g3 (swapA A (ofK akd asl apt aid) ox x y) (.bool (swapR A (ofK akd asl apt aid) ox))) := by
  have hu103 := Try.underlying103
  have hu106 := Try.underlying106
  have hu25 := Try.underlying25
  have hu28 := Try.underlying28
  have hu38 := Try.underlying38
  obtain ⟨ka, kb, kc, kd, hK⟩ : ∃ a b c d, ofK akd asl apt aid = (a, b, c, d) := ⟨_, _, _, _, rfl⟩
  rw [hK]
  have HK := Aside0.mk hK
  have HB := Aside0.mk hB
  have JI0 := Aside0.mk (((hI.alloc (.cells #[.int .i64 akd, .int .i64 asl, .int .i64 apt, .int .i64 aid] 25)).alloc (.cells #[.int .u64 ox, .int .i64 oy, .bool ost] 28)).alloc (.cells #[.int .u64 x, .int .i64 y, .bool st] 28))
  have c_ : (((w.alloc (.cells #[.int .i64 akd, .int .i64 asl, .int .i64 apt, .int .i64 aid] 25)).alloc (.cells #[.int .u64 ox, .int .i64 oy, .bool ost] 28)).alloc (.cells #[.int .u64 x, .int .i64 y, .bool st] 28)).cell? ⟨gi, 5, none⟩ = some (.int .i64 A.c3) := (blk_cell JI0.out.blk 5).trans rfl
  have f_ := blk_frozen JI0.out.blk 5
  have JI := Aside0.mk (JI0.out.count 5 (.int .i64 (wrap64 (A.c3 + 1))) { A with c3 := wrap64 (A.c3 + 1) } rfl rfl rfl rfl rfl)
  have N0 := Aside0.mk (show w.heap.size ≠ gi by have := blk_lt hI.blk; omega)
  have X0 := Aside0.mk (blk_far (p := ⟨gi, 5, none⟩) (blk_alloc (blk_alloc (blk_new w (.cells #[.int .i64 akd, .int .i64 asl, .int .i64 apt, .int .i64 aid] 25)) (.cells #[.int .u64 ox, .int .i64 oy, .bool ost] 28)) (.cells #[.int .u64 x, .int .i64 y, .bool st] 28)) N0.out (.int .i64 (wrap64 (A.c3 + 1))))
  have N1 := Aside0.mk (show w.heap.size + 1 ≠ gi by have := blk_lt hI.blk; omega)
  have X1 := Aside0.mk (blk_far (p := ⟨gi, 5, none⟩) (blk_alloc (blk_new2 w (.cells #[.int .i64 akd, .int .i64 asl, .int .i64 apt, .int .i64 aid] 25) (.cells #[.int .u64 ox, .int .i64 oy, .bool ost] 28)) (.cells #[.int .u64 x, .int .i64 y, .bool st] 28)) N1.out (.int .i64 (wrap64 (A.c3 + 1))))
  have N2 := Aside0.mk (show w.heap.size + 1 + 1 ≠ gi by have := blk_lt hI.blk; omega)
  have X2 := Aside0.mk (blk_far (p := ⟨gi, 5, none⟩) (blk_new3 w (.cells #[.int .i64 akd, .int .i64 asl, .int .i64 apt, .int .i64 aid] 25) (.cells #[.int .u64 ox, .int .i64 oy, .bool ost] 28) (.cells #[.int .u64 x, .int .i64 y, .bool st] 28)) N2.out (.int .i64 (wrap64 (A.c3 + 1))))
  have JB := Aside0.mk ((below_alloc (below_alloc (below_alloc HB.out (.cells #[.int .i64 akd, .int .i64 asl, .int .i64 apt, .int .i64 aid] 25)) (.cells #[.int .u64 ox, .int .i64 oy, .bool ost] 28)) (.cells #[.int .u64 x, .int .i64 y, .bool st] 28)).setCell (p := ⟨gi, 5, none⟩) hI.b0 (.int .i64 (wrap64 (A.c3 + 1))))
  have JF := Aside0.mk (((((Fr.refl (IdealT gi g1 g2) w).alloc (.cells #[.int .i64 akd, .int .i64 asl, .int .i64 apt, .int .i64 aid] 25)).alloc (.cells #[.int .u64 ox, .int .i64 oy, .bool ost] 28)).alloc (.cells #[.int .u64 x, .int .i64 y, .bool st] 28)).set (p := ⟨gi, 5, none⟩) (fun _ => .inl rfl) (.int .i64 (wrap64 (A.c3 + 1))))
  clear hI hB JI0 hK N0 N1 N2
  obtain ⟨cur, hcur⟩ : ∃ c, (get A.words (ka, kb, kc, kd)).getD 0 = c := ⟨_, rfl⟩
  have hk : ∀ W, MapIs eK eU W g1 A.words → (Instr.lookup 100 (.map (some g1)) (.agg #[.int .i64 ka, .int .i64 kb, .int .i64 kc, .int .i64 kd]) false).run Try.prog W = .ok (.int .u64 cur) W := by
    intro W hM
    have := M.look (P := Try.prog) keyK Try.underlying100 0 (zU W) hM (ka, kb, kc, kd)
    rw [hcur] at this
    exact this
  have HL := Aside0.mk hk
  have HC := Aside0.mk hcur
  clear hk hcur
  go_enter Try.func18, Try.ntmps18
  have a0 : ((((w.alloc (.cells #[.int .i64 akd, .int .i64 asl, .int .i64 apt, .int .i64 aid] 25)).alloc (.cells #[.int .u64 ox, .int .i64 oy, .bool ost] 28)).alloc (.cells #[.int .u64 x, .int .i64 y, .bool st] 28)).setCell ⟨gi, 5, none⟩ (.int .i64 (wrap64 (A.c3 + 1)))).cell? ⟨w.heap.size, 0, none⟩ = some (.int .i64 akd) := (blk_cell X0.out 0).trans rfl
  have a1 : ((((w.alloc (.cells #[.int .i64 akd, .int .i64 asl, .int .i64 apt, .int .i64 aid] 25)).alloc (.cells #[.int .u64 ox, .int .i64 oy, .bool ost] 28)).alloc (.cells #[.int .u64 x, .int .i64 y, .bool st] 28)).setCell ⟨gi, 5, none⟩ (.int .i64 (wrap64 (A.c3 + 1)))).cell? ⟨w.heap.size, 1, none⟩ = some (.int .i64 asl) := (blk_cell X0.out 1).trans rfl
  have a2 : ((((w.alloc (.cells #[.int .i64 akd, .int .i64 asl, .int .i64 apt, .int .i64 aid] 25)).alloc (.cells #[.int .u64 ox, .int .i64 oy, .bool ost] 28)).alloc (.cells #[.int .u64 x, .int .i64 y, .bool st] 28)).setCell ⟨gi, 5, none⟩ (.int .i64 (wrap64 (A.c3 + 1)))).cell? ⟨w.heap.size, 2, none⟩ = some (.int .i64 apt) := (blk_cell X0.out 2).trans rfl
  have a3 : ((((w.alloc (.cells #[.int .i64 akd, .int .i64 asl, .int .i64 apt, .int .i64 aid] 25)).alloc (.cells #[.int .u64 ox, .int .i64 oy, .bool ost] 28)).alloc (.cells #[.int .u64 x, .int .i64 y, .bool st] 28)).setCell ⟨gi, 5, none⟩ (.int .i64 (wrap64 (A.c3 + 1)))).cell? ⟨w.heap.size, 3, none⟩ = some (.int .i64 aid) := (blk_cell X0.out 3).trans rfl
  go_wp2_with fail
  generalize (((w.alloc (.cells #[.int .i64 akd, .int .i64 asl, .int .i64 apt, .int .i64 aid] 25)).alloc (.cells #[.int .u64 ox, .int .i64 oy, .bool ost] 28)).alloc (.cells #[.int .u64 x, .int .i64 y, .bool st] 28)).setCell ⟨gi, 5, none⟩ (.int .i64 (wrap64 (A.c3 + 1))) = w1 at *
  refine (iof_T w1 HK.out).mono ?_
  rintro e w5 ⟨rfl, hb⟩
  have KW : Below w5.heap.size w5 (w5.alloc (.cells #[.int .i64 ka, .int .i64 kb, .int .i64 kc, .int .i64 kd] 106)) := below_alloc (Below.refl _ _) _
  have Y0 := Aside0.mk (blk_below (blk_below X0.out hb) KW)
  have Y1 := Aside0.mk (blk_below (blk_below X1.out hb) KW)
  have Y2 := Aside0.mk (blk_below (blk_below X2.out hb) KW)
  have QB := Aside0.mk (blk_new w5 (.cells #[.int .i64 ka, .int .i64 kb, .int .i64 kc, .int .i64 kd] 106))
  have QI := Aside0.mk ((JI.out.below hb).below KW)
  have QJ := Aside0.mk (below_step (below_step JB.out hb) KW)
  have QF := Aside0.mk ((JF.out.below hb).below KW)
  clear hb KW X0 X1 X2 JI JB JF c_ f_ a0 a1 a2 a3
  go_wp2_with fail
  generalize w5.alloc (.cells #[.int .i64 ka, .int .i64 kb, .int .i64 kc, .int .i64 kd] 106) = w6 at *
  generalize w5.heap.size = gk at *
  by_cases hq : cur = ox
  · have t1 : (cur != ox) = false := by rw [hq]; exact bne_self_eq_false _
    have E1 := Aside0.mk (show swapA A (ka, kb, kc, kd) ox x y = putA { A with c3 := wrap64 (A.c3 + 1) } (ka, kb, kc, kd) x y from if_pos (HC.out.trans hq))
    have E2 := Aside0.mk (show swapR A (ka, kb, kc, kd) ox = true from decide_eq_true (HC.out.trans hq))
    clear hq
    refine start_ (n := 9) (S := fun w' => w'.cell? ⟨gi, 0, none⟩ = some (.map (some g1)) ∧ w'.cell? ⟨gk, 0, none⟩ = some (.int .i64 ka) ∧ w'.cell? ⟨gk, 1, none⟩ = some (.int .i64 kb) ∧ w'.cell? ⟨gk, 2, none⟩ = some (.int .i64 kc) ∧ w'.cell? ⟨gk, 3, none⟩ = some (.int .i64 kd) ∧ w'.cell? ⟨w.heap.size + 1, 0, none⟩ = some (.int .u64 ox) ∧ (Instr.lookup 100 (.map (some g1)) (.agg #[.int .i64 ka, .int .i64 kb, .int .i64 kc, .int .i64 kd]) false).run Try.prog w' = .ok (.int .u64 cur) w') (ds := []) #[false, false, false, false, false, false, false, false, false] (by kernel_rfl) rfl rfl ⟨(blk_cell (blk_drew QI.out.blk) 0).trans rfl, (blk_cell (blk_drew QB.out) 0).trans rfl, (blk_cell (blk_drew QB.out) 1).trans rfl, (blk_cell (blk_drew QB.out) 2).trans rfl, (blk_cell (blk_drew QB.out) 3).trans rfl, (blk_cell (blk_drew Y1.out) 0).trans rfl, (HL.out _ QI.out.drew.words)⟩ (fun hHeld => ?_)
    refine pure_ (i := 0) (N := some 23) (v := ?_) (a' := ?_) #[true, false, false, false, false, false, false, false, false] rfl rfl (by kernel_rfl) (fun _ _ _ h => h) (Or.inl ⟨by rfl, ?_⟩) ?_ ?_
    rotate_left
    · intro w'
      go_simp
      with_reducible rfl
    rotate_left
    · simp only [Act.put, List.setIfInBounds_toArray, List.set_cons_zero, List.set_cons_succ, i64_w, i32_w]
      rfl
    refine pure_ (i := 1) (N := some 24) (v := ?_) (a' := ?_) #[true, true, false, false, false, false, false, false, false] rfl rfl (by kernel_rfl) (fun _ _ _ h => h) (Or.inl ⟨by rfl, ?_⟩) ?_ ?_
    rotate_left
    · intro w'
      go_simp
      with_reducible rfl
    rotate_left
    · simp only [Act.put, List.setIfInBounds_toArray, List.set_cons_zero, List.set_cons_succ, i64_w, i32_w]
      rfl
    refine pure_ (i := 2) (N := some 25) (v := ?_) (a' := ?_) #[true, true, true, false, false, false, false, false, false] rfl rfl (by kernel_rfl) (fun _ _ _ h => h) (Or.inl ⟨by rfl, ?_⟩) ?_ ?_
    rotate_left
    · intro w'
      go_simp
      with_reducible rfl
    rotate_left
    · simp only [Act.put, List.setIfInBounds_toArray, List.set_cons_zero, List.set_cons_succ, i64_w, i32_w]
      rfl
    refine pure_ (i := 6) (N := some 29) (v := ?_) (a' := ?_) #[true, true, true, false, false, false, true, false, false] rfl rfl (by kernel_rfl) (fun _ _ _ h => h) (Or.inl ⟨by rfl, ?_⟩) ?_ ?_
    rotate_left
    · intro w'
      go_simp
      with_reducible rfl
    rotate_left
    · simp only [Act.put, List.setIfInBounds_toArray, List.set_cons_zero, List.set_cons_succ, i64_w, i32_w]
      rfl
    refine take_ (i := 3) (N := some 26) (v := ?_) (a' := ?_) #[true, true, true, true, false, false, true, false, false] rfl rfl (by kernel_rfl) (fun _ _ _ h => h) (Or.inl ⟨by rfl, ?_⟩) hHeld ?_ ?_
    rotate_left
    · rintro w' ⟨s0, s1, s2, s3, s4, s5, s6⟩
      go_simp
      with_reducible rfl
    rotate_left
    · simp only [Act.put, List.setIfInBounds_toArray, List.set_cons_zero, List.set_cons_succ, i64_w, i32_w]
      rfl
    refine take_ (i := 4) (N := some 27) (v := ?_) (a' := ?_) #[true, true, true, true, true, false, true, false, false] rfl rfl (by kernel_rfl) (fun _ _ _ h => h) (Or.inl ⟨by rfl, ?_⟩) hHeld ?_ ?_
    rotate_left
    · rintro w' ⟨s0, s1, s2, s3, s4, s5, s6⟩
      go_simp
      with_reducible rfl
    rotate_left
    · simp only [Act.put, List.setIfInBounds_toArray, List.set_cons_zero, List.set_cons_succ, i64_w, i32_w]
      rfl
    refine take_ (i := 5) (N := some 28) (v := ?_) (a' := ?_) #[true, true, true, true, true, true, true, false, false] rfl rfl (by kernel_rfl) (fun _ _ _ h => h) (Or.inl ⟨by rfl, ?_⟩) hHeld ?_ ?_
    rotate_left
    · rintro w' ⟨s0, s1, s2, s3, s4, s5, s6⟩
      go_simp
      with_reducible rfl
    rotate_left
    · simp only [Act.put, List.setIfInBounds_toArray, List.set_cons_zero, List.set_cons_succ, i64_w, i32_w]
      rfl
    refine take_ (i := 7) (N := some 30) (v := ?_) (a' := ?_) #[true, true, true, true, true, true, true, true, false] rfl rfl (by kernel_rfl) (fun _ _ _ h => h) (Or.inl ⟨by rfl, ?_⟩) hHeld ?_ ?_
    rotate_left
    · rintro w' ⟨s0, s1, s2, s3, s4, s5, s6⟩
      go_simp
      with_reducible rfl
    rotate_left
    · simp only [Act.put, List.setIfInBounds_toArray, List.set_cons_zero, List.set_cons_succ, i64_w, i32_w]
      rfl
    refine pure_ (i := 8) (N := some 31) (v := ?_) (a' := ?_) #[true, true, true, true, true, true, true, true, true] rfl rfl (by kernel_rfl) (fun _ _ _ h => h) (Or.inl ⟨by rfl, ?_⟩) ?_ ?_
    rotate_left
    · intro w'
      go_simp
      with_reducible rfl
    rotate_left
    · simp only [Act.put, List.setIfInBounds_toArray, List.set_cons_zero, List.set_cons_succ, i64_w, i32_w]
      rfl
    refine done_ (by kernel_rfl) ?_
    have k0 : w6.drew.cell? ⟨gk, 0, none⟩ = some (.int .i64 ka) := (blk_cell (blk_drew QB.out) 0).trans rfl
    have k1 : w6.drew.cell? ⟨gk, 1, none⟩ = some (.int .i64 kb) := (blk_cell (blk_drew QB.out) 1).trans rfl
    have k2 : w6.drew.cell? ⟨gk, 2, none⟩ = some (.int .i64 kc) := (blk_cell (blk_drew QB.out) 2).trans rfl
    have k3 : w6.drew.cell? ⟨gk, 3, none⟩ = some (.int .i64 kd) := (blk_cell (blk_drew QB.out) 3).trans rfl
    have v0 : w6.drew.cell? ⟨w.heap.size + 1 + 1, 0, none⟩ = some (.int .u64 x) := (blk_cell (blk_drew Y2.out) 0).trans rfl
    have v1 : w6.drew.cell? ⟨w.heap.size + 1 + 1, 1, none⟩ = some (.int .i64 y) := (blk_cell (blk_drew Y2.out) 1).trans rfl
    have v2 : w6.drew.cell? ⟨w.heap.size + 1 + 1, 2, none⟩ = some (.bool st) := (blk_cell (blk_drew Y2.out) 2).trans rfl
    go_wp2_with fail
    refine (iput_U gi g1 g2 gs g3 _ ka kb kc kd x y st w0 _ QI.out.drew (below_drew QJ.out)).mono ?_
    rintro e w7 ⟨rfl, h1, h2, h3⟩
    have R1 := Aside0.mk h1
    have R2 := Aside0.mk h2
    have R3 := Aside0.mk (QF.out.drew.trans h3)
    clear h1 h2 h3
    go_wp2_with fail
    go_ret
    rw [E1.out, E2.out]
    exact ⟨rfl, R1.out, R2.out, R3.out⟩
  · have t1 : (cur != ox) = true := bne_iff_ne.mpr hq
    have E1 := Aside0.mk (show swapA A (ka, kb, kc, kd) ox x y = { A with c3 := wrap64 (A.c3 + 1), c4 := wrap64 (A.c4 + 1) } from if_neg (fun h => hq (HC.out.symm.trans h)))
    have E2 := Aside0.mk (show swapR A (ka, kb, kc, kd) ox = false from decide_eq_false (fun h => hq (HC.out.symm.trans h)))
    clear hq
    refine start_ (n := 9) (S := fun w' => w'.cell? ⟨gi, 0, none⟩ = some (.map (some g1)) ∧ w'.cell? ⟨gk, 0, none⟩ = some (.int .i64 ka) ∧ w'.cell? ⟨gk, 1, none⟩ = some (.int .i64 kb) ∧ w'.cell? ⟨gk, 2, none⟩ = some (.int .i64 kc) ∧ w'.cell? ⟨gk, 3, none⟩ = some (.int .i64 kd) ∧ w'.cell? ⟨w.heap.size + 1, 0, none⟩ = some (.int .u64 ox) ∧ (Instr.lookup 100 (.map (some g1)) (.agg #[.int .i64 ka, .int .i64 kb, .int .i64 kc, .int .i64 kd]) false).run Try.prog w' = .ok (.int .u64 cur) w') (ds := []) #[false, false, false, false, false, false, false, false, false] (by kernel_rfl) rfl rfl ⟨(blk_cell (blk_drew QI.out.blk) 0).trans rfl, (blk_cell (blk_drew QB.out) 0).trans rfl, (blk_cell (blk_drew QB.out) 1).trans rfl, (blk_cell (blk_drew QB.out) 2).trans rfl, (blk_cell (blk_drew QB.out) 3).trans rfl, (blk_cell (blk_drew Y1.out) 0).trans rfl, (HL.out _ QI.out.drew.words)⟩ (fun hHeld => ?_)
    refine pure_ (i := 0) (N := some 23) (v := ?_) (a' := ?_) #[true, false, false, false, false, false, false, false, false] rfl rfl (by kernel_rfl) (fun _ _ _ h => h) (Or.inl ⟨by rfl, ?_⟩) ?_ ?_
    rotate_left
    · intro w'
      go_simp
      with_reducible rfl
    rotate_left
    · simp only [Act.put, List.setIfInBounds_toArray, List.set_cons_zero, List.set_cons_succ, i64_w, i32_w]
      rfl
    refine pure_ (i := 1) (N := some 24) (v := ?_) (a' := ?_) #[true, true, false, false, false, false, false, false, false] rfl rfl (by kernel_rfl) (fun _ _ _ h => h) (Or.inl ⟨by rfl, ?_⟩) ?_ ?_
    rotate_left
    · intro w'
      go_simp
      with_reducible rfl
    rotate_left
    · simp only [Act.put, List.setIfInBounds_toArray, List.set_cons_zero, List.set_cons_succ, i64_w, i32_w]
      rfl
    refine pure_ (i := 2) (N := some 25) (v := ?_) (a' := ?_) #[true, true, true, false, false, false, false, false, false] rfl rfl (by kernel_rfl) (fun _ _ _ h => h) (Or.inl ⟨by rfl, ?_⟩) ?_ ?_
    rotate_left
    · intro w'
      go_simp
      with_reducible rfl
    rotate_left
    · simp only [Act.put, List.setIfInBounds_toArray, List.set_cons_zero, List.set_cons_succ, i64_w, i32_w]
      rfl
    refine pure_ (i := 6) (N := some 29) (v := ?_) (a' := ?_) #[true, true, true, false, false, false, true, false, false] rfl rfl (by kernel_rfl) (fun _ _ _ h => h) (Or.inl ⟨by rfl, ?_⟩) ?_ ?_
    rotate_left
    · intro w'
      go_simp
      with_reducible rfl
    rotate_left
    · simp only [Act.put, List.setIfInBounds_toArray, List.set_cons_zero, List.set_cons_succ, i64_w, i32_w]
      rfl
    refine take_ (i := 3) (N := some 26) (v := ?_) (a' := ?_) #[true, true, true, true, false, false, true, false, false] rfl rfl (by kernel_rfl) (fun _ _ _ h => h) (Or.inl ⟨by rfl, ?_⟩) hHeld ?_ ?_
    rotate_left
    · rintro w' ⟨s0, s1, s2, s3, s4, s5, s6⟩
      go_simp
      with_reducible rfl
    rotate_left
    · simp only [Act.put, List.setIfInBounds_toArray, List.set_cons_zero, List.set_cons_succ, i64_w, i32_w]
      rfl
    refine take_ (i := 4) (N := some 27) (v := ?_) (a' := ?_) #[true, true, true, true, true, false, true, false, false] rfl rfl (by kernel_rfl) (fun _ _ _ h => h) (Or.inl ⟨by rfl, ?_⟩) hHeld ?_ ?_
    rotate_left
    · rintro w' ⟨s0, s1, s2, s3, s4, s5, s6⟩
      go_simp
      with_reducible rfl
    rotate_left
    · simp only [Act.put, List.setIfInBounds_toArray, List.set_cons_zero, List.set_cons_succ, i64_w, i32_w]
      rfl
    refine take_ (i := 5) (N := some 28) (v := ?_) (a' := ?_) #[true, true, true, true, true, true, true, false, false] rfl rfl (by kernel_rfl) (fun _ _ _ h => h) (Or.inl ⟨by rfl, ?_⟩) hHeld ?_ ?_
    rotate_left
    · rintro w' ⟨s0, s1, s2, s3, s4, s5, s6⟩
      go_simp
      with_reducible rfl
    rotate_left
    · simp only [Act.put, List.setIfInBounds_toArray, List.set_cons_zero, List.set_cons_succ, i64_w, i32_w]
      rfl
    refine take_ (i := 7) (N := some 30) (v := ?_) (a' := ?_) #[true, true, true, true, true, true, true, true, false] rfl rfl (by kernel_rfl) (fun _ _ _ h => h) (Or.inl ⟨by rfl, ?_⟩) hHeld ?_ ?_
    rotate_left
    · rintro w' ⟨s0, s1, s2, s3, s4, s5, s6⟩
      go_simp
      with_reducible rfl
    rotate_left
    · simp only [Act.put, List.setIfInBounds_toArray, List.set_cons_zero, List.set_cons_succ, i64_w, i32_w]
      rfl
    refine pure_ (i := 8) (N := some 31) (v := ?_) (a' := ?_) #[true, true, true, true, true, true, true, true, true] rfl rfl (by kernel_rfl) (fun _ _ _ h => h) (Or.inl ⟨by rfl, ?_⟩) ?_ ?_
    rotate_left
    · intro w'
      go_simp
      with_reducible rfl
    rotate_left
    · simp only [Act.put, List.setIfInBounds_toArray, List.set_cons_zero, List.set_cons_succ, i64_w, i32_w]
      rfl
    refine done_ (by kernel_rfl) ?_
    have c6 : w6.drew.cell? ⟨gi, 6, none⟩ = some (.int .i64 A.c4) := (blk_cell (blk_drew QI.out.blk) 6).trans rfl
    have f6 := blk_frozen (blk_drew QI.out.blk) 6
    go_wp2_with fail
    go_ret
    rw [E1.out, E2.out]
    exact ⟨rfl, QI.out.drew.count 6 (.int .i64 (wrap64 (A.c4 + 1))) _ rfl rfl rfl rfl rfl, (below_drew QJ.out).setCell (p := ⟨gi, 6, none⟩) QI.out.b0 _, QF.out.drew.set (p := ⟨gi, 6, none⟩) (fun _ => .inl rfl) _⟩
theorem iswap_T (gi g1 g2 gs g3 : Nat) (A : ISt) (akd asl apt aid ox oy x y : Int) (ost st : Bool) (w0 w : World) (hI : IdealIs w0 w gi g1 g2 gs g3 A) (hB : Below w0.heap.size w0 w) :
    Calls Try.prog 18 #[.pointer (some ⟨gi, 0, none⟩), .agg #[.int .i64 akd, .int .i64 asl, .int .i64 apt, .int .i64 aid], .agg #[.int .u64 ox, .int .i64 oy, .bool ost], .agg #[.int .u64 x, .int .i64 y, .bool st]] w (IPost w0 w gi g1 g2 gs g3 (swapA A (ofK akd asl apt aid) ox x y) (.bool (swapR A (ofK akd asl apt aid) ox))) :=
  (iswap_U gi g1 g2 gs g3 A akd asl apt aid ox oy x y ost st w0 w hI hB).mono fun _ _ h => h.post
end Go.Proofs.Ytlpnggapndokeaa.PIdealKeeps

namespace Go.Proofs.Ytlpnggapndokeaa.PIdealKeeps
open Go Go.RowKit Go.Proofs.YtlpnggapndokeaaW.PrintWords Go.Proofs.YtlpnggapndokeaaW.PrintLast Go.Proofs.YtlpnggapndokeaaW.PrintMore Go.Proofs.Ytlpnggapndokeaa.M
attribute [local go_sem] max2_int min2_int max_two min_two max_three min_three max_four min_four
set_option linter.unusedVariables false
set_option linter.unusedSimpArgs false
def addA (A : ISt) (k : K4) (n : Int) : ISt := { A with words := put A.words k (IntKind.u64.wrap ((get A.words k).getD 0 + n)), c5 := wrap64 (A.c5 + 1) }
set_option maxHeartbeats 4000000 in
set_option maxRecDepth 100000 in
theorem iadd_U (gi g1 g2 gs g3 : Nat) (A : ISt) (akd asl apt aid n : Int) (w0 w : World) (hI : IdealIs w0 w gi g1 g2 gs g3 A) (hB : Below w0.heap.size w0 w) :
    Calls Try.prog 19 #[.pointer (some ⟨gi, 0, none⟩), .agg #[.int .i64 akd, .int .i64 asl, .int .i64 apt, .int .i64 aid], .int .u64 n] w (IPostT w0 w gi g1 g2 gs g3 (addA A (ofK akd asl apt aid) n) (.int .u64 ((get A.words (ofK akd asl apt aid)).getD 0))) := by
  have hu103 := Try.underlying103
  have hu106 := Try.underlying106
  have hu25 := Try.underlying25
  have hu28 := Try.underlying28
  have hu38 := Try.underlying38
  obtain ⟨ka, kb, kc, kd, hK⟩ : ∃ a b c d, ofK akd asl apt aid = (a, b, c, d) := ⟨_, _, _, _, rfl⟩
  rw [hK]
  have HK := Aside0.mk hK
  have HB := Aside0.mk hB
  have JI0 := Aside0.mk (hI.alloc (.cells #[.int .i64 akd, .int .i64 asl, .int .i64 apt, .int .i64 aid] 25))
  have c_ : (w.alloc (.cells #[.int .i64 akd, .int .i64 asl, .int .i64 apt, .int .i64 aid] 25)).cell? ⟨gi, 7, none⟩ = some (.int .i64 A.c5) := (blk_cell JI0.out.blk 7).trans rfl
  have f_ := blk_frozen JI0.out.blk 7
  have JI := Aside0.mk (JI0.out.count 7 (.int .i64 (wrap64 (A.c5 + 1))) { A with c5 := wrap64 (A.c5 + 1) } rfl rfl rfl rfl rfl)
  have N0 := Aside0.mk (show w.heap.size ≠ gi by have := blk_lt hI.blk; omega)
  have X0 := Aside0.mk (blk_far (p := ⟨gi, 7, none⟩) (blk_new w (.cells #[.int .i64 akd, .int .i64 asl, .int .i64 apt, .int .i64 aid] 25)) N0.out (.int .i64 (wrap64 (A.c5 + 1))))
  have JB := Aside0.mk ((below_alloc HB.out (.cells #[.int .i64 akd, .int .i64 asl, .int .i64 apt, .int .i64 aid] 25)).setCell (p := ⟨gi, 7, none⟩) hI.b0 (.int .i64 (wrap64 (A.c5 + 1))))
  have JF := Aside0.mk (((Fr.refl (IdealT gi g1 g2) w).alloc (.cells #[.int .i64 akd, .int .i64 asl, .int .i64 apt, .int .i64 aid] 25)).set (p := ⟨gi, 7, none⟩) (fun _ => .inl rfl) (.int .i64 (wrap64 (A.c5 + 1))))
  clear hI hB JI0 hK N0
  obtain ⟨cur, hcur⟩ : ∃ c, (get A.words (ka, kb, kc, kd)).getD 0 = c := ⟨_, rfl⟩
  have hk : ∀ W, MapIs eK eU W g1 A.words → (Instr.lookup 100 (.map (some g1)) (.agg #[.int .i64 ka, .int .i64 kb, .int .i64 kc, .int .i64 kd]) false).run Try.prog W = .ok (.int .u64 cur) W := by
    intro W hM
    have := M.look (P := Try.prog) keyK Try.underlying100 0 (zU W) hM (ka, kb, kc, kd)
    rw [hcur] at this
    exact this
  have HL := Aside0.mk hk
  have HC := Aside0.mk hcur
  clear hk hcur
  go_enter Try.func19, Try.ntmps19
  have a0 : ((w.alloc (.cells #[.int .i64 akd, .int .i64 asl, .int .i64 apt, .int .i64 aid] 25)).setCell ⟨gi, 7, none⟩ (.int .i64 (wrap64 (A.c5 + 1)))).cell? ⟨w.heap.size, 0, none⟩ = some (.int .i64 akd) := (blk_cell X0.out 0).trans rfl
  have a1 : ((w.alloc (.cells #[.int .i64 akd, .int .i64 asl, .int .i64 apt, .int .i64 aid] 25)).setCell ⟨gi, 7, none⟩ (.int .i64 (wrap64 (A.c5 + 1)))).cell? ⟨w.heap.size, 1, none⟩ = some (.int .i64 asl) := (blk_cell X0.out 1).trans rfl
  have a2 : ((w.alloc (.cells #[.int .i64 akd, .int .i64 asl, .int .i64 apt, .int .i64 aid] 25)).setCell ⟨gi, 7, none⟩ (.int .i64 (wrap64 (A.c5 + 1)))).cell? ⟨w.heap.size, 2, none⟩ = some (.int .i64 apt) := (blk_cell X0.out 2).trans rfl
  have a3 : ((w.alloc (.cells #[.int .i64 akd, .int .i64 asl, .int .i64 apt, .int .i64 aid] 25)).setCell ⟨gi, 7, none⟩ (.int .i64 (wrap64 (A.c5 + 1)))).cell? ⟨w.heap.size, 3, none⟩ = some (.int .i64 aid) := (blk_cell X0.out 3).trans rfl
  go_wp2_with fail
  generalize (w.alloc (.cells #[.int .i64 akd, .int .i64 asl, .int .i64 apt, .int .i64 aid] 25)).setCell ⟨gi, 7, none⟩ (.int .i64 (wrap64 (A.c5 + 1))) = w1 at *
  refine (iof_T w1 HK.out).mono ?_
  rintro e w5 ⟨rfl, hb⟩
  have KW : Below w5.heap.size w5 (w5.alloc (.cells #[.int .i64 ka, .int .i64 kb, .int .i64 kc, .int .i64 kd] 106)) := below_alloc (Below.refl _ _) _
  have Y0 := Aside0.mk (blk_below (blk_below X0.out hb) KW)
  have QB := Aside0.mk (blk_new w5 (.cells #[.int .i64 ka, .int .i64 kb, .int .i64 kc, .int .i64 kd] 106))
  have QI := Aside0.mk ((JI.out.below hb).below KW)
  have QJ := Aside0.mk (below_step (below_step JB.out hb) KW)
  have QF := Aside0.mk ((JF.out.below hb).below KW)
  clear hb KW X0 JI JB JF c_ f_ a0 a1 a2 a3
  go_wp2_with fail
  generalize w5.alloc (.cells #[.int .i64 ka, .int .i64 kb, .int .i64 kc, .int .i64 kd] 106) = w6 at *
  generalize w5.heap.size = gk at *
  refine start_ (n := 7) (S := fun w' => w'.cell? ⟨gi, 0, none⟩ = some (.map (some g1)) ∧ w'.cell? ⟨gk, 0, none⟩ = some (.int .i64 ka) ∧ w'.cell? ⟨gk, 1, none⟩ = some (.int .i64 kb) ∧ w'.cell? ⟨gk, 2, none⟩ = some (.int .i64 kc) ∧ w'.cell? ⟨gk, 3, none⟩ = some (.int .i64 kd) ∧ (Instr.lookup 100 (.map (some g1)) (.agg #[.int .i64 ka, .int .i64 kb, .int .i64 kc, .int .i64 kd]) false).run Try.prog w' = .ok (.int .u64 cur) w') (ds := []) #[false, false, false, false, false, false, false] (by kernel_rfl) rfl rfl ⟨(blk_cell (blk_drew QI.out.blk) 0).trans rfl, (blk_cell (blk_drew QB.out) 0).trans rfl, (blk_cell (blk_drew QB.out) 1).trans rfl, (blk_cell (blk_drew QB.out) 2).trans rfl, (blk_cell (blk_drew QB.out) 3).trans rfl, (HL.out _ QI.out.drew.words)⟩ (fun hHeld => ?_)
  refine pure_ (i := 0) (N := some 22) (v := ?_) (a' := ?_) #[true, false, false, false, false, false, false] rfl rfl (by kernel_rfl) (fun _ _ _ h => h) (Or.inl ⟨by rfl, ?_⟩) ?_ ?_
  rotate_left
  · intro w'
    go_simp
    with_reducible rfl
  rotate_left
  · simp only [Act.put, List.setIfInBounds_toArray, List.set_cons_zero, List.set_cons_succ, i64_w, i32_w]
    rfl
  refine pure_ (i := 1) (N := some 23) (v := ?_) (a' := ?_) #[true, true, false, false, false, false, false] rfl rfl (by kernel_rfl) (fun _ _ _ h => h) (Or.inl ⟨by rfl, ?_⟩) ?_ ?_
  rotate_left
  · intro w'
    go_simp
    with_reducible rfl
  rotate_left
  · simp only [Act.put, List.setIfInBounds_toArray, List.set_cons_zero, List.set_cons_succ, i64_w, i32_w]
    rfl
  refine pure_ (i := 2) (N := some 24) (v := ?_) (a' := ?_) #[true, true, true, false, false, false, false] rfl rfl (by kernel_rfl) (fun _ _ _ h => h) (Or.inl ⟨by rfl, ?_⟩) ?_ ?_
  rotate_left
  · intro w'
    go_simp
    with_reducible rfl
  rotate_left
  · simp only [Act.put, List.setIfInBounds_toArray, List.set_cons_zero, List.set_cons_succ, i64_w, i32_w]
    rfl
  refine take_ (i := 3) (N := some 25) (v := ?_) (a' := ?_) #[true, true, true, true, false, false, false] rfl rfl (by kernel_rfl) (fun _ _ _ h => h) (Or.inl ⟨by rfl, ?_⟩) hHeld ?_ ?_
  rotate_left
  · rintro w' ⟨s0, s1, s2, s3, s4, s5⟩
    go_simp
    with_reducible rfl
  rotate_left
  · simp only [Act.put, List.setIfInBounds_toArray, List.set_cons_zero, List.set_cons_succ, i64_w, i32_w]
    rfl
  refine take_ (i := 4) (N := some 26) (v := ?_) (a' := ?_) #[true, true, true, true, true, false, false] rfl rfl (by kernel_rfl) (fun _ _ _ h => h) (Or.inl ⟨by rfl, ?_⟩) hHeld ?_ ?_
  rotate_left
  · rintro w' ⟨s0, s1, s2, s3, s4, s5⟩
    go_simp
    with_reducible rfl
  rotate_left
  · simp only [Act.put, List.setIfInBounds_toArray, List.set_cons_zero, List.set_cons_succ, i64_w, i32_w]
    rfl
  refine take_ (i := 5) (N := some 27) (v := ?_) (a' := ?_) #[true, true, true, true, true, true, false] rfl rfl (by kernel_rfl) (fun _ _ _ h => h) (Or.inl ⟨by rfl, ?_⟩) hHeld ?_ ?_
  rotate_left
  · rintro w' ⟨s0, s1, s2, s3, s4, s5⟩
    go_simp
    with_reducible rfl
  rotate_left
  · simp only [Act.put, List.setIfInBounds_toArray, List.set_cons_zero, List.set_cons_succ, i64_w, i32_w]
    rfl
  refine pure_ (i := 6) (N := some 8) (v := ?_) (a' := ?_) #[true, true, true, true, true, true, true] rfl rfl (by kernel_rfl) (fun _ _ _ h => h) (Or.inl ⟨by rfl, ?_⟩) ?_ ?_
  rotate_left
  · intro w'
    go_simp
    with_reducible rfl
  rotate_left
  · simp only [Act.put, List.setIfInBounds_toArray, List.set_cons_zero, List.set_cons_succ, i64_w, i32_w]
    rfl
  refine done_ (by kernel_rfl) ?_
  go_wp2_with fail
  obtain ⟨w8, hu, hm2, o2, e2⟩ := M.upd (P := Try.prog) keyK Try.underlying100 QI.out.drew.drew.words (ka, kb, kc, kd) (IntKind.u64.wrap (cur + n))
  have HM2 := Aside0.mk hm2
  have HE2 := Aside0.mk e2
  clear hm2 e2
  replace hu : (Instr.mapUpdate 100 (.map (some g1)) (.agg #[.int .i64 ka, .int .i64 kb, .int .i64 kc, .int .i64 kd]) (.int .u64 (IntKind.u64.wrap (cur + n)))).run Try.prog w6.drew.drew = .ok () w8 := hu
  refine start_ (n := 9) (S := fun w' => w'.cell? ⟨gi, 0, none⟩ = some (.map (some g1)) ∧ w'.cell? ⟨gk, 0, none⟩ = some (.int .i64 ka) ∧ w'.cell? ⟨gk, 1, none⟩ = some (.int .i64 kb) ∧ w'.cell? ⟨gk, 2, none⟩ = some (.int .i64 kc) ∧ w'.cell? ⟨gk, 3, none⟩ = some (.int .i64 kd)) (ds := [8]) #[false, false, false, false, false, false, false, false, false] (by kernel_rfl) rfl rfl ⟨(blk_cell (blk_drew (blk_drew QI.out.blk)) 0).trans rfl, (blk_cell (blk_drew (blk_drew QB.out)) 0).trans rfl, (blk_cell (blk_drew (blk_drew QB.out)) 1).trans rfl, (blk_cell (blk_drew (blk_drew QB.out)) 2).trans rfl, (blk_cell (blk_drew (blk_drew QB.out)) 3).trans rfl⟩ (fun hHeld => ?_)
  refine pure_ (i := 0) (N := some 28) (v := ?_) (a' := ?_) #[true, false, false, false, false, false, false, false, false] rfl rfl (by kernel_rfl) (fun _ _ _ h => h) (Or.inl ⟨by rfl, ?_⟩) ?_ ?_
  rotate_left
  · intro w'
    go_simp
    with_reducible rfl
  rotate_left
  · simp only [Act.put, List.setIfInBounds_toArray, List.set_cons_zero, List.set_cons_succ, i64_w, i32_w]
    rfl
  refine pure_ (i := 1) (N := some 29) (v := ?_) (a' := ?_) #[true, true, false, false, false, false, false, false, false] rfl rfl (by kernel_rfl) (fun _ _ _ h => h) (Or.inl ⟨by rfl, ?_⟩) ?_ ?_
  rotate_left
  · intro w'
    go_simp
    with_reducible rfl
  rotate_left
  · simp only [Act.put, List.setIfInBounds_toArray, List.set_cons_zero, List.set_cons_succ, i64_w, i32_w]
    rfl
  refine pure_ (i := 2) (N := some 30) (v := ?_) (a' := ?_) #[true, true, true, false, false, false, false, false, false] rfl rfl (by kernel_rfl) (fun _ _ _ h => h) (Or.inl ⟨by rfl, ?_⟩) ?_ ?_
  rotate_left
  · intro w'
    go_simp
    with_reducible rfl
  rotate_left
  · simp only [Act.put, List.setIfInBounds_toArray, List.set_cons_zero, List.set_cons_succ, i64_w, i32_w]
    rfl
  refine pure_ (i := 5) (N := some 33) (v := ?_) (a' := ?_) #[true, true, true, false, false, true, false, false, false] rfl rfl (by kernel_rfl) (fun _ _ _ h => h) (Or.inl ⟨by rfl, ?_⟩) ?_ ?_
  rotate_left
  · intro w'
    go_simp
    with_reducible rfl
  rotate_left
  · simp only [Act.put, List.setIfInBounds_toArray, List.set_cons_zero, List.set_cons_succ, i64_w, i32_w]
    rfl
  refine pure_ (i := 6) (N := some 34) (v := ?_) (a' := ?_) #[true, true, true, false, false, true, true, false, false] rfl rfl (by kernel_rfl) (fun _ _ _ h => h) (Or.inl ⟨by rfl, ?_⟩) ?_ ?_
  rotate_left
  · intro w'
    go_simp
    with_reducible rfl
  rotate_left
  · simp only [Act.put, List.setIfInBounds_toArray, List.set_cons_zero, List.set_cons_succ, i64_w, i32_w]
    rfl
  refine pure_ (i := 7) (N := some 35) (v := ?_) (a' := ?_) #[true, true, true, false, false, true, true, true, false] rfl rfl (by kernel_rfl) (fun _ _ _ h => h) (Or.inl ⟨by rfl, ?_⟩) ?_ ?_
  rotate_left
  · intro w'
    go_simp
    with_reducible rfl
  rotate_left
  · simp only [Act.put, List.setIfInBounds_toArray, List.set_cons_zero, List.set_cons_succ, i64_w, i32_w]
    rfl
  refine take_ (i := 3) (N := some 31) (v := ?_) (a' := ?_) #[true, true, true, true, false, true, true, true, false] rfl rfl (by kernel_rfl) (fun _ _ _ h => h) (Or.inl ⟨by rfl, ?_⟩) hHeld ?_ ?_
  rotate_left
  · rintro w' ⟨s0, s1, s2, s3, s4⟩
    go_simp
    with_reducible rfl
  rotate_left
  · simp only [Act.put, List.setIfInBounds_toArray, List.set_cons_zero, List.set_cons_succ, i64_w, i32_w]
    rfl
  refine take_ (i := 4) (N := some 32) (v := ?_) (a' := ?_) #[true, true, true, true, true, true, true, true, false] rfl rfl (by kernel_rfl) (fun _ _ _ h => h) (Or.inl ⟨by rfl, ?_⟩) hHeld ?_ ?_
  rotate_left
  · rintro w' ⟨s0, s1, s2, s3, s4⟩
    go_simp
    with_reducible rfl
  rotate_left
  · simp only [Act.put, List.setIfInBounds_toArray, List.set_cons_zero, List.set_cons_succ, i64_w, i32_w]
    rfl
  refine last_ (i := 8) (N := none) #[true, true, true, true, true, true, true, true, true] rfl rfl (by kernel_rfl) (by decide) (fun K hK => ?_)
  refine skip_ (w1 := ?_) (by rfl) rfl ?_ ?_
  rotate_left
  · go_simp
    rfl
  refine hK.out _ _ ?_
  clear hK K
  refine done_ (by kernel_rfl) ?_
  go_wp2_with fail
  have e2 := HE2.out
  subst e2
  go_ret
  have hA : addA A (ka, kb, kc, kd) n = { { A with c5 := wrap64 (A.c5 + 1) } with words := put A.words (ka, kb, kc, kd) (IntKind.u64.wrap (cur + n)) } := by rw [← HC.out]; rfl
  rw [hA]
  refine ⟨by rw [HC.out]; rfl, QI.out.drew.drew.word HM2.out, setB_below (below_drew (below_drew QJ.out)) QI.out.b1 o2, QF.out.drew.drew.setBk (fun _ => .inr (.inl rfl)) o2⟩
theorem iadd_T (gi g1 g2 gs g3 : Nat) (A : ISt) (akd asl apt aid n : Int) (w0 w : World) (hI : IdealIs w0 w gi g1 g2 gs g3 A) (hB : Below w0.heap.size w0 w) :
    Calls Try.prog 19 #[.pointer (some ⟨gi, 0, none⟩), .agg #[.int .i64 akd, .int .i64 asl, .int .i64 apt, .int .i64 aid], .int .u64 n] w (IPost w0 w gi g1 g2 gs g3 (addA A (ofK akd asl apt aid) n) (.int .u64 ((get A.words (ofK akd asl apt aid)).getD 0))) :=
  (iadd_U gi g1 g2 gs g3 A akd asl apt aid n w0 w hI hB).mono fun _ _ h => h.post
end Go.Proofs.Ytlpnggapndokeaa.PIdealKeeps

namespace Go.Proofs.Ytlpnggapndokeaa.PIdealKeeps
open Go Go.RowKit Go.Proofs.YtlpnggapndokeaaW.PrintWords Go.Proofs.YtlpnggapndokeaaW.PrintLast Go.Proofs.YtlpnggapndokeaaW.PrintMore Go.Proofs.Ytlpnggapndokeaa.M
attribute [local go_sem] max2_int min2_int max_two min_two max_three min_three max_four min_four
set_option linter.unusedVariables false
set_option linter.unusedSimpArgs false
def loadA (A : ISt) : ISt := { A with c1 := wrap64 (A.c1 + 1) }
set_option maxHeartbeats 4000000 in
set_option maxRecDepth 100000 in
theorem iload_U (gi g1 g2 gs g3 : Nat) (A : ISt) (akd asl apt aid  : Int) (w0 w : World) (hI : IdealIs w0 w gi g1 g2 gs g3 A) (hB : Below w0.heap.size w0 w) :
    Calls Try.prog 17 #[.pointer (some ⟨gi, 0, none⟩), .agg #[.int .i64 akd, .int .i64 asl, .int .i64 apt, .int .i64 aid]] w (IPostT w0 w gi g1 g2 gs g3 (loadA A) (.agg #[.int .u64 ((get A.words (ofK akd asl apt aid)).getD 0), .int .i64 ((get A.leads (ofK akd asl apt aid)).getD 0), .bool false])) := by
  have hu103 := Try.underlying103
  have hu106 := Try.underlying106
  have hu25 := Try.underlying25
  have hu28 := Try.underlying28
  have hu38 := Try.underlying38
  obtain ⟨ka, kb, kc, kd, hK⟩ : ∃ a b c d, ofK akd asl apt aid = (a, b, c, d) := ⟨_, _, _, _, rfl⟩
  rw [hK]
  have HK := Aside0.mk hK
  have HB := Aside0.mk hB
  have JI0 := Aside0.mk ((hI.alloc (.cells #[.int .i64 akd, .int .i64 asl, .int .i64 apt, .int .i64 aid] 25)).alloc (.cells #[.int .u64 0, .int .i64 0, .bool false] 28))
  have c_ : ((w.alloc (.cells #[.int .i64 akd, .int .i64 asl, .int .i64 apt, .int .i64 aid] 25)).alloc (.cells #[.int .u64 0, .int .i64 0, .bool false] 28)).cell? ⟨gi, 3, none⟩ = some (.int .i64 A.c1) := (blk_cell JI0.out.blk 3).trans rfl
  have f_ := blk_frozen JI0.out.blk 3
  have JI := Aside0.mk (JI0.out.count 3 (.int .i64 (wrap64 (A.c1 + 1))) { A with c1 := wrap64 (A.c1 + 1) } rfl rfl rfl rfl rfl)
  have N0 := Aside0.mk (show w.heap.size ≠ gi by have := blk_lt hI.blk; omega)
  have X0 := Aside0.mk (blk_far (p := ⟨gi, 3, none⟩) (blk_alloc (blk_new w (.cells #[.int .i64 akd, .int .i64 asl, .int .i64 apt, .int .i64 aid] 25)) (.cells #[.int .u64 0, .int .i64 0, .bool false] 28)) N0.out (.int .i64 (wrap64 (A.c1 + 1))))
  have N1 := Aside0.mk (show w.heap.size + 1 ≠ gi by have := blk_lt hI.blk; omega)
  have X1 := Aside0.mk (blk_far (p := ⟨gi, 3, none⟩) (blk_new2 w (.cells #[.int .i64 akd, .int .i64 asl, .int .i64 apt, .int .i64 aid] 25) (.cells #[.int .u64 0, .int .i64 0, .bool false] 28)) N1.out (.int .i64 (wrap64 (A.c1 + 1))))
  have JB := Aside0.mk ((below_alloc (below_alloc HB.out (.cells #[.int .i64 akd, .int .i64 asl, .int .i64 apt, .int .i64 aid] 25)) (.cells #[.int .u64 0, .int .i64 0, .bool false] 28)).setCell (p := ⟨gi, 3, none⟩) hI.b0 (.int .i64 (wrap64 (A.c1 + 1))))
  have JF := Aside0.mk ((((Fr.refl (IdealT gi g1 g2) w).alloc (.cells #[.int .i64 akd, .int .i64 asl, .int .i64 apt, .int .i64 aid] 25)).alloc (.cells #[.int .u64 0, .int .i64 0, .bool false] 28)).set (p := ⟨gi, 3, none⟩) (fun _ => .inl rfl) (.int .i64 (wrap64 (A.c1 + 1))))
  clear hI hB JI0 hK N0 N1
  obtain ⟨cur, hcur⟩ : ∃ c, (get A.words (ka, kb, kc, kd)).getD 0 = c := ⟨_, rfl⟩
  have hk : ∀ W, MapIs eK eU W g1 A.words → (Instr.lookup 100 (.map (some g1)) (.agg #[.int .i64 ka, .int .i64 kb, .int .i64 kc, .int .i64 kd]) false).run Try.prog W = .ok (.int .u64 cur) W := by
    intro W hM
    have := M.look (P := Try.prog) keyK Try.underlying100 0 (zU W) hM (ka, kb, kc, kd)
    rw [hcur] at this
    exact this
  obtain ⟨ld, hld⟩ : ∃ c, (get A.leads (ka, kb, kc, kd)).getD 0 = c := ⟨_, rfl⟩
  have hk2 : ∀ W, MapIs eK eI W g2 A.leads → (Instr.lookup 101 (.map (some g2)) (.agg #[.int .i64 ka, .int .i64 kb, .int .i64 kc, .int .i64 kd]) false).run Try.prog W = .ok (.int .i64 ld) W := by
    intro W hM
    have := M.look (P := Try.prog) keyK Try.underlying101 0 (zI W) hM (ka, kb, kc, kd)
    rw [hld] at this
    exact this
  rw [hcur, hld]
  have HL := Aside0.mk hk
  have HL2 := Aside0.mk hk2
  clear hk hcur hk2 hld
  go_enter Try.func17, Try.ntmps17
  have a0 : (((w.alloc (.cells #[.int .i64 akd, .int .i64 asl, .int .i64 apt, .int .i64 aid] 25)).alloc (.cells #[.int .u64 0, .int .i64 0, .bool false] 28)).setCell ⟨gi, 3, none⟩ (.int .i64 (wrap64 (A.c1 + 1)))).cell? ⟨w.heap.size, 0, none⟩ = some (.int .i64 akd) := (blk_cell X0.out 0).trans rfl
  have a1 : (((w.alloc (.cells #[.int .i64 akd, .int .i64 asl, .int .i64 apt, .int .i64 aid] 25)).alloc (.cells #[.int .u64 0, .int .i64 0, .bool false] 28)).setCell ⟨gi, 3, none⟩ (.int .i64 (wrap64 (A.c1 + 1)))).cell? ⟨w.heap.size, 1, none⟩ = some (.int .i64 asl) := (blk_cell X0.out 1).trans rfl
  have a2 : (((w.alloc (.cells #[.int .i64 akd, .int .i64 asl, .int .i64 apt, .int .i64 aid] 25)).alloc (.cells #[.int .u64 0, .int .i64 0, .bool false] 28)).setCell ⟨gi, 3, none⟩ (.int .i64 (wrap64 (A.c1 + 1)))).cell? ⟨w.heap.size, 2, none⟩ = some (.int .i64 apt) := (blk_cell X0.out 2).trans rfl
  have a3 : (((w.alloc (.cells #[.int .i64 akd, .int .i64 asl, .int .i64 apt, .int .i64 aid] 25)).alloc (.cells #[.int .u64 0, .int .i64 0, .bool false] 28)).setCell ⟨gi, 3, none⟩ (.int .i64 (wrap64 (A.c1 + 1)))).cell? ⟨w.heap.size, 3, none⟩ = some (.int .i64 aid) := (blk_cell X0.out 3).trans rfl
  go_wp2_with fail
  generalize ((w.alloc (.cells #[.int .i64 akd, .int .i64 asl, .int .i64 apt, .int .i64 aid] 25)).alloc (.cells #[.int .u64 0, .int .i64 0, .bool false] 28)).setCell ⟨gi, 3, none⟩ (.int .i64 (wrap64 (A.c1 + 1))) = w1 at *
  refine (iof_T w1 HK.out).mono ?_
  rintro e w5 ⟨rfl, hb⟩
  have KW : Below w5.heap.size w5 (w5.alloc (.cells #[.int .i64 ka, .int .i64 kb, .int .i64 kc, .int .i64 kd] 106)) := below_alloc (Below.refl _ _) _
  have Y0 := Aside0.mk (blk_below (blk_below X0.out hb) KW)
  have Y1 := Aside0.mk (blk_below (blk_below X1.out hb) KW)
  have QB := Aside0.mk (blk_new w5 (.cells #[.int .i64 ka, .int .i64 kb, .int .i64 kc, .int .i64 kd] 106))
  have QI := Aside0.mk ((JI.out.below hb).below KW)
  have QJ := Aside0.mk (below_step (below_step JB.out hb) KW)
  have QF := Aside0.mk ((JF.out.below hb).below KW)
  clear hb KW X0 X1 JI JB JF c_ f_ a0 a1 a2 a3
  go_wp2_with fail
  generalize w5.alloc (.cells #[.int .i64 ka, .int .i64 kb, .int .i64 kc, .int .i64 kd] 106) = w6 at *
  generalize w5.heap.size = gk at *
  refine start_ (n := 14) (S := fun w' => w'.cell? ⟨gi, 0, none⟩ = some (.map (some g1)) ∧ w'.cell? ⟨gi, 1, none⟩ = some (.map (some g2)) ∧ w'.cell? ⟨gk, 0, none⟩ = some (.int .i64 ka) ∧ w'.cell? ⟨gk, 1, none⟩ = some (.int .i64 kb) ∧ w'.cell? ⟨gk, 2, none⟩ = some (.int .i64 kc) ∧ w'.cell? ⟨gk, 3, none⟩ = some (.int .i64 kd) ∧ (Instr.lookup 100 (.map (some g1)) (.agg #[.int .i64 ka, .int .i64 kb, .int .i64 kc, .int .i64 kd]) false).run Try.prog w' = .ok (.int .u64 cur) w' ∧ (Instr.lookup 101 (.map (some g2)) (.agg #[.int .i64 ka, .int .i64 kb, .int .i64 kc, .int .i64 kd]) false).run Try.prog w' = .ok (.int .i64 ld) w') (ds := [13]) #[false, false, false, false, false, false, false, false, false, false, false, false, false, false] (by kernel_rfl) rfl rfl ⟨(blk_cell (blk_drew QI.out.blk) 0).trans rfl, (blk_cell (blk_drew QI.out.blk) 1).trans rfl, (blk_cell (blk_drew QB.out) 0).trans rfl, (blk_cell (blk_drew QB.out) 1).trans rfl, (blk_cell (blk_drew QB.out) 2).trans rfl, (blk_cell (blk_drew QB.out) 3).trans rfl, (HL.out _ QI.out.drew.words), (HL2.out _ QI.out.drew.leads)⟩ (fun hHeld => ?_)
  refine pure_ (i := 0) (N := some 20) (v := ?_) (a' := ?_) #[true, false, false, false, false, false, false, false, false, false, false, false, false, false] rfl rfl (by kernel_rfl) (fun _ _ _ h => h) (Or.inl ⟨by rfl, ?_⟩) ?_ ?_
  rotate_left
  · intro w'
    go_simp
    with_reducible rfl
  rotate_left
  · simp only [Act.put, List.setIfInBounds_toArray, List.set_cons_zero, List.set_cons_succ, i64_w, i32_w]
    rfl
  refine pure_ (i := 1) (N := some 21) (v := ?_) (a' := ?_) #[true, true, false, false, false, false, false, false, false, false, false, false, false, false] rfl rfl (by kernel_rfl) (fun _ _ _ h => h) (Or.inl ⟨by rfl, ?_⟩) ?_ ?_
  rotate_left
  · intro w'
    go_simp
    with_reducible rfl
  rotate_left
  · simp only [Act.put, List.setIfInBounds_toArray, List.set_cons_zero, List.set_cons_succ, i64_w, i32_w]
    rfl
  refine pure_ (i := 2) (N := some 22) (v := ?_) (a' := ?_) #[true, true, true, false, false, false, false, false, false, false, false, false, false, false] rfl rfl (by kernel_rfl) (fun _ _ _ h => h) (Or.inl ⟨by rfl, ?_⟩) ?_ ?_
  rotate_left
  · intro w'
    go_simp
    with_reducible rfl
  rotate_left
  · simp only [Act.put, List.setIfInBounds_toArray, List.set_cons_zero, List.set_cons_succ, i64_w, i32_w]
    rfl
  refine pure_ (i := 6) (N := some 26) (v := ?_) (a' := ?_) #[true, true, true, false, false, false, true, false, false, false, false, false, false, false] rfl rfl (by kernel_rfl) (fun _ _ _ h => h) (Or.inl ⟨by rfl, ?_⟩) ?_ ?_
  rotate_left
  · intro w'
    go_simp
    with_reducible rfl
  rotate_left
  · simp only [Act.put, List.setIfInBounds_toArray, List.set_cons_zero, List.set_cons_succ, i64_w, i32_w]
    rfl
  refine pure_ (i := 7) (N := some 27) (v := ?_) (a' := ?_) #[true, true, true, false, false, false, true, true, false, false, false, false, false, false] rfl rfl (by kernel_rfl) (fun _ _ _ h => h) (Or.inl ⟨by rfl, ?_⟩) ?_ ?_
  rotate_left
  · intro w'
    go_simp
    with_reducible rfl
  rotate_left
  · simp only [Act.put, List.setIfInBounds_toArray, List.set_cons_zero, List.set_cons_succ, i64_w, i32_w]
    rfl
  refine pure_ (i := 8) (N := some 28) (v := ?_) (a' := ?_) #[true, true, true, false, false, false, true, true, true, false, false, false, false, false] rfl rfl (by kernel_rfl) (fun _ _ _ h => h) (Or.inl ⟨by rfl, ?_⟩) ?_ ?_
  rotate_left
  · intro w'
    go_simp
    with_reducible rfl
  rotate_left
  · simp only [Act.put, List.setIfInBounds_toArray, List.set_cons_zero, List.set_cons_succ, i64_w, i32_w]
    rfl
  refine take_ (i := 3) (N := some 23) (v := ?_) (a' := ?_) #[true, true, true, true, false, false, true, true, true, false, false, false, false, false] rfl rfl (by kernel_rfl) (fun _ _ _ h => h) (Or.inl ⟨by rfl, ?_⟩) hHeld ?_ ?_
  rotate_left
  · rintro w' ⟨s0, s1, s2, s3, s4, s5, s6, s7⟩
    go_simp
    with_reducible rfl
  rotate_left
  · simp only [Act.put, List.setIfInBounds_toArray, List.set_cons_zero, List.set_cons_succ, i64_w, i32_w]
    rfl
  refine take_ (i := 4) (N := some 24) (v := ?_) (a' := ?_) #[true, true, true, true, true, false, true, true, true, false, false, false, false, false] rfl rfl (by kernel_rfl) (fun _ _ _ h => h) (Or.inl ⟨by rfl, ?_⟩) hHeld ?_ ?_
  rotate_left
  · rintro w' ⟨s0, s1, s2, s3, s4, s5, s6, s7⟩
    go_simp
    with_reducible rfl
  rotate_left
  · simp only [Act.put, List.setIfInBounds_toArray, List.set_cons_zero, List.set_cons_succ, i64_w, i32_w]
    rfl
  refine take_ (i := 5) (N := some 25) (v := ?_) (a' := ?_) #[true, true, true, true, true, true, true, true, true, false, false, false, false, false] rfl rfl (by kernel_rfl) (fun _ _ _ h => h) (Or.inl ⟨by rfl, ?_⟩) hHeld ?_ ?_
  rotate_left
  · rintro w' ⟨s0, s1, s2, s3, s4, s5, s6, s7⟩
    go_simp
    with_reducible rfl
  rotate_left
  · simp only [Act.put, List.setIfInBounds_toArray, List.set_cons_zero, List.set_cons_succ, i64_w, i32_w]
    rfl
  refine take_ (i := 9) (N := some 29) (v := ?_) (a' := ?_) #[true, true, true, true, true, true, true, true, true, true, false, false, false, false] rfl rfl (by kernel_rfl) (fun _ _ _ h => h) (Or.inl ⟨by rfl, ?_⟩) hHeld ?_ ?_
  rotate_left
  · rintro w' ⟨s0, s1, s2, s3, s4, s5, s6, s7⟩
    go_simp
    with_reducible rfl
  rotate_left
  · simp only [Act.put, List.setIfInBounds_toArray, List.set_cons_zero, List.set_cons_succ, i64_w, i32_w]
    rfl
  refine take_ (i := 10) (N := some 30) (v := ?_) (a' := ?_) #[true, true, true, true, true, true, true, true, true, true, true, false, false, false] rfl rfl (by kernel_rfl) (fun _ _ _ h => h) (Or.inl ⟨by rfl, ?_⟩) hHeld ?_ ?_
  rotate_left
  · rintro w' ⟨s0, s1, s2, s3, s4, s5, s6, s7⟩
    go_simp
    with_reducible rfl
  rotate_left
  · simp only [Act.put, List.setIfInBounds_toArray, List.set_cons_zero, List.set_cons_succ, i64_w, i32_w]
    rfl
  refine take_ (i := 11) (N := some 31) (v := ?_) (a' := ?_) #[true, true, true, true, true, true, true, true, true, true, true, true, false, false] rfl rfl (by kernel_rfl) (fun _ _ _ h => h) (Or.inl ⟨by rfl, ?_⟩) hHeld ?_ ?_
  rotate_left
  · rintro w' ⟨s0, s1, s2, s3, s4, s5, s6, s7⟩
    go_simp
    with_reducible rfl
  rotate_left
  · simp only [Act.put, List.setIfInBounds_toArray, List.set_cons_zero, List.set_cons_succ, i64_w, i32_w]
    rfl
  refine pure_ (i := 12) (N := some 32) (v := ?_) (a' := ?_) #[true, true, true, true, true, true, true, true, true, true, true, true, true, false] rfl rfl (by kernel_rfl) (fun _ _ _ h => h) (Or.inl ⟨by rfl, ?_⟩) ?_ ?_
  rotate_left
  · intro w'
    go_simp
    with_reducible rfl
  rotate_left
  · simp only [Act.put, List.setIfInBounds_toArray, List.set_cons_zero, List.set_cons_succ, i64_w, i32_w]
    rfl
  refine last_ (i := 13) (N := none) #[true, true, true, true, true, true, true, true, true, true, true, true, true, true] rfl rfl (by kernel_rfl) (by decide) (fun K hK => ?_)
  have z0 : w6.cell? ⟨w.heap.size + 1, 0, none⟩ = some (.int .u64 0) := (blk_cell Y1.out 0).trans rfl
  have z1 : w6.cell? ⟨w.heap.size + 1, 1, none⟩ = some (.int .i64 0) := (blk_cell Y1.out 1).trans rfl
  have z2 : w6.cell? ⟨w.heap.size + 1, 2, none⟩ = some (.bool false) := (blk_cell Y1.out 2).trans rfl
  have y0 : w6.frozen? ⟨w.heap.size + 1, 0, none⟩ = false := blk_frozen Y1.out 0
  have y1 : w6.frozen? ⟨w.heap.size + 1, 1, none⟩ = false := blk_frozen Y1.out 1
  have y2 : w6.frozen? ⟨w.heap.size + 1, 2, none⟩ = false := blk_frozen Y1.out 2
  refine skip_ (w1 := ?_) (by rfl) rfl ?_ ?_
  rotate_left
  · go_simp
    rfl
  clear z0 z1 z2 y0 y1 y2
  refine hK.out _ _ ?_
  clear hK K
  refine done_ (by kernel_rfl) ?_
  go_wp2_with fail
  have P0 := blk_put Y1.out 0 (.int .u64 cur) rfl
  have P1 := blk_put P0 1 (.int .i64 ld) rfl
  have HI2 := ((QI.out.far Y1.out (by decide) (by decide) (by decide) 0 (.int .u64 cur)).far P0 (by decide) (by decide) (by decide) 1 (.int .i64 ld)).far P1 (by decide) (by decide) (by decide) 2 (.bool false)
  have P := blk_drew (blk_put (blk_put (blk_put Y1.out 0 (.int .u64 cur) rfl) 1 (.int .i64 ld) rfl) 2 (.bool false) rfl)
  refine bodyPost_ret (results_cell_row rfl _ _ (w.heap.size + 1) 28 #[.int .u64 cur, .int .i64 ld, .bool false] (0, 0) _ rfl P Try.underlying28 rfl (by kernel_rfl)) rfl ?_
  have GE : w.heap.size ≤ w.heap.size + 1 := by omega
  have G0 : w0.heap.size ≤ w.heap.size := HB.out.size
  exact ⟨rfl, HI2.drew, below_drew (((QJ.out.setCell (p := ⟨w.heap.size + 1, 0, none⟩) (Nat.le_trans G0 GE) _).setCell (p := ⟨w.heap.size + 1, 1, none⟩) (Nat.le_trans G0 GE) _).setCell (p := ⟨w.heap.size + 1, 2, none⟩) (Nat.le_trans G0 GE) _), ((((QF.out.setNew (p := ⟨w.heap.size + 1, 0, none⟩) GE _).setNew (p := ⟨w.heap.size + 1, 1, none⟩) GE _).setNew (p := ⟨w.heap.size + 1, 2, none⟩) GE _)).drew⟩
theorem iload_T (gi g1 g2 gs g3 : Nat) (A : ISt) (akd asl apt aid  : Int) (w0 w : World) (hI : IdealIs w0 w gi g1 g2 gs g3 A) (hB : Below w0.heap.size w0 w) :
    Calls Try.prog 17 #[.pointer (some ⟨gi, 0, none⟩), .agg #[.int .i64 akd, .int .i64 asl, .int .i64 apt, .int .i64 aid]] w (IPost w0 w gi g1 g2 gs g3 (loadA A) (.agg #[.int .u64 ((get A.words (ofK akd asl apt aid)).getD 0), .int .i64 ((get A.leads (ofK akd asl apt aid)).getD 0), .bool false])) :=
  (iload_U gi g1 g2 gs g3 A akd asl apt aid w0 w hI hB).mono fun _ _ h => h.post
end Go.Proofs.Ytlpnggapndokeaa.PIdealKeeps

namespace Go.Proofs.Ytlpnggapndokeaa.PIdealKeeps
open Go Go.RowKit Go.Proofs.YtlpnggapndokeaaW.PrintWords Go.Proofs.YtlpnggapndokeaaW.PrintLast Go.Proofs.YtlpnggapndokeaaW.PrintMore Go.Proofs.Ytlpnggapndokeaa.M
attribute [local go_sem] max2_int min2_int max_two min_two max_three min_three max_four min_four
set_option linter.unusedVariables false
set_option linter.unusedSimpArgs false
def bornA (A : ISt) (slot : Int) : ISt := { A with now := bornNow A.now A.row slot, row := bornRow A.row slot }
theorem mapIs_frm {K V : Type} {ek : K → Value} {ev : V → Value} {w w' : World} {g : Nat} {m : List (K × V)} {S : Nat → Obj → Prop} (h : MapIs ek ev w g m) (hf : Fr S w w') (hs : ∀ es c, ¬ S g (.map es c)) : MapIs ek ev w' g m := by
  obtain ⟨es, c, hb, he⟩ := h
  exact ⟨es, c, hf.2 g _ hb (hs _ _), he⟩
theorem IdealIs.souls {w0 w w1 : World} {gi g1 g2 gs g3 : Nat} {A : ISt} (h : IdealIs w0 w gi g1 g2 gs g3 A) (hf : Fr (SoulS gs g3) w w1) {now' : List (Int × Int)} {row' : List Int} (hs : ∃ v', SoulIs w0 w1 gs g3 v' now' row') : IdealIs w0 w1 gi g1 g2 gs g3 { A with now := now', row := row' } := by
  obtain ⟨v, hv⟩ := h.soul
  refine ⟨hf.blk h.blk ?_, mapIs_frm h.words hf ?_, mapIs_frm h.leads hf ?_, hs, h.b0, h.b1, h.b2, h.n12, h.n13, h.n23⟩
  · rintro (e | e | ⟨cells, e⟩)
    · subst e
      exact blk_ne h.blk hv.blk (by decide) rfl
    · exact mapIs_ne hv.map h.blk e
    · injection e with _ e
      exact absurd e (by decide)
  · rintro es c (e | e | ⟨cells, e⟩)
    · exact mapIs_ne h.words hv.blk e.symm
    · exact h.n13 e
    · cases e
  · rintro es c (e | e | ⟨cells, e⟩)
    · exact mapIs_ne h.leads hv.blk e.symm
    · exact h.n23 e
    · cases e
set_option maxHeartbeats 4000000 in
set_option maxRecDepth 100000 in
theorem isouls_T (gi g1 g2 gs g3 : Nat) (A : ISt) (w0 w : World) (hI : IdealIs w0 w gi g1 g2 gs g3 A) : Calls Try.prog 23 #[.pointer (some ⟨gi, 0, none⟩)] w fun e w' => e = .returned (.pointer (some ⟨gs, 0, none⟩)) ∧ w' = w := by
  have hu103 := Try.underlying103
  have c2 : w.cell? ⟨gi, 2, none⟩ = some (.pointer (some ⟨gs, 0, none⟩)) := (blk_cell hI.blk 2).trans rfl
  clear hI
  go_enter Try.func23, Try.ntmps23
  go_wp2_with fail
  go_ret
  exact ⟨rfl, rfl⟩
theorem isoulsNil_T (w : World) : Calls Try.prog 23 #[.pointer none] w fun e w' => e = .returned (.pointer none) ∧ w' = w := by
  go_enter Try.func23, Try.ntmps23
  go_wp2_with fail
  go_ret
  exact ⟨rfl, rfl⟩
set_option maxHeartbeats 4000000 in
set_option maxRecDepth 100000 in
theorem iborn_T (gi g1 g2 gs g3 : Nat) (A : ISt) (slot : Int) (w0 w : World) (hI : IdealIs w0 w gi g1 g2 gs g3 A) (hB : Below w0.heap.size w0 w) (hl : A.row.length ≤ 100000) :
    Calls Try.prog 20 #[.pointer (some ⟨gi, 0, none⟩), .int .i64 slot] w (IPost w0 w gi g1 g2 gs g3 (bornA A slot) (.int .i64 (bornId A.row slot))) := by
  have HI := Aside0.mk hI
  have HB := Aside0.mk hB
  have HL := Aside0.mk hl
  clear hI hB hl
  go_enter Try.func20, Try.ntmps20
  go_wp2_with fail
  refine (isouls_T gi g1 g2 gs g3 A w0 _ HI.out).mono ?_
  rintro e w1 ⟨rfl, rfl⟩
  obtain ⟨v, hv⟩ := HI.out.soul
  have HV := Aside0.mk hv
  clear hv
  go_wp2_with fail
  refine (soulBorn_T gs g3 v A.now A.row slot w0 _ HV.out HB.out HL.out).mono ?_
  rintro e w2 ⟨rfl, h1, h2, h3⟩
  have R1 := Aside0.mk (HI.out.souls h3 h1)
  have R2 := Aside0.mk h2
  have R3 := Aside0.mk (h3.mono (S' := IdealS gi g1 g2 gs g3) (fun j o x => .inr (.inr (.inr x))))
  clear h1 h2 h3
  go_wp2_with fail
  go_ret
  exact ⟨rfl, R1.out, R2.out, R3.out⟩
theorem ibornNil_T (slot : Int) (w : World) : Calls Try.prog 20 #[.pointer none, .int .i64 slot] w fun e w' => e = .returned (.int .i64 0) ∧ Below w.heap.size w w' := by
  go_enter Try.func20, Try.ntmps20
  go_wp2_with fail
  refine (isoulsNil_T _).mono ?_
  rintro e w1 ⟨rfl, rfl⟩
  go_wp2_with fail
  refine (soulBornNil_T slot _).mono ?_
  rintro e w1 ⟨rfl, hb⟩
  have HB := Aside0.mk hb
  clear hb
  go_wp2_with fail
  go_ret
  exact ⟨rfl, HB.out⟩
def contentR (A : ISt) (id part : Int) : Int := if part ≥ 0 ∧ part ≠ 1 ∧ part ≠ 2 then (get A.words (5, 0, part, id)).getD 0 else 0
theorem isC_f (part : Int) : place_IsContent.f 5 0 part = some (decide (part ≥ 0 ∧ part ≠ 1 ∧ part ≠ 2)) := by
  unfold place_IsContent.f
  by_cases h2 : part ≥ 0
  · by_cases h3 : part = 1
    · subst h3; simp
    · by_cases h4 : part = 2
      · subst h4; simp
      · simp [h2, h3, h4]
  · simp [h2]
set_option maxHeartbeats 4000000 in
set_option maxRecDepth 100000 in
theorem icontent_T (gi g1 g2 gs g3 : Nat) (A : ISt) (id part : Int) (w0 w : World) (hI : IdealIs w0 w gi g1 g2 gs g3 A) :
    Calls Try.prog 24 #[.pointer (some ⟨gi, 0, none⟩), .int .i64 id, .int .i64 part] w fun e w' => e = .returned (.int .u64 (contentR A id part)) ∧ Below w.heap.size w w' := by
  have hu103 := Try.underlying103
  have HI := Aside0.mk hI
  clear hI
  by_cases hP : part ≥ 0 ∧ part ≠ 1 ∧ part ≠ 2
  · have F := Aside0.mk (show place_IsContent.f 5 0 part = some true by rw [isC_f, decide_eq_true hP])
    have E := Aside0.mk (show contentR A id part = (get A.words (5, 0, part, id)).getD 0 from if_pos hP)
    clear hP
    go_enter Try.func24, Try.ntmps24
    go_wp2_with fail
    refine (place_Of.calls 0 part 5 0 part w rfl).mono ?_
    rintro e w1 ⟨rfl, b1⟩
    have B1 := Aside0.mk b1
    clear b1
    go_wp2_with fail
    refine (place_IsContent.calls 5 0 part true w1 F.out).mono ?_
    rintro e w2 ⟨rfl, b1⟩
    have B2 := Aside0.mk (below_step B1.out b1)
    clear b1 B1
    go_wp2_with fail
    have JI := Aside0.mk (HI.out.below B2.out)
    obtain ⟨cur, hcur⟩ : ∃ c, (get A.words (5, 0, part, id)).getD 0 = c := ⟨_, rfl⟩
    have HL := Aside0.mk (show ∀ W, MapIs eK eU W g1 A.words → (Instr.lookup 100 (.map (some g1)) (.agg #[.int .i64 5, .int .i64 0, .int .i64 part, .int .i64 id]) false).run Try.prog W = .ok (.int .u64 cur) W from fun W hM => hcur ▸ M.look (P := Try.prog) keyK Try.underlying100 0 (zU W) hM (5, 0, part, id))
    have HC := Aside0.mk hcur
    clear hcur
    refine start_ (n := 9) (S := fun w' => w'.cell? ⟨gi, 0, none⟩ = some (.map (some g1)) ∧ (Instr.lookup 100 (.map (some g1)) (.agg #[.int .i64 5, .int .i64 0, .int .i64 part, .int .i64 id]) false).run Try.prog w' = .ok (.int .u64 cur) w') (ds := []) #[false, false, false, false, false, false, false, false, false] (by kernel_rfl) rfl rfl ⟨(blk_cell (blk_drew JI.out.blk) 0).trans rfl, (HL.out _ JI.out.drew.words)⟩ (fun hHeld => ?_)
    refine pure_ (i := 0) (N := some 15) (v := ?_) (a' := ?_) #[true, false, false, false, false, false, false, false, false] rfl rfl (by kernel_rfl) (fun _ _ _ h => h) (Or.inl ⟨by rfl, ?_⟩) ?_ ?_
    rotate_left
    · intro w'
      go_simp
      with_reducible rfl
    rotate_left
    · simp only [Act.put, List.setIfInBounds_toArray, List.set_cons_zero, List.set_cons_succ, i64_w, i32_w]
      rfl
    refine pure_ (i := 1) (N := some 16) (v := ?_) (a' := ?_) #[true, true, false, false, false, false, false, false, false] rfl rfl (by kernel_rfl) (fun _ _ _ h => h) (Or.inl ⟨by rfl, ?_⟩) ?_ ?_
    rotate_left
    · intro w'
      go_simp
      with_reducible rfl
    rotate_left
    · simp only [Act.put, List.setIfInBounds_toArray, List.set_cons_zero, List.set_cons_succ, i64_w, i32_w]
      rfl
    refine pure_ (i := 2) (N := some 17) (v := ?_) (a' := ?_) #[true, true, true, false, false, false, false, false, false] rfl rfl (by kernel_rfl) (fun _ _ _ h => h) (Or.inl ⟨by rfl, ?_⟩) ?_ ?_
    rotate_left
    · intro w'
      go_simp
      with_reducible rfl
    rotate_left
    · simp only [Act.put, List.setIfInBounds_toArray, List.set_cons_zero, List.set_cons_succ, i64_w, i32_w]
      rfl
    refine pure_ (i := 4) (N := some 19) (v := ?_) (a' := ?_) #[true, true, true, false, true, false, false, false, false] rfl rfl (by kernel_rfl) (fun _ _ _ h => h) (Or.inl ⟨by rfl, ?_⟩) ?_ ?_
    rotate_left
    · intro w'
      go_simp
      with_reducible rfl
    rotate_left
    · simp only [Act.put, List.setIfInBounds_toArray, List.set_cons_zero, List.set_cons_succ, i64_w, i32_w]
      rfl
    refine pure_ (i := 5) (N := some 20) (v := ?_) (a' := ?_) #[true, true, true, false, true, true, false, false, false] rfl rfl (by kernel_rfl) (fun _ _ _ h => h) (Or.inl ⟨by rfl, ?_⟩) ?_ ?_
    rotate_left
    · intro w'
      go_simp
      with_reducible rfl
    rotate_left
    · simp only [Act.put, List.setIfInBounds_toArray, List.set_cons_zero, List.set_cons_succ, i64_w, i32_w]
      rfl
    refine take_ (i := 3) (N := some 18) (v := ?_) (a' := ?_) #[true, true, true, true, true, true, false, false, false] rfl rfl (by kernel_rfl) (fun _ _ _ h => h) (Or.inl ⟨by rfl, ?_⟩) hHeld ?_ ?_
    rotate_left
    · rintro w' ⟨s0, s1⟩
      go_simp
      with_reducible rfl
    rotate_left
    · simp only [Act.put, List.setIfInBounds_toArray, List.set_cons_zero, List.set_cons_succ, i64_w, i32_w]
      rfl
    refine one_ (i := 6) (N := some 21) #[true, true, true, true, true, true, true, false, false] rfl rfl (by kernel_rfl) (by decide) (fun K hK => ?_)
    refine goes_ Try.func81 (by kernel_rfl) rfl #[.int .i64 id, .int .i64 part] (by rfl) rfl rfl (by simp only [List.map_toArray, List.map_cons, List.map_nil]; rfl) ?_
    with_reducible refine (ideal_content.calls id part 5 0 part id _ rfl).mono ?_
    rintro e w5 ⟨rfl, hb⟩
    refine ⟨_, rfl, ?_⟩
    have KI := Aside0.mk (JI.out.drew.below hb)
    have B5 := Aside0.mk (below_step (below_drew B2.out) hb)
    clear hb
    refine hK.out _ _ ⟨(blk_cell KI.out.blk 0).trans rfl, (HL.out _ KI.out.words)⟩ (fun hHeld => ?_)
    clear hK K
    refine norm_ (a' := ?_) ?_ ?_
    rotate_left
    · show Act.put _ (some 21) _ = _
      simp only [Act.put, List.setIfInBounds_toArray, List.set_cons_zero, List.set_cons_succ, i64_w, i32_w]
      rfl
    refine take_ (i := 7) (N := some 22) (v := ?_) (a' := ?_) #[true, true, true, true, true, true, true, true, false] rfl rfl (by kernel_rfl) (fun _ _ _ h => h) (Or.inl ⟨by rfl, ?_⟩) hHeld ?_ ?_
    rotate_left
    · rintro w' ⟨s0, s1⟩
      go_simp
      with_reducible rfl
    rotate_left
    · simp only [Act.put, List.setIfInBounds_toArray, List.set_cons_zero, List.set_cons_succ, i64_w, i32_w]
      rfl
    refine pure_ (i := 8) (N := some 6) (v := ?_) (a' := ?_) #[true, true, true, true, true, true, true, true, true] rfl rfl (by kernel_rfl) (fun _ _ _ h => h) (Or.inl ⟨by rfl, ?_⟩) ?_ ?_
    rotate_left
    · intro w'
      go_simp
      with_reducible rfl
    rotate_left
    · simp only [Act.put, List.setIfInBounds_toArray, List.set_cons_zero, List.set_cons_succ, i64_w, i32_w]
      rfl
    refine done_ (by kernel_rfl) ?_
    go_wp2_with fail
    go_ret
    rw [E.out, HC.out]
    exact ⟨rfl, B5.out⟩
  · have F := Aside0.mk (show place_IsContent.f 5 0 part = some false by rw [isC_f, decide_eq_false hP])
    have E := Aside0.mk (show contentR A id part = 0 from if_neg hP)
    clear hP
    go_enter Try.func24, Try.ntmps24
    go_wp2_with fail
    refine (place_Of.calls 0 part 5 0 part w rfl).mono ?_
    rintro e w1 ⟨rfl, b1⟩
    have B1 := Aside0.mk b1
    clear b1
    go_wp2_with fail
    refine (place_IsContent.calls 5 0 part false w1 F.out).mono ?_
    rintro e w2 ⟨rfl, b1⟩
    have B2 := Aside0.mk (below_step B1.out b1)
    clear b1 B1
    go_wp2_with fail
    go_ret
    rw [E.out]
    exact ⟨rfl, B2.out⟩
theorem icontentNil_T (id part : Int) (w : World) : Calls Try.prog 24 #[.pointer none, .int .i64 id, .int .i64 part] w fun e w' => e = .returned (.int .u64 0) ∧ Below w.heap.size w w' := by
  go_enter Try.func24, Try.ntmps24
  go_wp2_with fail
  go_ret
  exact ⟨rfl, Below.refl _ _⟩
def peekR (A : ISt) (kd sl pt : Int) : Int := (get A.words (ofK kd sl pt ((get A.now sl).getD 0))).getD 0
set_option maxHeartbeats 4000000 in
set_option maxRecDepth 100000 in
theorem ipeek_T (gi g1 g2 gs g3 : Nat) (A : ISt) (pkd psl ppt : Int) (w0 w : World) (hI : IdealIs w0 w gi g1 g2 gs g3 A) :
    Calls Try.prog 21 #[.pointer (some ⟨gi, 0, none⟩), .agg #[.int .i64 pkd, .int .i64 psl, .int .i64 ppt]] w fun e w' => e = .returned (.int .u64 (peekR A pkd psl ppt)) ∧ Below w.heap.size w w' := by
  have hu103 := Try.underlying103
  have hu23 := Try.underlying23
  have hu25 := Try.underlying25
  obtain ⟨id, hid⟩ : ∃ c, (get A.now psl).getD 0 = c := ⟨_, rfl⟩
  obtain ⟨ka, kb, kc, kd, hK⟩ : ∃ a b c d, ofK pkd psl ppt id = (a, b, c, d) := ⟨_, _, _, _, rfl⟩
  obtain ⟨cur, hcur⟩ : ∃ c, (get A.words (ka, kb, kc, kd)).getD 0 = c := ⟨_, rfl⟩
  have E := Aside0.mk (show peekR A pkd psl ppt = cur by unfold peekR; rw [hid, hK, hcur])
  have HK := Aside0.mk hK
  have HID := Aside0.mk hid
  have HL := Aside0.mk (show ∀ W, MapIs eK eU W g1 A.words → (Instr.lookup 100 (.map (some g1)) (.agg #[.int .i64 ka, .int .i64 kb, .int .i64 kc, .int .i64 kd]) false).run Try.prog W = .ok (.int .u64 cur) W from fun W hM => hcur ▸ M.look (P := Try.prog) keyK Try.underlying100 0 (zU W) hM (ka, kb, kc, kd))
  have JI := Aside0.mk (hI.alloc (.cells #[.int .i64 pkd, .int .i64 psl, .int .i64 ppt] 23)).drew
  have PB := Aside0.mk (blk_drew (blk_new w (.cells #[.int .i64 pkd, .int .i64 psl, .int .i64 ppt] 23)))
  have B0 := Aside0.mk (below_drew (below_alloc (Below.refl w.heap.size w) (.cells #[.int .i64 pkd, .int .i64 psl, .int .i64 ppt] 23)))
  clear hI hid hK hcur
  go_enter Try.func21, Try.ntmps21
  go_wp2_with fail
  refine start_ (n := 16) (S := fun w' => w'.cell? ⟨gi, 0, none⟩ = some (.map (some g1)) ∧ w'.cell? ⟨gi, 2, none⟩ = some (.pointer (some ⟨gs, 0, none⟩)) ∧ w'.cell? ⟨w.heap.size, 0, none⟩ = some (.int .i64 pkd) ∧ w'.cell? ⟨w.heap.size, 1, none⟩ = some (.int .i64 psl) ∧ w'.cell? ⟨w.heap.size, 2, none⟩ = some (.int .i64 ppt) ∧ (Instr.lookup 100 (.map (some g1)) (.agg #[.int .i64 ka, .int .i64 kb, .int .i64 kc, .int .i64 kd]) false).run Try.prog w' = .ok (.int .u64 cur) w') (ds := []) #[false, false, false, false, false, false, false, false, false, false, false, false, false, false, false, false] (by kernel_rfl) rfl rfl ⟨(blk_cell JI.out.blk 0).trans rfl, (blk_cell JI.out.blk 2).trans rfl, (blk_cell PB.out 0).trans rfl, (blk_cell PB.out 1).trans rfl, (blk_cell PB.out 2).trans rfl, (HL.out _ JI.out.words)⟩ (fun hHeld => ?_)
  refine pure_ (i := 0) (N := some 7) (v := ?_) (a' := ?_) #[true, false, false, false, false, false, false, false, false, false, false, false, false, false, false, false] rfl rfl (by kernel_rfl) (fun _ _ _ h => h) (Or.inl ⟨by rfl, ?_⟩) ?_ ?_
  rotate_left
  · intro w'
    go_simp
    with_reducible rfl
  rotate_left
  · simp only [Act.put, List.setIfInBounds_toArray, List.set_cons_zero, List.set_cons_succ, i64_w, i32_w]
    rfl
  refine pure_ (i := 1) (N := some 8) (v := ?_) (a' := ?_) #[true, true, false, false, false, false, false, false, false, false, false, false, false, false, false, false] rfl rfl (by kernel_rfl) (fun _ _ _ h => h) (Or.inl ⟨by rfl, ?_⟩) ?_ ?_
  rotate_left
  · intro w'
    go_simp
    with_reducible rfl
  rotate_left
  · simp only [Act.put, List.setIfInBounds_toArray, List.set_cons_zero, List.set_cons_succ, i64_w, i32_w]
    rfl
  refine pure_ (i := 2) (N := some 9) (v := ?_) (a' := ?_) #[true, true, true, false, false, false, false, false, false, false, false, false, false, false, false, false] rfl rfl (by kernel_rfl) (fun _ _ _ h => h) (Or.inl ⟨by rfl, ?_⟩) ?_ ?_
  rotate_left
  · intro w'
    go_simp
    with_reducible rfl
  rotate_left
  · simp only [Act.put, List.setIfInBounds_toArray, List.set_cons_zero, List.set_cons_succ, i64_w, i32_w]
    rfl
  refine pure_ (i := 5) (N := some 12) (v := ?_) (a' := ?_) #[true, true, true, false, false, true, false, false, false, false, false, false, false, false, false, false] rfl rfl (by kernel_rfl) (fun _ _ _ h => h) (Or.inl ⟨by rfl, ?_⟩) ?_ ?_
  rotate_left
  · intro w'
    go_simp
    with_reducible rfl
  rotate_left
  · simp only [Act.put, List.setIfInBounds_toArray, List.set_cons_zero, List.set_cons_succ, i64_w, i32_w]
    rfl
  refine pure_ (i := 6) (N := some 13) (v := ?_) (a' := ?_) #[true, true, true, false, false, true, true, false, false, false, false, false, false, false, false, false] rfl rfl (by kernel_rfl) (fun _ _ _ h => h) (Or.inl ⟨by rfl, ?_⟩) ?_ ?_
  rotate_left
  · intro w'
    go_simp
    with_reducible rfl
  rotate_left
  · simp only [Act.put, List.setIfInBounds_toArray, List.set_cons_zero, List.set_cons_succ, i64_w, i32_w]
    rfl
  refine pure_ (i := 7) (N := some 14) (v := ?_) (a' := ?_) #[true, true, true, false, false, true, true, true, false, false, false, false, false, false, false, false] rfl rfl (by kernel_rfl) (fun _ _ _ h => h) (Or.inl ⟨by rfl, ?_⟩) ?_ ?_
  rotate_left
  · intro w'
    go_simp
    with_reducible rfl
  rotate_left
  · simp only [Act.put, List.setIfInBounds_toArray, List.set_cons_zero, List.set_cons_succ, i64_w, i32_w]
    rfl
  refine pure_ (i := 9) (N := some 16) (v := ?_) (a' := ?_) #[true, true, true, false, false, true, true, true, false, true, false, false, false, false, false, false] rfl rfl (by kernel_rfl) (fun _ _ _ h => h) (Or.inl ⟨by rfl, ?_⟩) ?_ ?_
  rotate_left
  · intro w'
    go_simp
    with_reducible rfl
  rotate_left
  · simp only [Act.put, List.setIfInBounds_toArray, List.set_cons_zero, List.set_cons_succ, i64_w, i32_w]
    rfl
  refine take_ (i := 3) (N := some 10) (v := ?_) (a' := ?_) #[true, true, true, true, false, true, true, true, false, true, false, false, false, false, false, false] rfl rfl (by kernel_rfl) (fun _ _ _ h => h) (Or.inl ⟨by rfl, ?_⟩) hHeld ?_ ?_
  rotate_left
  · rintro w' ⟨s0, s1, s2, s3, s4, s5⟩
    go_simp
    with_reducible rfl
  rotate_left
  · simp only [Act.put, List.setIfInBounds_toArray, List.set_cons_zero, List.set_cons_succ, i64_w, i32_w]
    rfl
  refine take_ (i := 4) (N := some 11) (v := ?_) (a' := ?_) #[true, true, true, true, true, true, true, true, false, true, false, false, false, false, false, false] rfl rfl (by kernel_rfl) (fun _ _ _ h => h) (Or.inl ⟨by rfl, ?_⟩) hHeld ?_ ?_
  rotate_left
  · rintro w' ⟨s0, s1, s2, s3, s4, s5⟩
    go_simp
    with_reducible rfl
  rotate_left
  · simp only [Act.put, List.setIfInBounds_toArray, List.set_cons_zero, List.set_cons_succ, i64_w, i32_w]
    rfl
  refine take_ (i := 8) (N := some 15) (v := ?_) (a' := ?_) #[true, true, true, true, true, true, true, true, true, true, false, false, false, false, false, false] rfl rfl (by kernel_rfl) (fun _ _ _ h => h) (Or.inl ⟨by rfl, ?_⟩) hHeld ?_ ?_
  rotate_left
  · rintro w' ⟨s0, s1, s2, s3, s4, s5⟩
    go_simp
    with_reducible rfl
  rotate_left
  · simp only [Act.put, List.setIfInBounds_toArray, List.set_cons_zero, List.set_cons_succ, i64_w, i32_w]
    rfl
  refine take_ (i := 10) (N := some 17) (v := ?_) (a' := ?_) #[true, true, true, true, true, true, true, true, true, true, true, false, false, false, false, false] rfl rfl (by kernel_rfl) (fun _ _ _ h => h) (Or.inl ⟨by rfl, ?_⟩) hHeld ?_ ?_
  rotate_left
  · rintro w' ⟨s0, s1, s2, s3, s4, s5⟩
    go_simp
    with_reducible rfl
  rotate_left
  · simp only [Act.put, List.setIfInBounds_toArray, List.set_cons_zero, List.set_cons_succ, i64_w, i32_w]
    rfl
  refine one_ (i := 11) (N := some 18) #[true, true, true, true, true, true, true, true, true, true, true, true, false, false, false, false] rfl rfl (by kernel_rfl) (by decide) (fun K hK => ?_)
  obtain ⟨v_, hv_⟩ := JI.out.soul
  have HV := Aside0.mk hv_
  clear hv_
  refine goes_ Try.func41 (by kernel_rfl) rfl #[.pointer (some ⟨gs, 0, none⟩), .int .i64 psl] (by rfl) rfl rfl (by simp only [List.map_toArray, List.map_cons, List.map_nil]; rfl) ?_
  with_reducible refine (soulNow_T gs g3 v_ A.now A.row psl w0 _ HV.out).mono ?_
  rintro e w5 ⟨rfl, hb⟩
  refine ⟨_, rfl, ?_⟩
  rw [HID.out]
  have KI := Aside0.mk (JI.out.below hb)
  have PB5 := Aside0.mk (blk_below PB.out hb)
  have B5 := Aside0.mk (below_step B0.out hb)
  clear hb
  refine hK.out _ _ ⟨(blk_cell KI.out.blk 0).trans rfl, (blk_cell KI.out.blk 2).trans rfl, (blk_cell PB5.out 0).trans rfl, (blk_cell PB5.out 1).trans rfl, (blk_cell PB5.out 2).trans rfl, (HL.out _ KI.out.words)⟩ (fun hHeld => ?_)
  clear hK K
  refine norm_ (a' := ?_) ?_ ?_
  rotate_left
  · show Act.put _ (some 18) _ = _
    simp only [Act.put, List.setIfInBounds_toArray, List.set_cons_zero, List.set_cons_succ, i64_w, i32_w]
    rfl
  refine pure_ (i := 12) (N := some 19) (v := ?_) (a' := ?_) #[true, true, true, true, true, true, true, true, true, true, true, true, true, false, false, false] rfl rfl (by kernel_rfl) (fun _ _ _ h => h) (Or.inl ⟨by rfl, ?_⟩) ?_ ?_
  rotate_left
  · intro w'
    go_simp
    with_reducible rfl
  rotate_left
  · simp only [Act.put, List.setIfInBounds_toArray, List.set_cons_zero, List.set_cons_succ, i64_w, i32_w]
    rfl
  refine one_ (i := 13) (N := some 20) #[true, true, true, true, true, true, true, true, true, true, true, true, true, true, false, false] rfl rfl (by kernel_rfl) (by decide) (fun K hK => ?_)
  refine goes_ Try.func80 (by kernel_rfl) rfl #[.agg #[.int .i64 pkd, .int .i64 psl, .int .i64 ppt, .int .i64 id]] (by rfl) rfl rfl (by simp only [List.map_toArray, List.map_cons, List.map_nil]; rfl) ?_
  with_reducible refine (iof_T _ HK.out).mono ?_
  rintro e w6 ⟨rfl, hb⟩
  refine ⟨_, rfl, ?_⟩
  have LI := Aside0.mk (KI.out.below hb)
  have PB6 := Aside0.mk (blk_below PB5.out hb)
  have B6 := Aside0.mk (below_step B5.out hb)
  clear hb
  refine hK.out _ _ ⟨(blk_cell LI.out.blk 0).trans rfl, (blk_cell LI.out.blk 2).trans rfl, (blk_cell PB6.out 0).trans rfl, (blk_cell PB6.out 1).trans rfl, (blk_cell PB6.out 2).trans rfl, (HL.out _ LI.out.words)⟩ (fun hHeld => ?_)
  clear hK K
  refine norm_ (a' := ?_) ?_ ?_
  rotate_left
  · show Act.put _ (some 20) _ = _
    simp only [Act.put, List.setIfInBounds_toArray, List.set_cons_zero, List.set_cons_succ, i64_w, i32_w]
    rfl
  refine take_ (i := 14) (N := some 21) (v := ?_) (a' := ?_) #[true, true, true, true, true, true, true, true, true, true, true, true, true, true, true, false] rfl rfl (by kernel_rfl) (fun _ _ _ h => h) (Or.inl ⟨by rfl, ?_⟩) hHeld ?_ ?_
  rotate_left
  · rintro w' ⟨s0, s1, s2, s3, s4, s5⟩
    go_simp
    with_reducible rfl
  rotate_left
  · simp only [Act.put, List.setIfInBounds_toArray, List.set_cons_zero, List.set_cons_succ, i64_w, i32_w]
    rfl
  refine pure_ (i := 15) (N := some 4) (v := ?_) (a' := ?_) #[true, true, true, true, true, true, true, true, true, true, true, true, true, true, true, true] rfl rfl (by kernel_rfl) (fun _ _ _ h => h) (Or.inl ⟨by rfl, ?_⟩) ?_ ?_
  rotate_left
  · intro w'
    go_simp
    with_reducible rfl
  rotate_left
  · simp only [Act.put, List.setIfInBounds_toArray, List.set_cons_zero, List.set_cons_succ, i64_w, i32_w]
    rfl
  refine done_ (by kernel_rfl) ?_
  go_wp2_with fail
  go_ret
  rw [E.out]
  exact ⟨rfl, B6.out⟩
theorem ipeekNil_T (pkd psl ppt : Int) (w : World) : Calls Try.prog 21 #[.pointer none, .agg #[.int .i64 pkd, .int .i64 psl, .int .i64 ppt]] w fun e w' => e = .returned (.int .u64 0) ∧ Below w.heap.size w w' := by
  have hu23 := Try.underlying23
  go_enter Try.func21, Try.ntmps21
  go_wp2_with fail
  go_ret
  exact ⟨rfl, below_alloc (Below.refl _ _) _⟩
set_option maxHeartbeats 4000000 in
set_option maxRecDepth 100000 in
theorem icount_T (gi g1 g2 gs g3 : Nat) (A : ISt) (w0 w : World) (hI : IdealIs w0 w gi g1 g2 gs g3 A) :
    Calls Try.prog 22 #[.pointer (some ⟨gi, 0, none⟩)] w fun e w' => e = .returned (.agg #[.int .i64 A.c1, .int .i64 A.c2, .int .i64 A.c3, .int .i64 A.c4, .int .i64 A.c5]) ∧ Below w.heap.size w w' := by
  have hu103 := Try.underlying103
  have hu38 := Try.underlying38
  have JI := Aside0.mk (hI.alloc (.cells #[.int .i64 0, .int .i64 0, .int .i64 0, .int .i64 0, .int .i64 0] 38))
  have c3 : ∀ o, (w.alloc o).cell? ⟨gi, 3, none⟩ = some (.int .i64 A.c1) := fun o => (blk_cell (blk_alloc hI.blk o) 3).trans rfl
  have c4 : ∀ o, (w.alloc o).cell? ⟨gi, 4, none⟩ = some (.int .i64 A.c2) := fun o => (blk_cell (blk_alloc hI.blk o) 4).trans rfl
  have c5 : ∀ o, (w.alloc o).cell? ⟨gi, 5, none⟩ = some (.int .i64 A.c3) := fun o => (blk_cell (blk_alloc hI.blk o) 5).trans rfl
  have c6 : ∀ o, (w.alloc o).cell? ⟨gi, 6, none⟩ = some (.int .i64 A.c4) := fun o => (blk_cell (blk_alloc hI.blk o) 6).trans rfl
  have c7 : ∀ o, (w.alloc o).cell? ⟨gi, 7, none⟩ = some (.int .i64 A.c5) := fun o => (blk_cell (blk_alloc hI.blk o) 7).trans rfl
  clear hI
  go_enter Try.func22, Try.ntmps22
  go_wp2_with fail
  refine bodyPost_ret (results_cell_row rfl _ _ w.heap.size 38 #[.int .i64 A.c1, .int .i64 A.c2, .int .i64 A.c3, .int .i64 A.c4, .int .i64 A.c5] (0, 0) _ rfl (blk_new w _) Try.underlying38 rfl (by kernel_rfl)) rfl ?_
  exact ⟨rfl, below_alloc (Below.refl _ _) _⟩
theorem icountNil_T (w : World) : Calls Try.prog 22 #[.pointer none] w fun e w' => e = .returned (.agg #[.int .i64 0, .int .i64 0, .int .i64 0, .int .i64 0, .int .i64 0]) ∧ Below w.heap.size w w' := by
  have hu38 := Try.underlying38
  go_enter Try.func22, Try.ntmps22
  go_wp2_with fail
  refine bodyPost_ret (results_cell_row rfl _ _ w.heap.size 38 #[.int .i64 0, .int .i64 0, .int .i64 0, .int .i64 0, .int .i64 0] (0, 0) _ rfl (blk_new w _) Try.underlying38 rfl (by kernel_rfl)) rfl ?_
  exact ⟨rfl, below_alloc (Below.refl _ _) _⟩
theorem iloadNil_T (akd asl apt aid : Int) (w : World) : Calls Try.prog 17 #[.pointer none, .agg #[.int .i64 akd, .int .i64 asl, .int .i64 apt, .int .i64 aid]] w fun e w' => e = .returned (.agg #[.int .u64 0, .int .i64 0, .bool false]) ∧ Below w.heap.size w w' := by
  have hu25 := Try.underlying25
  have hu28 := Try.underlying28
  go_enter Try.func17, Try.ntmps17
  go_wp2_with fail
  refine bodyPost_ret (results_cell_row rfl _ _ (w.heap.size + 1) 28 #[.int .u64 0, .int .i64 0, .bool false] (0, 0) _ rfl (blk_new2 w _ _) Try.underlying28 rfl (by kernel_rfl)) rfl ?_
  exact ⟨rfl, below_alloc (below_alloc (Below.refl _ _) _) _⟩
theorem iswapNil_T (akd asl apt aid ox oy x y : Int) (ost st : Bool) (w : World) : Calls Try.prog 18 #[.pointer none, .agg #[.int .i64 akd, .int .i64 asl, .int .i64 apt, .int .i64 aid], .agg #[.int .u64 ox, .int .i64 oy, .bool ost], .agg #[.int .u64 x, .int .i64 y, .bool st]] w fun e w' => e = .returned (.bool false) ∧ Below w.heap.size w w' := by
  have hu25 := Try.underlying25
  have hu28 := Try.underlying28
  go_enter Try.func18, Try.ntmps18
  go_wp2_with fail
  go_ret
  exact ⟨rfl, below_alloc (below_alloc (below_alloc (Below.refl _ _) _) _) _⟩
theorem iaddNil_T (akd asl apt aid n : Int) (w : World) : Calls Try.prog 19 #[.pointer none, .agg #[.int .i64 akd, .int .i64 asl, .int .i64 apt, .int .i64 aid], .int .u64 n] w fun e w' => e = .returned (.int .u64 0) ∧ Below w.heap.size w w' := by
  have hu25 := Try.underlying25
  go_enter Try.func19, Try.ntmps19
  go_wp2_with fail
  go_ret
  exact ⟨rfl, below_alloc (Below.refl _ _) _⟩
def A0 : ISt := ⟨[], [], [], [], 0, 0, 0, 0, 0⟩
theorem IdealIs.rebase {w0 wb w : World} {gi g1 g2 gs g3 : Nat} {A : ISt} (h : IdealIs wb w gi g1 g2 gs g3 A) (hle : w0.heap.size ≤ wb.heap.size) : IdealIs w0 w gi g1 g2 gs g3 A := by
  obtain ⟨v, hv⟩ := h.soul
  exact ⟨h.blk, h.words, h.leads, ⟨v, hv.rebase hle⟩, Nat.le_trans hle h.b0, Nat.le_trans hle h.b1, Nat.le_trans hle h.b2, h.n12, h.n13, h.n23⟩
set_option maxHeartbeats 4000000 in
set_option maxRecDepth 100000 in
theorem inew_T (w : World) : Calls Try.prog 25 #[] w fun e w' => ∃ gi g1 g2 gs g3, e = .returned (.pointer (some ⟨gi, 0, none⟩)) ∧ IdealIs w w' gi g1 g2 gs g3 A0 ∧ Below w.heap.size w w' := by
  have hu103 := Try.underlying103
  have hmm := @run_makeMap Try.prog
  go_enter Try.func25, Try.ntmps25
  go_wp2_with fail
  have M1 := Aside0.mk (show MapIs eK eU ((w.alloc (.map #[] 0)).alloc (.map #[] 0)) w.heap.size ([] : List (K4 × Int)) from (MapIs.new w).below (below_alloc (Below.refl _ _) _))
  have M2 := Aside0.mk (show MapIs eK eI ((w.alloc (.map #[] 0)).alloc (.map #[] 0)) (w.heap.size + 1) ([] : List (K4 × Int)) by have := MapIs.new (ek := eK) (ev := eI) (w.alloc (.map #[] 0)); simpa using this)
  have B1 := Aside0.mk (below_alloc (below_alloc (Below.refl w.heap.size w) (.map #[] 0)) (.map #[] 0))
  have SZ := Aside0.mk (show w.heap.size + 1 + 1 = ((w.alloc (.map #[] 0)).alloc (.map #[] 0)).heap.size by simp)
  generalize (w.alloc (.map #[] 0)).alloc (.map #[] 0) = w1 at *
  refine (soulNew_T w1).mono ?_
  rintro e w2 ⟨gs, g3, rfl, hs, hb⟩
  have HS := Aside0.mk (hs.alloc (.cells #[.map (some w.heap.size), .map (some (w.heap.size + 1)), .pointer (some ⟨gs, 0, none⟩), .int .i64 0, .int .i64 0, .int .i64 0, .int .i64 0, .int .i64 0] 103))
  have B2 := Aside0.mk (below_alloc (below_step B1.out hb) (.cells #[.map (some w.heap.size), .map (some (w.heap.size + 1)), .pointer (some ⟨gs, 0, none⟩), .int .i64 0, .int .i64 0, .int .i64 0, .int .i64 0, .int .i64 0] 103))
  have N1 := Aside0.mk ((M1.out.below hb).below (below_alloc (Below.refl _ _) (.cells #[.map (some w.heap.size), .map (some (w.heap.size + 1)), .pointer (some ⟨gs, 0, none⟩), .int .i64 0, .int .i64 0, .int .i64 0, .int .i64 0, .int .i64 0] 103)))
  have N2 := Aside0.mk ((M2.out.below hb).below (below_alloc (Below.refl _ _) (.cells #[.map (some w.heap.size), .map (some (w.heap.size + 1)), .pointer (some ⟨gs, 0, none⟩), .int .i64 0, .int .i64 0, .int .i64 0, .int .i64 0, .int .i64 0] 103)))
  have G3 := Aside0.mk hs.b2
  have HB := Aside0.mk hb
  clear hs hb M1 M2
  go_wp2_with fail
  go_ret
  refine ⟨w2.heap.size, w.heap.size, w.heap.size + 1, gs, g3, rfl, ⟨blk_new _ _, N1.out, N2.out, ⟨_, HS.out.rebase (by have := SZ.out; omega)⟩, by have := SZ.out; have := HB.out.size; omega, Nat.le_refl _, Nat.le_succ _, by omega, by have := SZ.out; have := G3.out; omega, by have := SZ.out; have := G3.out; omega⟩, B2.out⟩
end Go.Proofs.Ytlpnggapndokeaa.PIdealKeeps

