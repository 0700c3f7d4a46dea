/-
MintScripts answers true: the script that is drawn, or why there is none, is the reference one.
-/
import Derived.Test.YtcphmelmieedfaaScrPlain
import Derived.Test.YtcphmelmieedfaaScrAwake
import Derived.Test.YtcphmelmieedfaaScrSame
import Derived.Test.YtcphmelmieedfaaScrCheck
namespace Go.Proofs.Ytcphmelmieedfaa.PMintScripts
open Go Go.RowKit Go.Proofs.YtcphmelmieedfaaW.PrintWords Go.Proofs.YtcphmelmieedfaaW.PrintLast Go.Proofs.YtcphmelmieedfaaW.PrintMore Go.Proofs.Ytcphmelmieedfaa.U
attribute [local go_sem] max2_int min2_int max_two min_two max_three min_three max_four min_four
set_option linter.unusedVariables false
set_option linter.unusedSimpArgs false
theorem put7 {w W : World} {R t : Nat} {x0 x1 x2 x3 x4 x5 x6 : Value} (a b c d e f g : Value) (HR : W.heap[R]? = some (.cells #[x0, x1, x2, x3, x4, x5, x6] t (0, 0))) (HB : Below w.heap.size w W) (hR : w.heap.size ≤ R) :
    (((((((W.setCell ⟨R, 0, none⟩ a).setCell ⟨R, 1, none⟩ b).setCell ⟨R, 2, none⟩ c).setCell ⟨R, 3, none⟩ d).setCell ⟨R, 4, none⟩ e).setCell ⟨R, 5, none⟩ f).setCell ⟨R, 6, none⟩ g).heap[R]? = some (.cells #[a, b, c, d, e, f, g] t (0, 0)) ∧
    Below w.heap.size w (((((((W.setCell ⟨R, 0, none⟩ a).setCell ⟨R, 1, none⟩ b).setCell ⟨R, 2, none⟩ c).setCell ⟨R, 3, none⟩ d).setCell ⟨R, 4, none⟩ e).setCell ⟨R, 5, none⟩ f).setCell ⟨R, 6, none⟩ g) :=
  ⟨blk_put (cs := #[a, b, c, d, e, f, x6]) (blk_put (cs := #[a, b, c, d, e, x5, x6]) (blk_put (cs := #[a, b, c, d, x4, x5, x6]) (blk_put (cs := #[a, b, c, x3, x4, x5, x6]) (blk_put (cs := #[a, b, x2, x3, x4, x5, x6]) (blk_put (cs := #[a, x1, x2, x3, x4, x5, x6]) (blk_put (cs := #[x0, x1, x2, x3, x4, x5, x6]) HR 0 _ rfl) 1 _ rfl) 2 _ rfl) 3 _ rfl) 4 _ rfl) 5 _ rfl) 6 _ rfl,
   below_set (below_set (below_set (below_set (below_set (below_set (below_set HB hR) hR) hR) hR) hR) hR) hR⟩
theorem put7_far {W : World} {R : Nat} (a b c d e f g : Value) : ∀ k, k ≠ R → (((((((W.setCell ⟨R, 0, none⟩ a).setCell ⟨R, 1, none⟩ b).setCell ⟨R, 2, none⟩ c).setCell ⟨R, 3, none⟩ d).setCell ⟨R, 4, none⟩ e).setCell ⟨R, 5, none⟩ f).setCell ⟨R, 6, none⟩ g).heap[k]? = W.heap[k]? := by
  intro k k1
  rw [Below.heap_setCell _ _ _ _ k1, Below.heap_setCell _ _ _ _ k1, Below.heap_setCell _ _ _ _ k1, Below.heap_setCell _ _ _ _ k1, Below.heap_setCell _ _ _ _ k1, Below.heap_setCell _ _ _ _ k1, Below.heap_setCell _ _ _ _ k1]
theorem ops_types : ∀ q, q ∈ 55 :: (Kd.slice 37 k37).E → q ≠ 3 ∧ q ≠ 49 := by
  intro q hq
  have : q = 55 ∨ q = 37 := by simpa [Kd.slice, k37, Kd.iso, Kd.pair, Kd.int, Kd.scalar] using hq
  omega
theorem int_types : ∀ q, q ∈ 3 :: (Kd.int .i64).E → q ≠ 49 := by
  intro q hq
  have : q = 3 := by simpa [Kd.int, Kd.scalar] using hq
  omega
set_option maxHeartbeats 16000000 in
set_option maxRecDepth 100000 in
theorem scrT (b : BitVec 64) (c0 c1 c2 c3 c4 n0 n1 n2 n3 : Int) (w : World) :
    Calls Try.prog 5 #[.int .u64 (I b), .agg #[.int .i64 c0, .int .i64 c1, .int .i64 c2, .int .i64 c3, .int .i64 c4], .agg #[.int .i64 n0, .int .i64 n1, .int .i64 n2, .int .i64 n3]] w fun e w' => e = .returned (.bool true) ∧ Below w.heap.size w w' := by
  have hu31 := Try.underlying31
  have hu37 := Try.underlying37
  have hu49 := Try.underlying49
  have hu46 := Try.underlying46
  have hu57 := Try.underlying57
  go_enter Try.func5, Try.ntmps5
  go_wp2_with fail
  refine (awakeT _).mono ?_
  rintro e w1 ⟨rfl, B1⟩
  have C1 := Aside0.mk (below_step (below_alloc (below_alloc (Below.refl w.heap.size w) _) _) B1)
  have H1 := Aside0.mk (blk_below (blk_alloc (blk_new w _) _) B1)
  have HN := Aside0.mk (show w1.heap[w.heap.size + 1]? = some (.cells #[.int .i64 n0, .int .i64 n1, .int .i64 n2, .int .i64 n3] 46 (0, 0)) by have := blk_below (blk_new (w.alloc (.cells #[.int .i64 c0, .int .i64 c1, .int .i64 c2, .int .i64 c3, .int .i64 c4] 31)) (.cells #[.int .i64 n0, .int .i64 n1, .int .i64 n2, .int .i64 n3] 46)) B1; simpa using this)
  have x3 : w1.cell? ⟨w.heap.size + 1, 3, none⟩ = some (.int .i64 n3) := (blk_cell HN.out 3).trans rfl
  clear B1
  by_cases hn : n3 > 500 ∧ n3 ≤ 262144
  · have t1 : decide (n3 > 500) = true := decide_eq_true hn.1
    have t2 : decide (n3 ≤ 262144) = true := decide_eq_true hn.2
    go_wp2_with fail
    go_ret
    exact ⟨rfl, C1.out⟩
  have hn5 : n3 ≤ 500 ∨ 262144 < n3 := by omega
  obtain ⟨r1, r2, r3, r4, r5, r6, r7, r8, s1, hS, hcase⟩ := scr_any (seed0 b) c0 c1 c2 c3 c4 n0 n1 n2 n3 hn5
  have HS := Aside0.mk hS
  have HCASE := Aside0.mk hcase
  have HN5 := Aside0.mk hn5
  clear hS hcase hn hn5
  by_cases hA : n3 ≤ 500
  · have t0 : decide (n3 > 500) = false := decide_eq_false (by omega)
    have CC := Aside0.mk (blk_drew H1.out)
    have NN := Aside0.mk (blk_drew HN.out)
    have BB := Aside0.mk (below_drew (Below.refl w1.heap.size w1))
    clear hA
    go_wp2_with fail
    refine start_ (n := 18) (S := fun w' => w'.cell? ⟨w.heap.size, 0, none⟩ = some (.int .i64 c0) ∧ w'.cell? ⟨w.heap.size, 1, none⟩ = some (.int .i64 c1) ∧ w'.cell? ⟨w.heap.size, 2, none⟩ = some (.int .i64 c2) ∧ w'.cell? ⟨w.heap.size, 3, none⟩ = some (.int .i64 c3) ∧ w'.cell? ⟨w.heap.size, 4, none⟩ = some (.int .i64 c4) ∧ w'.cell? ⟨w.heap.size + 1, 0, none⟩ = some (.int .i64 n0) ∧ w'.cell? ⟨w.heap.size + 1, 1, none⟩ = some (.int .i64 n1) ∧ w'.cell? ⟨w.heap.size + 1, 2, none⟩ = some (.int .i64 n2) ∧ w'.cell? ⟨w.heap.size + 1, 3, none⟩ = some (.int .i64 n3)) (ds := []) #[false, false, false, false, false, false, false, false, false, false, false, false, false, false, false, false, false, false] (by kernel_rfl) rfl rfl ⟨(blk_cell CC.out 0).trans rfl, (blk_cell CC.out 1).trans rfl, (blk_cell CC.out 2).trans rfl, (blk_cell CC.out 3).trans rfl, (blk_cell CC.out 4).trans rfl, (blk_cell NN.out 0).trans rfl, (blk_cell NN.out 1).trans rfl, (blk_cell NN.out 2).trans rfl, (blk_cell NN.out 3).trans rfl⟩ (fun hHeld => ?_)
    refine pure_ (i := 0) (N := some 26) (v := ?_) (a' := ?_) #[true, false, false, false, false, false, false, false, false, false, false, false, false, false, false, false, false, false] rfl rfl (by kernel_rfl) (fun _ _ _ h => h) (Or.inl ⟨by rfl, ?_⟩) ?_ ?_
    rotate_left
    · intro w'
      go_simp
      with_reducible rfl
    rotate_left
    · simp only [Act.put, List.setIfInBounds_toArray, List.set_cons_zero, List.set_cons_succ, i64_w, i32_w]
      rfl
    refine pure_ (i := 3) (N := some 29) (v := ?_) (a' := ?_) #[true, false, false, true, false, false, false, false, false, false, false, false, false, false, false, false, false, false] rfl rfl (by kernel_rfl) (fun _ _ _ h => h) (Or.inl ⟨by rfl, ?_⟩) ?_ ?_
    rotate_left
    · intro w'
      go_simp
      with_reducible rfl
    rotate_left
    · simp only [Act.put, List.setIfInBounds_toArray, List.set_cons_zero, List.set_cons_succ, i64_w, i32_w]
      rfl
    refine pure_ (i := 5) (N := some 31) (v := ?_) (a' := ?_) #[true, false, false, true, false, true, false, false, false, false, false, false, false, false, false, false, false, false] rfl rfl (by kernel_rfl) (fun _ _ _ h => h) (Or.inl ⟨by rfl, ?_⟩) ?_ ?_
    rotate_left
    · intro w'
      go_simp
      with_reducible rfl
    rotate_left
    · simp only [Act.put, List.setIfInBounds_toArray, List.set_cons_zero, List.set_cons_succ, i64_w, i32_w]
      rfl
    refine pure_ (i := 7) (N := some 33) (v := ?_) (a' := ?_) #[true, false, false, true, false, true, false, true, false, false, false, false, false, false, false, false, false, false] rfl rfl (by kernel_rfl) (fun _ _ _ h => h) (Or.inl ⟨by rfl, ?_⟩) ?_ ?_
    rotate_left
    · intro w'
      go_simp
      with_reducible rfl
    rotate_left
    · simp only [Act.put, List.setIfInBounds_toArray, List.set_cons_zero, List.set_cons_succ, i64_w, i32_w]
      rfl
    refine pure_ (i := 9) (N := some 35) (v := ?_) (a' := ?_) #[true, false, false, true, false, true, false, true, false, true, false, false, false, false, false, false, false, false] rfl rfl (by kernel_rfl) (fun _ _ _ h => h) (Or.inl ⟨by rfl, ?_⟩) ?_ ?_
    rotate_left
    · intro w'
      go_simp
      with_reducible rfl
    rotate_left
    · simp only [Act.put, List.setIfInBounds_toArray, List.set_cons_zero, List.set_cons_succ, i64_w, i32_w]
      rfl
    refine take_ (i := 2) (N := some 28) (v := ?_) (a' := ?_) #[true, false, true, true, false, true, false, true, false, true, false, false, false, false, false, false, false, false] rfl rfl (by kernel_rfl) (fun _ _ _ h => h) (Or.inl ⟨by rfl, ?_⟩) hHeld ?_ ?_
    rotate_left
    · rintro w' ⟨s0, s1, s2, s3, s4, s5, s6, s7, s8⟩
      go_simp
      with_reducible rfl
    rotate_left
    · simp only [Act.put, List.setIfInBounds_toArray, List.set_cons_zero, List.set_cons_succ, i64_w, i32_w]
      rfl
    refine take_ (i := 4) (N := some 30) (v := ?_) (a' := ?_) #[true, false, true, true, true, true, false, true, false, true, false, false, false, false, false, false, false, false] rfl rfl (by kernel_rfl) (fun _ _ _ h => h) (Or.inl ⟨by rfl, ?_⟩) hHeld ?_ ?_
    rotate_left
    · rintro w' ⟨s0, s1, s2, s3, s4, s5, s6, s7, s8⟩
      go_simp
      with_reducible rfl
    rotate_left
    · simp only [Act.put, List.setIfInBounds_toArray, List.set_cons_zero, List.set_cons_succ, i64_w, i32_w]
      rfl
    refine take_ (i := 6) (N := some 32) (v := ?_) (a' := ?_) #[true, false, true, true, true, true, true, true, false, true, false, false, false, false, false, false, false, false] rfl rfl (by kernel_rfl) (fun _ _ _ h => h) (Or.inl ⟨by rfl, ?_⟩) hHeld ?_ ?_
    rotate_left
    · rintro w' ⟨s0, s1, s2, s3, s4, s5, s6, s7, s8⟩
      go_simp
      with_reducible rfl
    rotate_left
    · simp only [Act.put, List.setIfInBounds_toArray, List.set_cons_zero, List.set_cons_succ, i64_w, i32_w]
      rfl
    refine take_ (i := 8) (N := some 34) (v := ?_) (a' := ?_) #[true, false, true, true, true, true, true, true, true, true, false, false, false, false, false, false, false, false] rfl rfl (by kernel_rfl) (fun _ _ _ h => h) (Or.inl ⟨by rfl, ?_⟩) hHeld ?_ ?_
    rotate_left
    · rintro w' ⟨s0, s1, s2, s3, s4, s5, s6, s7, s8⟩
      go_simp
      with_reducible rfl
    rotate_left
    · simp only [Act.put, List.setIfInBounds_toArray, List.set_cons_zero, List.set_cons_succ, i64_w, i32_w]
      rfl
    refine take_ (i := 10) (N := some 36) (v := ?_) (a' := ?_) #[true, false, true, true, true, true, true, true, true, true, true, false, false, false, false, false, false, false] rfl rfl (by kernel_rfl) (fun _ _ _ h => h) (Or.inl ⟨by rfl, ?_⟩) hHeld ?_ ?_
    rotate_left
    · rintro w' ⟨s0, s1, s2, s3, s4, s5, s6, s7, s8⟩
      go_simp
      with_reducible rfl
    rotate_left
    · simp only [Act.put, List.setIfInBounds_toArray, List.set_cons_zero, List.set_cons_succ, i64_w, i32_w]
      rfl
    refine join_ (σ := (Option Addr × Nat) × (Option Addr × Nat) × Nat × Nat) 2 #[true, true, true, true, true, true, true, true, true, true, true, true, true, true, true, true, false, false] (fun s_ => [(27, .pointer (some ⟨s_.2.2.1, 0, none⟩)), (37, .tuple #[.agg #[.int .i64 r1, .int .i64 r2, .int .i64 r3, .int .i64 r4, .int .i64 r5, .slice s_.1.1 r6.length s_.1.2, .slice s_.2.1.1 r7.length s_.2.1.2], .int .i64 r8]), (25, .tuple #[.agg #[.int .i64 r1, .int .i64 r2, .int .i64 r3, .int .i64 r4, .int .i64 r5, .slice s_.1.1 r6.length s_.1.2, .slice s_.2.1.1 r7.length s_.2.1.2], .int .i64 r8]), (38, .agg #[.int .i64 r1, .int .i64 r2, .int .i64 r3, .int .i64 r4, .int .i64 r5, .slice s_.1.1 r6.length s_.1.2, .slice s_.2.1.1 r7.length s_.2.1.2]), (39, .int .i64 r8), (7, .pointer (some ⟨s_.2.2.2, 0, none⟩))]) (fun s_ w' => (w'.cell? ⟨w.heap.size, 0, none⟩ = some (.int .i64 c0) ∧ w'.cell? ⟨w.heap.size, 1, none⟩ = some (.int .i64 c1) ∧ w'.cell? ⟨w.heap.size, 2, none⟩ = some (.int .i64 c2) ∧ w'.cell? ⟨w.heap.size, 3, none⟩ = some (.int .i64 c3) ∧ w'.cell? ⟨w.heap.size, 4, none⟩ = some (.int .i64 c4) ∧ w'.cell? ⟨w.heap.size + 1, 0, none⟩ = some (.int .i64 n0) ∧ w'.cell? ⟨w.heap.size + 1, 1, none⟩ = some (.int .i64 n1) ∧ w'.cell? ⟨w.heap.size + 1, 2, none⟩ = some (.int .i64 n2) ∧ w'.cell? ⟨w.heap.size + 1, 3, none⟩ = some (.int .i64 n3)) ∧ w'.heap[w.heap.size]? = some (.cells #[.int .i64 c0, .int .i64 c1, .int .i64 c2, .int .i64 c3, .int .i64 c4] 31 (0, 0)) ∧ w'.heap[w.heap.size + 1]? = some (.cells #[.int .i64 n0, .int .i64 n1, .int .i64 n2, .int .i64 n3] 46 (0, 0)) ∧ w'.heap[s_.2.2.2]? = some (.cells #[.int .i64 0, .int .i64 0, .int .i64 0, .int .i64 0, .int .i64 0, .slice none 0 0, .slice none 0 0] 49 (0, 0)) ∧ w1.heap.size ≤ s_.2.2.2 ∧ Kd.S (Kd.slice 37 k37) 55 w' w1.heap.size (fun _ => True) (.slice s_.1.1 r6.length s_.1.2) r6 ∧ r6.length ≤ s_.1.2 ∧ Kd.R (Kd.int .i64) 3 w' w1.heap.size (fun _ => True) (.slice s_.2.1.1 r7.length s_.2.1.2) r7 ∧ r7.length ≤ s_.2.1.2 ∧ Below w1.heap.size w1 w') ?_ ?_
    rotate_left
    · intro hCont
      refine two_ (i := 1) (j := 15) (Ni := some 27) (Nj := some 7) #[true, true, true, true, true, true, true, true, true, true, true, false, false, false, false, false, false, false] #[true, false, true, true, true, true, true, true, true, true, true, false, false, false, false, true, false, false] rfl rfl rfl rfl (by kernel_rfl) (by decide) (by decide) (fun K hK => ?_) (fun K hK => ?_)
      · skip
        refine goes_ Try.func11 (by kernel_rfl) rfl #[.int .u64 (I b)] (by rfl) rfl rfl (by simp only [List.map_toArray, List.map_cons, List.map_nil]; rfl) ?_
        with_reducible refine (mint_New.calls (I b) (I (seed0 b)) _ _ (Below.refl _ _) (new_f b)).mono ?_
        rintro e wN ⟨gM, rfl, IM, _, BM⟩
        refine ⟨_, rfl, ?_⟩
        have CCn := Aside0.mk (blk_below CC.out BM)
        have NNn := Aside0.mk (blk_below NN.out BM)
        have BBn := Aside0.mk (below_step BB.out BM)
        have JM := Aside0.mk (rebase IM BB.out.size)
        have NC := Aside0.mk (show w.heap.size ≠ gM by have := blk_lt CC.out; have := IM.ge; omega)
        have NC2 := Aside0.mk (show w.heap.size + 1 ≠ gM by have := blk_lt NN.out; have := IM.ge; omega)
        clear CC NN BB
        have CC := CCn
        have NN := NNn
        have BB := BBn
        clear CCn NNn BBn
        clear IM BM
        refine hK.out _ _ ⟨(blk_cell CC.out 0).trans rfl, (blk_cell CC.out 1).trans rfl, (blk_cell CC.out 2).trans rfl, (blk_cell CC.out 3).trans rfl, (blk_cell CC.out 4).trans rfl, (blk_cell NN.out 0).trans rfl, (blk_cell NN.out 1).trans rfl, (blk_cell NN.out 2).trans rfl, (blk_cell NN.out 3).trans rfl⟩ (fun hHeld => ?_)
        clear hK K
        refine norm_ (a' := ?_) ?_ ?_
        rotate_left
        · show Act.put _ (some 27) _ = _
          simp only [Act.put, List.setIfInBounds_toArray, List.set_cons_zero, List.set_cons_succ, i64_w, i32_w]
          rfl
        refine two_ (i := 11) (j := 15) (Ni := some 37) (Nj := some 7) #[true, true, true, true, true, true, true, true, true, true, true, true, false, false, false, false, false, false] #[true, true, true, true, true, true, true, true, true, true, true, false, false, false, false, true, false, false] rfl rfl rfl rfl (by kernel_rfl) (by decide) (by decide) (fun K hK => ?_) (fun K hK => ?_)
        · skip
          refine goes_ Try.func20 (by kernel_rfl) rfl #[.pointer (some ⟨gM, 0, none⟩), Value.agg #[.int .i64 c0, .int .i64 c1, .int .i64 c2, .int .i64 c3, .int .i64 c4], .int .i64 n0, .int .i64 n1, .int .i64 n2, .int .i64 n3] (by rfl) rfl rfl (by simp only [List.map_toArray, List.map_cons, List.map_nil]; rfl) ?_
          with_reducible refine (mint_Mint_Script.calls 8000 gM (I (seed0 b)) c0 c1 c2 c3 c4 n0 n1 n2 n3 r1 r2 r3 r4 r5 r6 r7 r8 (I s1) w1 _ JM.out BB.out HS.out).mono ?_
          rintro e wS ⟨v5, v6, rfl, R5, R6, _, BS, KB⟩
          refine ⟨_, rfl, ?_⟩
          obtain ⟨A5, c5, rfl, hc5, hC5⟩ := Kd.S_reads R5
          obtain ⟨A6, c6, rfl, hc6, hC6⟩ := Kd.R_reads R6
          have X5 := Aside0.mk (Kd.S_lower R5 (show w1.heap.size ≤ _ from BB.out.size))
          have X6 := Aside0.mk (Kd.R_lower R6 (show w1.heap.size ≤ _ from BB.out.size))
          have Y5 := Aside0.mk hc5
          have Y6 := Aside0.mk hc6
          have CCn := Aside0.mk (KB.blk CC.out NC.out (by simp))
          have NNn := Aside0.mk (KB.blk NN.out NC2.out (by simp))
          have BBn := Aside0.mk BS
          clear CC NN BB
          have CC := CCn
          have NN := NNn
          have BB := BBn
          clear CCn NNn BBn
          clear R5 R6 hC5 hC6 hc5 hc6 BS KB JM
          refine hK.out _ _ ⟨(blk_cell CC.out 0).trans rfl, (blk_cell CC.out 1).trans rfl, (blk_cell CC.out 2).trans rfl, (blk_cell CC.out 3).trans rfl, (blk_cell CC.out 4).trans rfl, (blk_cell NN.out 0).trans rfl, (blk_cell NN.out 1).trans rfl, (blk_cell NN.out 2).trans rfl, (blk_cell NN.out 3).trans rfl⟩ (fun hHeld => ?_)
          clear hK K
          refine norm_ (a' := ?_) ?_ ?_
          rotate_left
          · show Act.put _ (some 37) _ = _
            simp only [Act.put, List.setIfInBounds_toArray, List.set_cons_zero, List.set_cons_succ, i64_w, i32_w]
            rfl
          refine pure_ (i := 12) (N := some 25) (v := ?_) (a' := ?_) #[true, true, true, true, true, true, true, true, true, true, true, true, true, false, false, false, false, false] rfl rfl (by kernel_rfl) (fun _ _ _ h => h) (Or.inl ⟨by rfl, ?_⟩) ?_ ?_
          rotate_left
          · intro w'
            go_simp
            with_reducible rfl
          rotate_left
          · simp only [Act.put, List.setIfInBounds_toArray, List.set_cons_zero, List.set_cons_succ, i64_w, i32_w]
            rfl
          refine pure_ (i := 13) (N := some 38) (v := ?_) (a' := ?_) #[true, true, true, true, true, true, true, true, true, true, true, true, true, true, false, false, false, false] rfl rfl (by kernel_rfl) (fun _ _ _ h => h) (Or.inl ⟨by rfl, ?_⟩) ?_ ?_
          rotate_left
          · intro w'
            go_simp
            with_reducible rfl
          rotate_left
          · simp only [Act.put, List.setIfInBounds_toArray, List.set_cons_zero, List.set_cons_succ, i64_w, i32_w]
            rfl
          refine pure_ (i := 14) (N := some 39) (v := ?_) (a' := ?_) #[true, true, true, true, true, true, true, true, true, true, true, true, true, true, true, false, false, false] rfl rfl (by kernel_rfl) (fun _ _ _ h => h) (Or.inl ⟨by rfl, ?_⟩) ?_ ?_
          rotate_left
          · intro w'
            go_simp
            with_reducible rfl
          rotate_left
          · simp only [Act.put, List.setIfInBounds_toArray, List.set_cons_zero, List.set_cons_succ, i64_w, i32_w]
            rfl
          refine one_ (i := 15) (N := some 7) #[true, true, true, true, true, true, true, true, true, true, true, true, true, true, true, true, false, false] rfl rfl (by kernel_rfl) (by decide) (fun K hK => ?_)
          refine box_step ?hg (N := 7) ?hd (cs := #[.int .i64 0, .int .i64 0, .int .i64 0, .int .i64 0, .int .i64 0, .slice none 0 0, .slice none 0 0]) (t := 49) ?hr ?_; (case hd => rfl); (case hg => rfl); (case hr => first | (go_simp; done) | (go_simp; rfl))
          intro gS hg wA hbox hb
          have CCn := Aside0.mk (blk_below CC.out hb)
          have NNn := Aside0.mk (blk_below NN.out hb)
          have BBn := Aside0.mk (below_step BB.out hb)
          have GW := Aside0.mk (show w1.heap.size ≤ gS by rw [hg]; exact BB.out.size)
          have GS := Aside0.mk hbox
          have X5n := Aside0.mk (Kd.S_below X5.out hb)
          have X6n := Aside0.mk (Kd.R_below X6.out hb)
          clear X5 X6
          have X5 := X5n
          have X6 := X6n
          clear X5n X6n
          clear CC NN BB
          have CC := CCn
          have NN := NNn
          have BB := BBn
          clear CCn NNn BBn
          clear hg hbox hb
          refine hK.out _ _ ⟨(blk_cell CC.out 0).trans rfl, (blk_cell CC.out 1).trans rfl, (blk_cell CC.out 2).trans rfl, (blk_cell CC.out 3).trans rfl, (blk_cell CC.out 4).trans rfl, (blk_cell NN.out 0).trans rfl, (blk_cell NN.out 1).trans rfl, (blk_cell NN.out 2).trans rfl, (blk_cell NN.out 3).trans rfl⟩ (fun hHeld => ?_)
          clear hK K
          refine norm_ (a' := ?_) ?_ ?_
          rotate_left
          · show Act.put _ (some 7) _ = _
            simp only [Act.put, List.setIfInBounds_toArray, List.set_cons_zero, List.set_cons_succ, i64_w, i32_w]
            rfl
          exact norm_ (by simp only [putAll, Act.put, List.setIfInBounds_toArray, List.set_cons_zero, List.set_cons_succ]) (hCont ((A5, c5), (A6, c6), gM, gS) _ ⟨hHeld, CC.out, NN.out, GS.out, GW.out, X5.out, Y5.out, X6.out, Y6.out, BB.out⟩)
        · skip
          refine box_step ?hg (N := 7) ?hd (cs := #[.int .i64 0, .int .i64 0, .int .i64 0, .int .i64 0, .int .i64 0, .slice none 0 0, .slice none 0 0]) (t := 49) ?hr ?_; (case hd => rfl); (case hg => rfl); (case hr => first | (go_simp; done) | (go_simp; rfl))
          intro gS hg wA hbox hb
          have CCn := Aside0.mk (blk_below CC.out hb)
          have NNn := Aside0.mk (blk_below NN.out hb)
          have BBn := Aside0.mk (below_step BB.out hb)
          have GW := Aside0.mk (show w1.heap.size ≤ gS by rw [hg]; exact BB.out.size)
          have GS := Aside0.mk hbox
          have NG := Aside0.mk (show gS ≠ gM by rw [hg]; exact (Nat.ne_of_lt JM.out.lt).symm)
          have JMn := Aside0.mk (JM.out.below hb)
          clear JM
          have JM := JMn
          clear JMn
          clear CC NN BB
          have CC := CCn
          have NN := NNn
          have BB := BBn
          clear CCn NNn BBn
          clear hg hbox hb
          refine hK.out _ _ ⟨(blk_cell CC.out 0).trans rfl, (blk_cell CC.out 1).trans rfl, (blk_cell CC.out 2).trans rfl, (blk_cell CC.out 3).trans rfl, (blk_cell CC.out 4).trans rfl, (blk_cell NN.out 0).trans rfl, (blk_cell NN.out 1).trans rfl, (blk_cell NN.out 2).trans rfl, (blk_cell NN.out 3).trans rfl⟩ (fun hHeld => ?_)
          clear hK K
          refine norm_ (a' := ?_) ?_ ?_
          rotate_left
          · show Act.put _ (some 7) _ = _
            simp only [Act.put, List.setIfInBounds_toArray, List.set_cons_zero, List.set_cons_succ, i64_w, i32_w]
            rfl
          refine one_ (i := 11) (N := some 37) #[true, true, true, true, true, true, true, true, true, true, true, true, false, false, false, true, false, false] rfl rfl (by kernel_rfl) (by decide) (fun K hK => ?_)
          refine goes_ Try.func20 (by kernel_rfl) rfl #[.pointer (some ⟨gM, 0, none⟩), Value.agg #[.int .i64 c0, .int .i64 c1, .int .i64 c2, .int .i64 c3, .int .i64 c4], .int .i64 n0, .int .i64 n1, .int .i64 n2, .int .i64 n3] (by rfl) rfl rfl (by simp only [List.map_toArray, List.map_cons, List.map_nil]; rfl) ?_
          with_reducible refine (mint_Mint_Script.calls 8000 gM (I (seed0 b)) c0 c1 c2 c3 c4 n0 n1 n2 n3 r1 r2 r3 r4 r5 r6 r7 r8 (I s1) w1 _ JM.out BB.out HS.out).mono ?_
          rintro e wS ⟨v5, v6, rfl, R5, R6, _, BS, KB⟩
          refine ⟨_, rfl, ?_⟩
          obtain ⟨A5, c5, rfl, hc5, hC5⟩ := Kd.S_reads R5
          obtain ⟨A6, c6, rfl, hc6, hC6⟩ := Kd.R_reads R6
          have X5 := Aside0.mk (Kd.S_lower R5 (show w1.heap.size ≤ _ from BB.out.size))
          have X6 := Aside0.mk (Kd.R_lower R6 (show w1.heap.size ≤ _ from BB.out.size))
          have Y5 := Aside0.mk hc5
          have Y6 := Aside0.mk hc6
          have CCn := Aside0.mk (KB.blk CC.out NC.out (by simp))
          have NNn := Aside0.mk (KB.blk NN.out NC2.out (by simp))
          have BBn := Aside0.mk BS
          have GSn := Aside0.mk (KB.blk GS.out NG.out (by simp))
          clear GS
          have GS := GSn
          clear GSn
          clear CC NN BB
          have CC := CCn
          have NN := NNn
          have BB := BBn
          clear CCn NNn BBn
          clear R5 R6 hC5 hC6 hc5 hc6 BS KB JM
          refine hK.out _ _ ⟨(blk_cell CC.out 0).trans rfl, (blk_cell CC.out 1).trans rfl, (blk_cell CC.out 2).trans rfl, (blk_cell CC.out 3).trans rfl, (blk_cell CC.out 4).trans rfl, (blk_cell NN.out 0).trans rfl, (blk_cell NN.out 1).trans rfl, (blk_cell NN.out 2).trans rfl, (blk_cell NN.out 3).trans rfl⟩ (fun hHeld => ?_)
          clear hK K
          refine norm_ (a' := ?_) ?_ ?_
          rotate_left
          · show Act.put _ (some 37) _ = _
            simp only [Act.put, List.setIfInBounds_toArray, List.set_cons_zero, List.set_cons_succ, i64_w, i32_w]
            rfl
          refine pure_ (i := 12) (N := some 25) (v := ?_) (a' := ?_) #[true, true, true, true, true, true, true, true, true, true, true, true, true, false, false, true, false, false] rfl rfl (by kernel_rfl) (fun _ _ _ h => h) (Or.inl ⟨by rfl, ?_⟩) ?_ ?_
          rotate_left
          · intro w'
            go_simp
            with_reducible rfl
          rotate_left
          · simp only [Act.put, List.setIfInBounds_toArray, List.set_cons_zero, List.set_cons_succ, i64_w, i32_w]
            rfl
          refine pure_ (i := 13) (N := some 38) (v := ?_) (a' := ?_) #[true, true, true, true, true, true, true, true, true, true, true, true, true, true, false, true, false, false] rfl rfl (by kernel_rfl) (fun _ _ _ h => h) (Or.inl ⟨by rfl, ?_⟩) ?_ ?_
          rotate_left
          · intro w'
            go_simp
            with_reducible rfl
          rotate_left
          · simp only [Act.put, List.setIfInBounds_toArray, List.set_cons_zero, List.set_cons_succ, i64_w, i32_w]
            rfl
          refine pure_ (i := 14) (N := some 39) (v := ?_) (a' := ?_) #[true, true, true, true, true, true, true, true, true, true, true, true, true, true, true, true, false, false] rfl rfl (by kernel_rfl) (fun _ _ _ h => h) (Or.inl ⟨by rfl, ?_⟩) ?_ ?_
          rotate_left
          · intro w'
            go_simp
            with_reducible rfl
          rotate_left
          · simp only [Act.put, List.setIfInBounds_toArray, List.set_cons_zero, List.set_cons_succ, i64_w, i32_w]
            rfl
          exact norm_ (by simp only [putAll, Act.put, List.setIfInBounds_toArray, List.set_cons_zero, List.set_cons_succ]) (hCont ((A5, c5), (A6, c6), gM, gS) _ ⟨hHeld, CC.out, NN.out, GS.out, GW.out, X5.out, Y5.out, X6.out, Y6.out, BB.out⟩)
      · skip
        refine box_step ?hg (N := 7) ?hd (cs := #[.int .i64 0, .int .i64 0, .int .i64 0, .int .i64 0, .int .i64 0, .slice none 0 0, .slice none 0 0]) (t := 49) ?hr ?_; (case hd => rfl); (case hg => rfl); (case hr => first | (go_simp; done) | (go_simp; rfl))
        intro gS hg wA hbox hb
        have CCn := Aside0.mk (blk_below CC.out hb)
        have NNn := Aside0.mk (blk_below NN.out hb)
        have BBn := Aside0.mk (below_step BB.out hb)
        have GW := Aside0.mk (show w1.heap.size ≤ gS by rw [hg]; exact BB.out.size)
        have GS := Aside0.mk hbox
        clear CC NN BB
        have CC := CCn
        have NN := NNn
        have BB := BBn
        clear CCn NNn BBn
        clear hg hbox hb
        refine hK.out _ _ ⟨(blk_cell CC.out 0).trans rfl, (blk_cell CC.out 1).trans rfl, (blk_cell CC.out 2).trans rfl, (blk_cell CC.out 3).trans rfl, (blk_cell CC.out 4).trans rfl, (blk_cell NN.out 0).trans rfl, (blk_cell NN.out 1).trans rfl, (blk_cell NN.out 2).trans rfl, (blk_cell NN.out 3).trans rfl⟩ (fun hHeld => ?_)
        clear hK K
        refine norm_ (a' := ?_) ?_ ?_
        rotate_left
        · show Act.put _ (some 7) _ = _
          simp only [Act.put, List.setIfInBounds_toArray, List.set_cons_zero, List.set_cons_succ, i64_w, i32_w]
          rfl
        refine one_ (i := 1) (N := some 27) #[true, true, true, true, true, true, true, true, true, true, true, false, false, false, false, true, false, false] rfl rfl (by kernel_rfl) (by decide) (fun K hK => ?_)
        refine goes_ Try.func11 (by kernel_rfl) rfl #[.int .u64 (I b)] (by rfl) rfl rfl (by simp only [List.map_toArray, List.map_cons, List.map_nil]; rfl) ?_
        with_reducible refine (mint_New.calls (I b) (I (seed0 b)) _ _ (Below.refl _ _) (new_f b)).mono ?_
        rintro e wN ⟨gM, rfl, IM, _, BM⟩
        refine ⟨_, rfl, ?_⟩
        have CCn := Aside0.mk (blk_below CC.out BM)
        have NNn := Aside0.mk (blk_below NN.out BM)
        have BBn := Aside0.mk (below_step BB.out BM)
        have JM := Aside0.mk (rebase IM BB.out.size)
        have NC := Aside0.mk (show w.heap.size ≠ gM by have := blk_lt CC.out; have := IM.ge; omega)
        have NC2 := Aside0.mk (show w.heap.size + 1 ≠ gM by have := blk_lt NN.out; have := IM.ge; omega)
        have GSn := Aside0.mk (blk_below GS.out BM)
        have NG := Aside0.mk (show gS ≠ gM by have := blk_lt GS.out; have := IM.ge; omega)
        clear GS
        have GS := GSn
        clear GSn
        clear CC NN BB
        have CC := CCn
        have NN := NNn
        have BB := BBn
        clear CCn NNn BBn
        clear IM BM
        refine hK.out _ _ ⟨(blk_cell CC.out 0).trans rfl, (blk_cell CC.out 1).trans rfl, (blk_cell CC.out 2).trans rfl, (blk_cell CC.out 3).trans rfl, (blk_cell CC.out 4).trans rfl, (blk_cell NN.out 0).trans rfl, (blk_cell NN.out 1).trans rfl, (blk_cell NN.out 2).trans rfl, (blk_cell NN.out 3).trans rfl⟩ (fun hHeld => ?_)
        clear hK K
        refine norm_ (a' := ?_) ?_ ?_
        rotate_left
        · show Act.put _ (some 27) _ = _
          simp only [Act.put, List.setIfInBounds_toArray, List.set_cons_zero, List.set_cons_succ, i64_w, i32_w]
          rfl
        refine one_ (i := 11) (N := some 37) #[true, true, true, true, true, true, true, true, true, true, true, true, false, false, false, true, false, false] rfl rfl (by kernel_rfl) (by decide) (fun K hK => ?_)
        refine goes_ Try.func20 (by kernel_rfl) rfl #[.pointer (some ⟨gM, 0, none⟩), Value.agg #[.int .i64 c0, .int .i64 c1, .int .i64 c2, .int .i64 c3, .int .i64 c4], .int .i64 n0, .int .i64 n1, .int .i64 n2, .int .i64 n3] (by rfl) rfl rfl (by simp only [List.map_toArray, List.map_cons, List.map_nil]; rfl) ?_
        with_reducible refine (mint_Mint_Script.calls 8000 gM (I (seed0 b)) c0 c1 c2 c3 c4 n0 n1 n2 n3 r1 r2 r3 r4 r5 r6 r7 r8 (I s1) w1 _ JM.out BB.out HS.out).mono ?_
        rintro e wS ⟨v5, v6, rfl, R5, R6, _, BS, KB⟩
        refine ⟨_, rfl, ?_⟩
        obtain ⟨A5, c5, rfl, hc5, hC5⟩ := Kd.S_reads R5
        obtain ⟨A6, c6, rfl, hc6, hC6⟩ := Kd.R_reads R6
        have X5 := Aside0.mk (Kd.S_lower R5 (show w1.heap.size ≤ _ from BB.out.size))
        have X6 := Aside0.mk (Kd.R_lower R6 (show w1.heap.size ≤ _ from BB.out.size))
        have Y5 := Aside0.mk hc5
        have Y6 := Aside0.mk hc6
        have CCn := Aside0.mk (KB.blk CC.out NC.out (by simp))
        have NNn := Aside0.mk (KB.blk NN.out NC2.out (by simp))
        have BBn := Aside0.mk BS
        have GSn := Aside0.mk (KB.blk GS.out NG.out (by simp))
        clear GS
        have GS := GSn
        clear GSn
        clear CC NN BB
        have CC := CCn
        have NN := NNn
        have BB := BBn
        clear CCn NNn BBn
        clear R5 R6 hC5 hC6 hc5 hc6 BS KB JM
        refine hK.out _ _ ⟨(blk_cell CC.out 0).trans rfl, (blk_cell CC.out 1).trans rfl, (blk_cell CC.out 2).trans rfl, (blk_cell CC.out 3).trans rfl, (blk_cell CC.out 4).trans rfl, (blk_cell NN.out 0).trans rfl, (blk_cell NN.out 1).trans rfl, (blk_cell NN.out 2).trans rfl, (blk_cell NN.out 3).trans rfl⟩ (fun hHeld => ?_)
        clear hK K
        refine norm_ (a' := ?_) ?_ ?_
        rotate_left
        · show Act.put _ (some 37) _ = _
          simp only [Act.put, List.setIfInBounds_toArray, List.set_cons_zero, List.set_cons_succ, i64_w, i32_w]
          rfl
        refine pure_ (i := 12) (N := some 25) (v := ?_) (a' := ?_) #[true, true, true, true, true, true, true, true, true, true, true, true, true, false, false, true, false, false] rfl rfl (by kernel_rfl) (fun _ _ _ h => h) (Or.inl ⟨by rfl, ?_⟩) ?_ ?_
        rotate_left
        · intro w'
          go_simp
          with_reducible rfl
        rotate_left
        · simp only [Act.put, List.setIfInBounds_toArray, List.set_cons_zero, List.set_cons_succ, i64_w, i32_w]
          rfl
        refine pure_ (i := 13) (N := some 38) (v := ?_) (a' := ?_) #[true, true, true, true, true, true, true, true, true, true, true, true, true, true, false, true, false, false] rfl rfl (by kernel_rfl) (fun _ _ _ h => h) (Or.inl ⟨by rfl, ?_⟩) ?_ ?_
        rotate_left
        · intro w'
          go_simp
          with_reducible rfl
        rotate_left
        · simp only [Act.put, List.setIfInBounds_toArray, List.set_cons_zero, List.set_cons_succ, i64_w, i32_w]
          rfl
        refine pure_ (i := 14) (N := some 39) (v := ?_) (a' := ?_) #[true, true, true, true, true, true, true, true, true, true, true, true, true, true, true, true, false, false] rfl rfl (by kernel_rfl) (fun _ _ _ h => h) (Or.inl ⟨by rfl, ?_⟩) ?_ ?_
        rotate_left
        · intro w'
          go_simp
          with_reducible rfl
        rotate_left
        · simp only [Act.put, List.setIfInBounds_toArray, List.set_cons_zero, List.set_cons_succ, i64_w, i32_w]
          rfl
        exact norm_ (by simp only [putAll, Act.put, List.setIfInBounds_toArray, List.set_cons_zero, List.set_cons_succ]) (hCont ((A5, c5), (A6, c6), gM, gS) _ ⟨hHeld, CC.out, NN.out, GS.out, GW.out, X5.out, Y5.out, X6.out, Y6.out, BB.out⟩)
    rintro ⟨⟨A5, c5⟩, ⟨A6, c6⟩, gM, gS⟩ wF ⟨hHeld, f1_, f9_, f2_, f3_, f4_, f5_, f6_, f7_, f8_⟩
    have CC := Aside0.mk f1_
    have NN := Aside0.mk f9_
    have GS := Aside0.mk (show wF.heap[gS]? = some (.cells #[.int .i64 0, .int .i64 0, .int .i64 0, .int .i64 0, .int .i64 0, .slice none 0 0, .slice none 0 0] 49 (0, 0)) from f2_)
    have GW := Aside0.mk (show w1.heap.size ≤ gS from f3_)
    have X5 := Aside0.mk (show Kd.S (Kd.slice 37 k37) 55 wF w1.heap.size (fun _ => True) (.slice A5 r6.length c5) r6 from f4_)
    have Y5 := Aside0.mk (show r6.length ≤ c5 from f5_)
    have X6 := Aside0.mk (show Kd.R (Kd.int .i64) 3 wF w1.heap.size (fun _ => True) (.slice A6 r7.length c6) r7 from f6_)
    have Y6 := Aside0.mk (show r7.length ≤ c6 from f7_)
    have BB := Aside0.mk f8_
    clear f1_ f2_ f3_ f4_ f5_ f6_ f7_ f8_ f9_
    refine norm_ (a' := ?_) ?_ ?_
    rotate_left
    · simp only [putAll, Act.put, List.setIfInBounds_toArray, List.set_cons_zero, List.set_cons_succ]
      rfl
    refine one_ (i := 16) (N := none) #[true, true, true, true, true, true, true, true, true, true, true, true, true, true, true, true, true, false] rfl rfl (by kernel_rfl) (by decide) (fun K hK => ?_)
    have z0 : wF.cell? ⟨gS, 0, none⟩ = some (.int .i64 0) := (blk_cell GS.out 0).trans rfl
    have z1 : wF.cell? ⟨gS, 1, none⟩ = some (.int .i64 0) := (blk_cell GS.out 1).trans rfl
    have z2 : wF.cell? ⟨gS, 2, none⟩ = some (.int .i64 0) := (blk_cell GS.out 2).trans rfl
    have z3 : wF.cell? ⟨gS, 3, none⟩ = some (.int .i64 0) := (blk_cell GS.out 3).trans rfl
    have z4 : wF.cell? ⟨gS, 4, none⟩ = some (.int .i64 0) := (blk_cell GS.out 4).trans rfl
    have z5 : wF.cell? ⟨gS, 5, none⟩ = some (.slice none 0 0) := (blk_cell GS.out 5).trans rfl
    have z6 : wF.cell? ⟨gS, 6, none⟩ = some (.slice none 0 0) := (blk_cell GS.out 6).trans rfl
    have y0 : wF.frozen? ⟨gS, 0, none⟩ = false := blk_frozen GS.out 0
    have y1 : wF.frozen? ⟨gS, 1, none⟩ = false := blk_frozen GS.out 1
    have y2 : wF.frozen? ⟨gS, 2, none⟩ = false := blk_frozen GS.out 2
    have y3 : wF.frozen? ⟨gS, 3, none⟩ = false := blk_frozen GS.out 3
    have y4 : wF.frozen? ⟨gS, 4, none⟩ = false := blk_frozen GS.out 4
    have y5 : wF.frozen? ⟨gS, 5, none⟩ = false := blk_frozen GS.out 5
    have y6 : wF.frozen? ⟨gS, 6, none⟩ = false := blk_frozen GS.out 6
    refine skip_ (w1 := ?_) (by rfl) rfl ?_ ?_
    rotate_left
    · go_simp
      rfl
    clear z0 z1 z2 z3 z4 z5 z6 y0 y1 y2 y3 y4 y5 y6
    have P := put7 (.int .i64 r1) (.int .i64 r2) (.int .i64 r3) (.int .i64 r4) (.int .i64 r5) (.slice A5 r6.length c5) (.slice A6 r7.length c6) GS.out BB.out GW.out
    have CN := Aside0.mk (show w.heap.size ≠ gS by have := blk_lt H1.out; have := GW.out; omega)
    have CN2 := Aside0.mk (show w.heap.size + 1 ≠ gS by have := blk_lt HN.out; have := GW.out; omega)
    have Q := put7_far (W := wF) (R := gS) (.int .i64 r1) (.int .i64 r2) (.int .i64 r3) (.int .i64 r4) (.int .i64 r5) (.slice A5 r6.length c5) (.slice A6 r7.length c6)
    have CCn := Aside0.mk ((Q _ CN.out).trans CC.out)
    have NNn := Aside0.mk ((Q _ CN2.out).trans NN.out)
    have X5n := Aside0.mk (Kd.S_mono (Kd.S_step (Kd.S_types X5.out GS.out (fun q hq => (ops_types q hq).2)) (fun k ho _ => Q k ho.2)) (fun _ h => h.1))
    have X6n := Aside0.mk (Kd.R_mono (Kd.R_step (Kd.R_types X6.out GS.out int_types) (fun k ho _ => Q k ho.2)) (fun _ h => h.1))
    have GSn := Aside0.mk P.1
    have BBn := Aside0.mk P.2
    clear CC NN GS BB X5 X6
    have CC := CCn
    have NN := NNn
    have GS := GSn
    have BB := BBn
    have X5 := X5n
    have X6 := X6n
    clear CCn NNn GSn BBn X5n X6n
    clear P Q
    refine hK.out _ _ ⟨(blk_cell CC.out 0).trans rfl, (blk_cell CC.out 1).trans rfl, (blk_cell CC.out 2).trans rfl, (blk_cell CC.out 3).trans rfl, (blk_cell CC.out 4).trans rfl, (blk_cell NN.out 0).trans rfl, (blk_cell NN.out 1).trans rfl, (blk_cell NN.out 2).trans rfl, (blk_cell NN.out 3).trans rfl⟩ (fun hHeld => ?_)
    clear hK K
    refine pure_ (i := 17) (N := some 8) (v := ?_) (a' := ?_) #[true, true, true, true, true, true, true, true, true, true, true, true, true, true, true, true, true, true] rfl rfl (by kernel_rfl) (fun _ _ _ h => h) (Or.inl ⟨by rfl, ?_⟩) ?_ ?_
    rotate_left
    · intro w'
      go_simp
      with_reducible rfl
    rotate_left
    · simp only [Act.put, List.setIfInBounds_toArray, List.set_cons_zero, List.set_cons_succ, i64_w, i32_w]
      rfl
    refine done_ (by kernel_rfl) ?_

    generalize (((((((wF.setCell ⟨gS, 0, none⟩ (.int .i64 r1)).setCell ⟨gS, 1, none⟩ (.int .i64 r2)).setCell ⟨gS, 2, none⟩ (.int .i64 r3)).setCell ⟨gS, 3, none⟩ (.int .i64 r4)).setCell ⟨gS, 4, none⟩ (.int .i64 r5)).setCell ⟨gS, 5, none⟩ (.slice A5 r6.length c5)).setCell ⟨gS, 6, none⟩ (.slice A6 r7.length c6)) = w2 at CC NN GS BB X5 X6 ⊢
    have D2 := Aside0.mk (below_step C1.out BB.out)
    have xc0 : w2.cell? ⟨w.heap.size, 0, none⟩ = some (.int .i64 c0) := (blk_cell CC.out 0).trans rfl
    have xc1 : w2.cell? ⟨w.heap.size, 1, none⟩ = some (.int .i64 c1) := (blk_cell CC.out 1).trans rfl
    have xc2 : w2.cell? ⟨w.heap.size, 2, none⟩ = some (.int .i64 c2) := (blk_cell CC.out 2).trans rfl
    have xc3 : w2.cell? ⟨w.heap.size, 3, none⟩ = some (.int .i64 c3) := (blk_cell CC.out 3).trans rfl
    have xc4 : w2.cell? ⟨w.heap.size, 4, none⟩ = some (.int .i64 c4) := (blk_cell CC.out 4).trans rfl
    go_wp2_with fail
    refine (revenantref03_Check.calls 10 c0 c1 c2 c3 c4 (CheckV c0 c1 c2 c3 c4) w2 (rcheck_f (by decide) c0 c1 c2 c3 c4)).mono ?_
    rintro e w4 ⟨rfl, B4⟩
    have CCn := Aside0.mk (blk_below CC.out B4)
    have NNn := Aside0.mk (blk_below NN.out B4)
    have GSn := Aside0.mk (blk_below GS.out B4)
    have X5n := Aside0.mk (Kd.S_below X5.out B4)
    have X6n := Aside0.mk (Kd.R_below X6.out B4)
    have D4 := Aside0.mk (below_step D2.out B4)
    clear B4 D2 BB xc0 xc1 xc2 xc3 xc4
    clear CC
    have CC := CCn
    clear CCn
    clear NN
    have NN := NNn
    clear NNn
    clear GS
    have GS := GSn
    clear GSn
    clear X5
    have X5 := X5n
    clear X5n
    clear X6
    have X6 := X6n
    clear X6n
    have v0 : w4.cell? ⟨w.heap.size + 1, 0, none⟩ = some (.int .i64 n0) := (blk_cell NN.out 0).trans rfl
    have v1 : w4.cell? ⟨w.heap.size + 1, 1, none⟩ = some (.int .i64 n1) := (blk_cell NN.out 1).trans rfl
    have v2 : w4.cell? ⟨w.heap.size + 1, 2, none⟩ = some (.int .i64 n2) := (blk_cell NN.out 2).trans rfl
    have v3 : w4.cell? ⟨w.heap.size + 1, 3, none⟩ = some (.int .i64 n3) := (blk_cell NN.out 3).trans rfl
    have hcase := HCASE.out
    clear HCASE
    rcases hcase with ⟨hc, rfl, rfl, rfl, rfl, rfl, rfl, rfl, rfl⟩ | ⟨hc, hr, rfl, rfl, rfl, rfl, rfl, rfl, rfl, rfl⟩ | ⟨rfl, rfl, rfl, rfl, rfl, rfl, bE, hD⟩
    · generalize CheckV c0 c1 c2 c3 c4 = cv at *
      have t8 : (cv != 0) = true := bne_iff_ne.mpr hc
      have z0 : w4.cell? ⟨gS, 0, none⟩ = some (.int .i64 0) := (blk_cell GS.out 0).trans rfl
      have z1 : w4.cell? ⟨gS, 1, none⟩ = some (.int .i64 0) := (blk_cell GS.out 1).trans rfl
      have z2 : w4.cell? ⟨gS, 2, none⟩ = some (.int .i64 0) := (blk_cell GS.out 2).trans rfl
      have z3 : w4.cell? ⟨gS, 3, none⟩ = some (.int .i64 0) := (blk_cell GS.out 3).trans rfl
      have z4 : w4.cell? ⟨gS, 4, none⟩ = some (.int .i64 0) := (blk_cell GS.out 4).trans rfl
      have z5 : w4.cell? ⟨gS, 5, none⟩ = some (.slice A5 0 c5) := (blk_cell GS.out 5).trans rfl
      have z6 : w4.cell? ⟨gS, 6, none⟩ = some (.slice A6 0 c6) := (blk_cell GS.out 6).trans rfl
      go_wp2_with fail
      refine (same_T 0 0 0 0 0 A5 c5 [] A6 c6 [] 0 0 0 0 0 none 0 [] none 0 [] w4 (Kd.S_reads' X5.out).2.2 (Kd.R_reads' X6.out).2.2 (Nat.zero_le _) (Kd.C_nil _ _) (Kd.C_nil _ _) (Nat.le_refl _)).mono ?_
      rintro e w5 ⟨rfl, B5⟩
      go_wp2_with fail
      go_ret
      exact ⟨by simp, below_step D4.out B5⟩
    · rw [hc]
      have z0 : w4.cell? ⟨gS, 0, none⟩ = some (.int .i64 0) := (blk_cell GS.out 0).trans rfl
      have z1 : w4.cell? ⟨gS, 1, none⟩ = some (.int .i64 0) := (blk_cell GS.out 1).trans rfl
      have z2 : w4.cell? ⟨gS, 2, none⟩ = some (.int .i64 0) := (blk_cell GS.out 2).trans rfl
      have z3 : w4.cell? ⟨gS, 3, none⟩ = some (.int .i64 0) := (blk_cell GS.out 3).trans rfl
      have z4 : w4.cell? ⟨gS, 4, none⟩ = some (.int .i64 0) := (blk_cell GS.out 4).trans rfl
      have z5 : w4.cell? ⟨gS, 5, none⟩ = some (.slice A5 0 c5) := (blk_cell GS.out 5).trans rfl
      have z6 : w4.cell? ⟨gS, 6, none⟩ = some (.slice A6 0 c6) := (blk_cell GS.out 6).trans rfl
      by_cases q0 : n0 < 1
      · have u0 : decide (n0 < 1) = true := decide_eq_true q0
        go_wp2_with fail
        refine (same_T 0 0 0 0 0 A5 c5 [] A6 c6 [] 0 0 0 0 0 none 0 [] none 0 [] w4 (Kd.S_reads' X5.out).2.2 (Kd.R_reads' X6.out).2.2 (Nat.zero_le _) (Kd.C_nil _ _) (Kd.C_nil _ _) (Nat.le_refl _)).mono ?_
        rintro e w5 ⟨rfl, B5⟩
        go_wp2_with fail
        go_ret
        exact ⟨by simp, below_step D4.out B5⟩
      · have u0 : decide (n0 < 1) = false := decide_eq_false q0
        by_cases q1 : n0 > 64
        · have u1 : decide (n0 > 64) = true := decide_eq_true q1
          go_wp2_with fail
          refine (same_T 0 0 0 0 0 A5 c5 [] A6 c6 [] 0 0 0 0 0 none 0 [] none 0 [] w4 (Kd.S_reads' X5.out).2.2 (Kd.R_reads' X6.out).2.2 (Nat.zero_le _) (Kd.C_nil _ _) (Kd.C_nil _ _) (Nat.le_refl _)).mono ?_
          rintro e w5 ⟨rfl, B5⟩
          go_wp2_with fail
          go_ret
          exact ⟨by simp, below_step D4.out B5⟩
        · have u1 : decide (n0 > 64) = false := decide_eq_false q1
          by_cases q2 : n1 < 0
          · have u2 : decide (n1 < 0) = true := decide_eq_true q2
            go_wp2_with fail
            refine (same_T 0 0 0 0 0 A5 c5 [] A6 c6 [] 0 0 0 0 0 none 0 [] none 0 [] w4 (Kd.S_reads' X5.out).2.2 (Kd.R_reads' X6.out).2.2 (Nat.zero_le _) (Kd.C_nil _ _) (Kd.C_nil _ _) (Nat.le_refl _)).mono ?_
            rintro e w5 ⟨rfl, B5⟩
            go_wp2_with fail
            go_ret
            exact ⟨by simp, below_step D4.out B5⟩
          · have u2 : decide (n1 < 0) = false := decide_eq_false q2
            by_cases q3 : n1 > 64
            · have u3 : decide (n1 > 64) = true := decide_eq_true q3
              go_wp2_with fail
              refine (same_T 0 0 0 0 0 A5 c5 [] A6 c6 [] 0 0 0 0 0 none 0 [] none 0 [] w4 (Kd.S_reads' X5.out).2.2 (Kd.R_reads' X6.out).2.2 (Nat.zero_le _) (Kd.C_nil _ _) (Kd.C_nil _ _) (Nat.le_refl _)).mono ?_
              rintro e w5 ⟨rfl, B5⟩
              go_wp2_with fail
              go_ret
              exact ⟨by simp, below_step D4.out B5⟩
            · have u3 : decide (n1 > 64) = false := decide_eq_false q3
              by_cases q4 : n2 < 1
              · have u4 : decide (n2 < 1) = true := decide_eq_true q4
                go_wp2_with fail
                refine (same_T 0 0 0 0 0 A5 c5 [] A6 c6 [] 0 0 0 0 0 none 0 [] none 0 [] w4 (Kd.S_reads' X5.out).2.2 (Kd.R_reads' X6.out).2.2 (Nat.zero_le _) (Kd.C_nil _ _) (Kd.C_nil _ _) (Nat.le_refl _)).mono ?_
                rintro e w5 ⟨rfl, B5⟩
                go_wp2_with fail
                go_ret
                exact ⟨by simp, below_step D4.out B5⟩
              · have u4 : decide (n2 < 1) = false := decide_eq_false q4
                by_cases q5 : n2 > 2147483648
                · have u5 : decide (n2 > 2147483648) = true := decide_eq_true q5
                  go_wp2_with fail
                  refine (same_T 0 0 0 0 0 A5 c5 [] A6 c6 [] 0 0 0 0 0 none 0 [] none 0 [] w4 (Kd.S_reads' X5.out).2.2 (Kd.R_reads' X6.out).2.2 (Nat.zero_le _) (Kd.C_nil _ _) (Kd.C_nil _ _) (Nat.le_refl _)).mono ?_
                  rintro e w5 ⟨rfl, B5⟩
                  go_wp2_with fail
                  go_ret
                  exact ⟨by simp, below_step D4.out B5⟩
                · have u5 : decide (n2 > 2147483648) = false := decide_eq_false q5
                  by_cases q6 : n3 < 0
                  · have u6 : decide (n3 < 0) = true := decide_eq_true q6
                    go_wp2_with fail
                    refine (same_T 0 0 0 0 0 A5 c5 [] A6 c6 [] 0 0 0 0 0 none 0 [] none 0 [] w4 (Kd.S_reads' X5.out).2.2 (Kd.R_reads' X6.out).2.2 (Nat.zero_le _) (Kd.C_nil _ _) (Kd.C_nil _ _) (Nat.le_refl _)).mono ?_
                    rintro e w5 ⟨rfl, B5⟩
                    go_wp2_with fail
                    go_ret
                    exact ⟨by simp, below_step D4.out B5⟩
                  · have u6 : decide (n3 < 0) = false := decide_eq_false q6
                    by_cases q7 : n3 > 262144
                    · have u7 : decide (n3 > 262144) = true := decide_eq_true q7
                      go_wp2_with fail
                      refine (same_T 0 0 0 0 0 A5 c5 [] A6 c6 [] 0 0 0 0 0 none 0 [] none 0 [] w4 (Kd.S_reads' X5.out).2.2 (Kd.R_reads' X6.out).2.2 (Nat.zero_le _) (Kd.C_nil _ _) (Kd.C_nil _ _) (Nat.le_refl _)).mono ?_
                      rintro e w5 ⟨rfl, B5⟩
                      go_wp2_with fail
                      go_ret
                      exact ⟨by simp, below_step D4.out B5⟩
                    · exact absurd (show Rng n0 n1 n2 n3 from ⟨⟨by omega, by omega⟩, ⟨by omega, by omega⟩, ⟨by omega, by omega⟩, by omega, by omega⟩) hr
    · have D := Aside0.mk hD
      rw [hD.hc]
      have RG := Aside0.mk hD.rng
      obtain ⟨⟨q0, q0'⟩, ⟨q1, q1'⟩, ⟨q2, q2'⟩, q3, q3'⟩ := hD.rng
      have u0 : decide (n0 < 1) = false := decide_eq_false (by omega)
      have u1 : decide (n0 > 64) = false := decide_eq_false (by omega)
      have u2 : decide (n1 < 0) = false := decide_eq_false (by omega)
      have u3 : decide (n1 > 64) = false := decide_eq_false (by omega)
      have u4 : decide (n2 < 1) = false := decide_eq_false (by omega)
      have u5 : decide (n2 > 2147483648) = false := decide_eq_false (by omega)
      have u6 : decide (n3 < 0) = false := decide_eq_false (by omega)
      have u7 : decide (n3 > 262144) = false := decide_eq_false (by omega)
      clear q0 q0' q1 q1' q2 q2' q3 q3' hD
      go_wp2_with fail
      refine (revenantref34_New.calls (I b) (I (seed0 b)) w4 w4 (Below.refl _ _) (rnew_f b)).mono ?_
      rintro e w5 ⟨gR, rfl, IR, _, B5⟩
      have JR := Aside0.mk IR
      have BL := Aside0.mk B5
      have xc0 : w5.cell? ⟨w.heap.size, 0, none⟩ = some (.int .i64 c0) := (blk_cell (blk_below CC.out B5) 0).trans rfl
      have xc1 : w5.cell? ⟨w.heap.size, 1, none⟩ = some (.int .i64 c1) := (blk_cell (blk_below CC.out B5) 1).trans rfl
      have xc2 : w5.cell? ⟨w.heap.size, 2, none⟩ = some (.int .i64 c2) := (blk_cell (blk_below CC.out B5) 2).trans rfl
      have xc3 : w5.cell? ⟨w.heap.size, 3, none⟩ = some (.int .i64 c3) := (blk_cell (blk_below CC.out B5) 3).trans rfl
      have xc4 : w5.cell? ⟨w.heap.size, 4, none⟩ = some (.int .i64 c4) := (blk_cell (blk_below CC.out B5) 4).trans rfl
      clear IR B5 v0 v1 v2 v3 u0 u1 u2 u3 u4 u5 u6 u7
      go_wp2_with fail
      have GB := Aside0.mk (blk_new w5 (.cells #[.int .i64 c0, .int .i64 c1, .int .i64 c2, .int .i64 c3, .int .i64 c4, .slice none 0 0, .slice none 0 0] 49))
      have JA := Aside0.mk (IsS73.alloc JR.out (.cells #[.int .i64 c0, .int .i64 c1, .int .i64 c2, .int .i64 c3, .int .i64 c4, .slice none 0 0, .slice none 0 0] 49))
      have BA := Aside0.mk (below_alloc BL.out (.cells #[.int .i64 c0, .int .i64 c1, .int .i64 c2, .int .i64 c3, .int .i64 c4, .slice none 0 0, .slice none 0 0] 49))
      have NGR := Aside0.mk (show w5.heap.size ≠ gR by have := JR.out.lt; omega)
      have G4W := Aside0.mk (show w4.heap.size ≤ w5.heap.size from BL.out.size)
      have CCN := Aside0.mk (show gS ≠ w5.heap.size by have := blk_lt GS.out; have := BL.out.size; omega)
      clear JR BL xc0 xc1 xc2 xc3 xc4
      go_loopg [12] n0.toNat (fun kq v12 w' => ∃ (i : Int) (b1 : BitVec 64) (rows : List (List S37)) (u : Value), v12 = .int .i64 i ∧ Aside0 (0 ≤ i ∧ i + kq = n0) ∧ Aside0 (rows ++ (rowsS c0 c3 n2 n1.toNat kq b1).1 = r6 ∧ (rowsS c0 c3 n2 n1.toNat kq b1).2 = bE) ∧ Aside0 (Kd.S (Kd.slice 37 k37) 55 w' w4.heap.size (fun _ => True) u rows) ∧ Aside0 (w'.heap[w5.heap.size]? = some (.cells #[.int .i64 c0, .int .i64 c1, .int .i64 c2, .int .i64 c3, .int .i64 c4, u, .slice none 0 0] 49 (0, 0))) ∧ Aside0 (IsS73 w4 w' gR (I b1)) ∧ Aside0 (Below w4.heap.size w4 w'))
      case atStart => exact ⟨0, seed0 b, [], .slice none 0 0, rfl, ⟨by have := RG.out.1; omega⟩, ⟨by rw [D.out.rows]; exact ⟨rfl, rfl⟩⟩, ⟨Kd.S_nil _ _ _ _ _⟩, GB, JA, BA⟩
      case round =>
        clear GB JA BA
        obtain ⟨i, b1, rows, u, rfl, HI, HE, HS5, HG, HJ, HB⟩ := hrel
        have xn0 : wr.cell? ⟨w.heap.size + 1, 0, none⟩ = some (.int .i64 n0) := (blk_cell (blk_below NN.out HB.out) 0).trans rfl
        by_cases hi : i < n0
        · have s1 : decide (i < n0) = true := decide_eq_true hi
          obtain ⟨ko, rfl⟩ : ∃ m, gk = m + 1 := ⟨gk - 1, by have := HI.out; omega⟩
          have wi : wrap64 (i + 1) = i + 1 := by have := HI.out; have := RG.out.1; exact w64 (by omega) (by omega)
          have II := Aside0.mk hi
          clear hi
          go_wp2_with (first | ((with_reducible refine gate_dst (N := 107) rfl ?_); refine Kd.R_lit k37 w4.heap.size 37 ?hg (N := 107) ?hd (xs := ([] : List S37)) (inner := []) (ok := fun _ => True) (okp := fun _ => True) ?hr ?hp (fun _ hk => hk) trivial (Below.refl _ _) HB.out.size (by simp) ?_; (case hd => rfl); (case hg => rfl); (case hr => first | (go_simp; done) | (go_simp; rfl)); (case hp => exact (Reps.none _ _)); intro v107 w7 ho7 hb7 hg7 hnew7; have HR7 := Aside0.mk ho7; have HS7 := Aside0.mk (Kd.S_mono (Kd.S_after (v := .slice none 0 0) (Kd.S_apart_nil HS5.out) hg7 (.inr hnew7)) (fun k_ hk => hk.2)); have HG7 := Aside0.mk (blk_grown HG.out hg7 (by simp)); have HJ7 := Aside0.mk (IsS73.grown HJ.out hg7 (by simp)); have HB7 := Aside0.mk (below_weaken HB.out (Nat.le_refl _) hb7); clear ho7 hb7 hg7 hnew7 HS5 HG HJ HB xn0))
          go_loopg [13, 14] n1.toNat (fun kq v13 v14 w' => ∃ (j : Int) (b2 : BitVec 64) (xs : List S37), v14 = .int .i64 j ∧ Aside0 (0 ≤ j ∧ j + kq = n1) ∧ Aside0 (xs ++ (rowS c0 c3 n2 kq b2).1 = (rowS c0 c3 n2 n1.toNat b1).1 ∧ (rowS c0 c3 n2 kq b2).2 = (rowS c0 c3 n2 n1.toNat b1).2) ∧ Aside0 (xs.length = j.toNat) ∧ Aside0 (Kd.R k37 37 w' w4.heap.size (fun _ => True) v13 xs) ∧ Aside0 (Kd.S (Kd.slice 37 k37) 55 w' w4.heap.size (fun k_ => some k_ ≠ (v13 : Value).ownBlock) u rows) ∧ Aside0 (w'.heap[w5.heap.size]? = some (.cells #[.int .i64 c0, .int .i64 c1, .int .i64 c2, .int .i64 c3, .int .i64 c4, u, .slice none 0 0] 49 (0, 0))) ∧ Aside0 (IsS73 w4 w' gR (I b2)) ∧ Aside0 (Below w4.heap.size w4 w'))
          case atStart => exact ⟨0, b1, [], rfl, ⟨by have := RG.out.2.1; omega⟩, ⟨⟨rfl, rfl⟩⟩, ⟨rfl⟩, HR7, HS7, HG7, HJ7, HB7⟩
          case round =>
            clear HR7 HS7 HG7 HJ7 HB7
            obtain ⟨j, b2, xs, rfl, HI2, HE2, HL2, HR, HS5, HG, HJ, HB⟩ := hrel
            have xn1 : wr.cell? ⟨w.heap.size + 1, 1, none⟩ = some (.int .i64 n1) := (blk_cell (blk_below NN.out HB.out) 1).trans rfl
            by_cases hj : j < n1
            · have s2 : decide (j < n1) = true := decide_eq_true hj
              obtain ⟨kj, rfl⟩ : ∃ m, gk = m + 1 := ⟨gk - 1, by have := HI2.out; omega⟩
              have wj : wrap64 (j + 1) = j + 1 := by have := HI2.out; have := RG.out.2.1; exact w64 (by omega) (by omega)
              have hle : xs.length ≤ 64 := by have := HL2.out; have := RG.out.2.1; omega
              have LE := Aside0.mk hle
              have LJ := Aside0.mk (show (j + 1).toNat = xs.length + 1 by have := HL2.out; have := HI2.out; omega)
              have xn2 : wr.cell? ⟨w.heap.size + 1, 2, none⟩ = some (.int .i64 n2) := (blk_cell (blk_below NN.out HB.out) 2).trans rfl
              have xc0 : wr.cell? ⟨w.heap.size, 0, none⟩ = some (.int .i64 c0) := (blk_cell (blk_below CC.out HB.out) 0).trans rfl
              have xc1 : wr.cell? ⟨w.heap.size, 1, none⟩ = some (.int .i64 c1) := (blk_cell (blk_below CC.out HB.out) 1).trans rfl
              have xc2 : wr.cell? ⟨w.heap.size, 2, none⟩ = some (.int .i64 c2) := (blk_cell (blk_below CC.out HB.out) 2).trans rfl
              have xc3 : wr.cell? ⟨w.heap.size, 3, none⟩ = some (.int .i64 c3) := (blk_cell (blk_below CC.out HB.out) 3).trans rfl
              have xc4 : wr.cell? ⟨w.heap.size, 4, none⟩ = some (.int .i64 c4) := (blk_cell (blk_below CC.out HB.out) 4).trans rfl
              obtain ⟨p1, p2, p3, p4, b3, hop, hst⟩ := rop_step b2 c0 c1 c2 c3 c4 n2 D.out.hc RG.out.2.2.1.1 RG.out.2.2.1.2
              have HOP := Aside0.mk hop
              have HST := Aside0.mk (hst kj)
              clear hj hle hop hst
              go_wp2_with fail
              refine (revenantref34_Mint_Op.calls 1200 gR (I b2) c0 c1 c2 c3 c4 n2 p1 p2 p3 p4 (I b3) w4 wr HJ.out HB.out HOP.out).mono ?_
              rintro e w8 ⟨rfl, I8, B8, KB⟩
              have HR8 := Aside0.mk (Kd.R_mono (Kd.R_keep (IsS73.apart HJ.out HR.out (by decide)) KB (fun _ h => h.2)) (fun _ h => h.1))
              have HS8 := Aside0.mk (Kd.S_mono (Kd.S_keep (IsS73.apartS HJ.out HS5.out (by decide)) KB (fun _ h => h.2)) (fun _ h => h.1))
              have HG8 := Aside0.mk (KB.blk HG.out NGR.out (by simp))
              have HJ8 := Aside0.mk I8
              have HB8 := Aside0.mk B8
              clear I8 B8 KB HR HS5 HG HJ HB xn1 xn2 xc0 xc1 xc2 xc3 xc4
              go_wp2_with (first | ((with_reducible refine gate_builtin (b := .append) (xs := #[.tmp 114, .tmp 120]) rfl ?_); at_builtin; refine Kd.R_append k37 w4.heap.size rfl (.tmp 114) (.tmp 120) 55 37 (.agg #[(.int .i64 0), (.int .u64 0), (.int .u64 0), (.int .i64 0)]) 32 rfl Try.underlying55 info37 rfl (by decide) (by omega) _ xs (⟨p1, p2, p3, p4⟩ : S37) [.int .i64 p1, .int .u64 p2, .int .u64 p3, .int .i64 p4] (fun _ => True) (fun _ => False) rfl rfl ?aP (fun _ hk => hk.elim) ?aF ?aO (Below.refl _ _) ?aS ?aL ?_; (case aP => exact k37_mkM _ _ _ (⟨p1, p2, p3, p4⟩ : S37)); (case aF => exact (fun _ _ => trivial)); (case aO => exact HR8.out); (case aS => exact HB8.out.size); (case aL => have := LE.out; omega); intro v169 w9 ho hb hg hat; have HR9 := Aside0.mk ho; have HS9 := Aside0.mk (Kd.S_mono (Kd.S_after (ok := (fun _ => True)) (Kd.S_mono HS8.out (fun _ hk => ⟨trivial, hk⟩)) hg hat) (fun _ hk => hk.2)); have HG9 := Aside0.mk (blk_grown HG8.out hg (Kd.R_ne HR8.out HG8.out (by decide))); have HJ9 := Aside0.mk (IsS73.grown HJ8.out hg (IsS73.own_ne HJ8.out HR8.out (by decide))); have HB9 := Aside0.mk (below_weaken HB8.out (Nat.le_refl _) hb); clear ho hb hg hat HR8 HS8 HG8 HJ8 HB8))
              go_roundg kj
              case rel => exact ⟨j + 1, b3, xs ++ [⟨p1, p2, p3, p4⟩], by rw [wj], ⟨by have := HI2.out; omega⟩, ⟨by have h := HE2.out; rw [HST.out] at h; rw [List.append_assoc]; exact h⟩, ⟨by rw [List.length_append, List.length_singleton, LJ.out]⟩, HR9, HS9, HG9, HJ9, HB9⟩
              case measure => exact Nat.lt_succ_self _
            · have s2 : decide (j < n1) = false := decide_eq_false hj
              obtain rfl : gk = 0 := by have := HI2.out; omega
              have hrow : rowS c0 c3 n2 n1.toNat b1 = (xs, b2) := by
                have h := HE2.out
                exact Prod.ext (h.1.symm.trans (List.append_nil xs)) h.2.symm
              have HROW := Aside0.mk hrow
              have hle : rows.length ≤ 64 := by
                have h := congrArg List.length HE.out.1
                rw [List.length_append, D.out.len] at h
                have := RG.out.1
                omega
              have LE := Aside0.mk hle
              obtain ⟨Ao, co, eo⟩ := Kd.R_slice HR.out
              subst eo
              have xg5 : wr.cell? ⟨w5.heap.size, 5, none⟩ = some u := (blk_cell HG.out 5).trans rfl
              obtain ⟨ys, hys⟩ : ∃ ys, ys = rows ++ [xs] := ⟨_, rfl⟩
              have NY := Aside0.mk hys
              clear hj hrow hle hys
              go_wp2_with (first | ((with_reducible refine gate_builtin (b := .append) (xs := #[.tmp 123, .tmp 125]) rfl ?_); at_builtin; refine Kd.S_append (Kd.slice 37 k37) w4.heap.size rfl (.tmp 123) (.tmp 125) 47 55 (.slice none 0 0) 24 rfl Try.underlying47 info55 rfl (by decide) (by omega) u rows xs [.slice Ao xs.length co] (fun _ => True) (fun k_ => some k_ = (.slice Ao xs.length co : Value).ownBlock) rfl rfl ?aP (fun k_ hk_ => ((Kd.R_mono (ok' := fun k_ => ((fun _ => True)) k_ ∧ some k_ ≠ (u : Value).ownBlock) (Kd.R_apart' (HR.out) (Kd.S_typed HS5.out) (by decide)) (fun k_ hk => ⟨trivial, hk.2⟩))).1 k_ hk_.symm) ?aF ?aO (Below.refl _ _) ?aS ?aL ?_; (case aP => exact Kd.M_row (Kd.R_mono (Kd.R_tight rfl (Kd.R_mono (ok' := fun k_ => ((fun _ => True)) k_ ∧ some k_ ≠ (u : Value).ownBlock) (Kd.R_apart' (HR.out) (Kd.S_typed HS5.out) (by decide)) (fun k_ hk => ⟨trivial, hk.2⟩))) (fun _ h_ => h_))); (case aF => exact (fun _ _ => trivial)); (case aO => exact Kd.S_mono HS5.out (fun k_ hk => ⟨trivial, fun e_ => hk e_⟩)); (case aS => exact HB.out.size); (case aL => have := LE.out; omega); intro v172 w50 ho hb hg hat; rw [← NY.out] at ho; have HS9 := Aside0.mk ho; have HG9 := Aside0.mk (blk_grown HG.out hg (Kd.S_ne HS5.out HG.out (by decide))); have HJ9 := Aside0.mk (IsS73.grown HJ.out hg (IsS73.own_neS HJ.out HS5.out (by decide))); have HB9 := Aside0.mk (below_weaken HB.out (Nat.le_refl _) hb); clear ho hb hg hat HR HS5 HG HJ HB xn1 xg5; obtain ⟨Av, cv, ev⟩ := Kd.S_slice HS9.out; subst ev; have hz5 : w50.cell? ⟨w5.heap.size, 5, none⟩ = some (u) := (blk_cell HG9.out 5).trans rfl; have hf5 := blk_frozen HG9.out 5; skip))
              go_roundg ko
              case rel => exact ⟨i + 1, b2, ys, .slice Av ys.length cv, by rw [wi], ⟨by have := HI.out; omega⟩, ⟨by have h := HE.out; rw [rowsS_succ, HROW.out] at h; rw [NY.out, List.append_assoc]; exact h⟩, ⟨Kd.S_mono (Kd.S_far (p := ⟨w5.heap.size, 5, none⟩) (Kd.S_types HS9.out HG9.out (by decide)) (fun _ hk => hk.2) (.slice Av ys.length cv)) (fun _ hk => trivial)⟩, ⟨blk_put (cs := #[.int .i64 c0, .int .i64 c1, .int .i64 c2, .int .i64 c3, .int .i64 c4, u, .slice none 0 0]) HG9.out 5 _ rfl⟩, ⟨IsS73.far HJ9.out NGR.out.symm _⟩, ⟨below_set HB9.out G4W.out⟩⟩
              case measure => exact Nat.lt_succ_self _
        · have s1 : decide (i < n0) = false := decide_eq_false hi
          obtain rfl : gk = 0 := by have := HI.out; omega
          have hr6 : rows = r6 := (List.append_nil rows).symm.trans HE.out.1
          have hbE : b1 = bE := HE.out.2
          subst hr6
          subst hbE
          obtain ⟨ee, hpk⟩ := D.out.picks
          have HPK := Aside0.mk hpk
          have xn3 : wr.cell? ⟨w.heap.size + 1, 3, none⟩ = some (.int .i64 n3) := (blk_cell (blk_below NN.out HB.out) 3).trans rfl
          obtain ⟨Au, cu, eu⟩ := Kd.S_slice HS5.out
          subst eu
          clear hi hpk
          go_wp2_with fail
          refine (revenantref34_Mint_Picks.calls 3000 gR (I b1) n0 n3 8 r7 (I ee) w4 wr HJ.out HB.out HPK.out).mono ?_
          rintro e w8 ⟨v9, rfl, R9, I8, B8, KB⟩
          obtain ⟨Ap, cp, rfl, hcp, _⟩ := Kd.R_reads R9
          have HS8 := Aside0.mk (Kd.S_mono (Kd.S_keep (IsS73.apartS HJ.out HS5.out (by decide)) KB (fun _ h => h.2)) (fun _ h => h.1))
          have HG8 := Aside0.mk (KB.blk HG.out NGR.out (by simp))
          have HB8 := Aside0.mk B8
          have HP8 := Aside0.mk R9
          have HCP := Aside0.mk hcp
          have n1_ : gS ≠ w5.heap.size := CCN.out
          have n2_ : w5.heap.size ≠ gS := CCN.out.symm
          clear R9 I8 B8 KB HS5 HG HJ HB xn0 xn3 hcp
          have z0 : w8.cell? ⟨gS, 0, none⟩ = some (.int .i64 c0) := (blk_cell (blk_below GS.out HB8.out) 0).trans rfl
          have z1 : w8.cell? ⟨gS, 1, none⟩ = some (.int .i64 c1) := (blk_cell (blk_below GS.out HB8.out) 1).trans rfl
          have z2 : w8.cell? ⟨gS, 2, none⟩ = some (.int .i64 c2) := (blk_cell (blk_below GS.out HB8.out) 2).trans rfl
          have z3 : w8.cell? ⟨gS, 3, none⟩ = some (.int .i64 c3) := (blk_cell (blk_below GS.out HB8.out) 3).trans rfl
          have z4 : w8.cell? ⟨gS, 4, none⟩ = some (.int .i64 c4) := (blk_cell (blk_below GS.out HB8.out) 4).trans rfl
          have z5 : w8.cell? ⟨gS, 5, none⟩ = some (.slice A5 rows.length c5) := (blk_cell (blk_below GS.out HB8.out) 5).trans rfl
          have z6 : w8.cell? ⟨gS, 6, none⟩ = some (.slice A6 r7.length c6) := (blk_cell (blk_below GS.out HB8.out) 6).trans rfl
          have y0 : w8.cell? ⟨w5.heap.size, 0, none⟩ = some (.int .i64 c0) := (blk_cell HG8.out 0).trans rfl
          have y1 : w8.cell? ⟨w5.heap.size, 1, none⟩ = some (.int .i64 c1) := (blk_cell HG8.out 1).trans rfl
          have y2 : w8.cell? ⟨w5.heap.size, 2, none⟩ = some (.int .i64 c2) := (blk_cell HG8.out 2).trans rfl
          have y3 : w8.cell? ⟨w5.heap.size, 3, none⟩ = some (.int .i64 c3) := (blk_cell HG8.out 3).trans rfl
          have y4 : w8.cell? ⟨w5.heap.size, 4, none⟩ = some (.int .i64 c4) := (blk_cell HG8.out 4).trans rfl
          have y5 : w8.cell? ⟨w5.heap.size, 5, none⟩ = some (.slice Au rows.length cu) := (blk_cell HG8.out 5).trans rfl
          have y6 : w8.cell? ⟨w5.heap.size, 6, none⟩ = some (.slice none 0 0) := (blk_cell HG8.out 6).trans rfl
          have hf6 := blk_frozen HG8.out 6
          go_wp2_with fail
          have HBS := Aside0.mk (below_set (g := w5.heap.size) (j := 6) (v := .slice Ap r7.length cp) HB8.out G4W.out)
          have hs := same_T c0 c1 c2 c3 c4 A5 c5 rows A6 c6 r7 c0 c1 c2 c3 c4 Au cu rows Ap cp r7 (w8.setCell ⟨w5.heap.size, 6, none⟩ (.slice Ap r7.length cp)) (Kd.S_reads' (Kd.S_below X5.out HBS.out)).2.2 (Kd.R_reads' (Kd.R_below X6.out HBS.out)).2.2 Y6.out (Kd.S_reads' (Kd.S_set HS8.out HG8.out (fun q hq => (ops_types q hq).2) 6 _)).2.2 (Kd.R_reads' (Kd.R_set HP8.out HG8.out int_types 6 _)).2.2 HCP.out
          rw [decide_eq_true (⟨⟨rfl, rfl⟩, rfl⟩ : ((c0, c1, c2, c3, c4) = (c0, c1, c2, c3, c4) ∧ rows = rows) ∧ r7 = r7)] at hs
          refine hs.mono ?_
          rintro e w9 ⟨rfl, B9⟩
          have HB9 := Aside0.mk (below_step HBS.out B9)
          clear hs B9 HBS HB8 HS8 HP8 HG8 z0 z1 z2 z3 z4 z5 z6 y0 y1 y2 y3 y4 y5 y6 hf6
          have z0 : w9.cell? ⟨gS, 0, none⟩ = some (.int .i64 c0) := (blk_cell (blk_below GS.out HB9.out) 0).trans rfl
          have z1 : w9.cell? ⟨gS, 1, none⟩ = some (.int .i64 c1) := (blk_cell (blk_below GS.out HB9.out) 1).trans rfl
          have z2 : w9.cell? ⟨gS, 2, none⟩ = some (.int .i64 c2) := (blk_cell (blk_below GS.out HB9.out) 2).trans rfl
          have z3 : w9.cell? ⟨gS, 3, none⟩ = some (.int .i64 c3) := (blk_cell (blk_below GS.out HB9.out) 3).trans rfl
          have z4 : w9.cell? ⟨gS, 4, none⟩ = some (.int .i64 c4) := (blk_cell (blk_below GS.out HB9.out) 4).trans rfl
          have z5 : w9.cell? ⟨gS, 5, none⟩ = some (.slice A5 rows.length c5) := (blk_cell (blk_below GS.out HB9.out) 5).trans rfl
          have z6 : w9.cell? ⟨gS, 6, none⟩ = some (.slice A6 r7.length c6) := (blk_cell (blk_below GS.out HB9.out) 6).trans rfl
          go_wp2_with fail
          have hck := check_T c0 c1 c2 c3 c4 A5 c5 rows A6 c6 r7 w9 (Kd.S_reads' (Kd.S_below X5.out HB9.out)).2.2 (Kd.R_reads' (Kd.R_below X6.out HB9.out)).2.2
          rw [D.out.sc] at hck
          refine hck.mono ?_
          rintro e w10 ⟨rfl, B10⟩
          go_wp2_with fail
          go_ret
          exact ⟨by simp, below_step (below_step D4.out HB9.out) B10⟩
  · have t0 : decide (n3 > 500) = true := decide_eq_true (by omega)
    have t1 : decide (n3 ≤ 262144) = false := decide_eq_false (by have := HN5.out; omega)
    have CC := Aside0.mk (blk_drew H1.out)
    have NN := Aside0.mk (blk_drew HN.out)
    have BB := Aside0.mk (below_drew (Below.refl w1.heap.size w1))
    go_wp2_with fail
    refine start_ (n := 18) (S := fun w' => w'.cell? ⟨w.heap.size, 0, none⟩ = some (.int .i64 c0) ∧ w'.cell? ⟨w.heap.size, 1, none⟩ = some (.int .i64 c1) ∧ w'.cell? ⟨w.heap.size, 2, none⟩ = some (.int .i64 c2) ∧ w'.cell? ⟨w.heap.size, 3, none⟩ = some (.int .i64 c3) ∧ w'.cell? ⟨w.heap.size, 4, none⟩ = some (.int .i64 c4) ∧ w'.cell? ⟨w.heap.size + 1, 0, none⟩ = some (.int .i64 n0) ∧ w'.cell? ⟨w.heap.size + 1, 1, none⟩ = some (.int .i64 n1) ∧ w'.cell? ⟨w.heap.size + 1, 2, none⟩ = some (.int .i64 n2) ∧ w'.cell? ⟨w.heap.size + 1, 3, none⟩ = some (.int .i64 n3)) (ds := []) #[false, false, false, false, false, false, false, false, false, false, false, false, false, false, false, false, false, false] (by kernel_rfl) rfl rfl ⟨(blk_cell CC.out 0).trans rfl, (blk_cell CC.out 1).trans rfl, (blk_cell CC.out 2).trans rfl, (blk_cell CC.out 3).trans rfl, (blk_cell CC.out 4).trans rfl, (blk_cell NN.out 0).trans rfl, (blk_cell NN.out 1).trans rfl, (blk_cell NN.out 2).trans rfl, (blk_cell NN.out 3).trans rfl⟩ (fun hHeld => ?_)
    refine pure_ (i := 0) (N := some 26) (v := ?_) (a' := ?_) #[true, false, false, false, false, false, false, false, false, false, false, false, false, false, false, false, false, false] rfl rfl (by kernel_rfl) (fun _ _ _ h => h) (Or.inl ⟨by rfl, ?_⟩) ?_ ?_
    rotate_left
    · intro w'
      go_simp
      with_reducible rfl
    rotate_left
    · simp only [Act.put, List.setIfInBounds_toArray, List.set_cons_zero, List.set_cons_succ, i64_w, i32_w]
      rfl
    refine pure_ (i := 3) (N := some 29) (v := ?_) (a' := ?_) #[true, false, false, true, false, false, false, false, false, false, false, false, false, false, false, false, false, false] rfl rfl (by kernel_rfl) (fun _ _ _ h => h) (Or.inl ⟨by rfl, ?_⟩) ?_ ?_
    rotate_left
    · intro w'
      go_simp
      with_reducible rfl
    rotate_left
    · simp only [Act.put, List.setIfInBounds_toArray, List.set_cons_zero, List.set_cons_succ, i64_w, i32_w]
      rfl
    refine pure_ (i := 5) (N := some 31) (v := ?_) (a' := ?_) #[true, false, false, true, false, true, false, false, false, false, false, false, false, false, false, false, false, false] rfl rfl (by kernel_rfl) (fun _ _ _ h => h) (Or.inl ⟨by rfl, ?_⟩) ?_ ?_
    rotate_left
    · intro w'
      go_simp
      with_reducible rfl
    rotate_left
    · simp only [Act.put, List.setIfInBounds_toArray, List.set_cons_zero, List.set_cons_succ, i64_w, i32_w]
      rfl
    refine pure_ (i := 7) (N := some 33) (v := ?_) (a' := ?_) #[true, false, false, true, false, true, false, true, false, false, false, false, false, false, false, false, false, false] rfl rfl (by kernel_rfl) (fun _ _ _ h => h) (Or.inl ⟨by rfl, ?_⟩) ?_ ?_
    rotate_left
    · intro w'
      go_simp
      with_reducible rfl
    rotate_left
    · simp only [Act.put, List.setIfInBounds_toArray, List.set_cons_zero, List.set_cons_succ, i64_w, i32_w]
      rfl
    refine pure_ (i := 9) (N := some 35) (v := ?_) (a' := ?_) #[true, false, false, true, false, true, false, true, false, true, false, false, false, false, false, false, false, false] rfl rfl (by kernel_rfl) (fun _ _ _ h => h) (Or.inl ⟨by rfl, ?_⟩) ?_ ?_
    rotate_left
    · intro w'
      go_simp
      with_reducible rfl
    rotate_left
    · simp only [Act.put, List.setIfInBounds_toArray, List.set_cons_zero, List.set_cons_succ, i64_w, i32_w]
      rfl
    refine take_ (i := 2) (N := some 28) (v := ?_) (a' := ?_) #[true, false, true, true, false, true, false, true, false, true, false, false, false, false, false, false, false, false] rfl rfl (by kernel_rfl) (fun _ _ _ h => h) (Or.inl ⟨by rfl, ?_⟩) hHeld ?_ ?_
    rotate_left
    · rintro w' ⟨s0, s1, s2, s3, s4, s5, s6, s7, s8⟩
      go_simp
      with_reducible rfl
    rotate_left
    · simp only [Act.put, List.setIfInBounds_toArray, List.set_cons_zero, List.set_cons_succ, i64_w, i32_w]
      rfl
    refine take_ (i := 4) (N := some 30) (v := ?_) (a' := ?_) #[true, false, true, true, true, true, false, true, false, true, false, false, false, false, false, false, false, false] rfl rfl (by kernel_rfl) (fun _ _ _ h => h) (Or.inl ⟨by rfl, ?_⟩) hHeld ?_ ?_
    rotate_left
    · rintro w' ⟨s0, s1, s2, s3, s4, s5, s6, s7, s8⟩
      go_simp
      with_reducible rfl
    rotate_left
    · simp only [Act.put, List.setIfInBounds_toArray, List.set_cons_zero, List.set_cons_succ, i64_w, i32_w]
      rfl
    refine take_ (i := 6) (N := some 32) (v := ?_) (a' := ?_) #[true, false, true, true, true, true, true, true, false, true, false, false, false, false, false, false, false, false] rfl rfl (by kernel_rfl) (fun _ _ _ h => h) (Or.inl ⟨by rfl, ?_⟩) hHeld ?_ ?_
    rotate_left
    · rintro w' ⟨s0, s1, s2, s3, s4, s5, s6, s7, s8⟩
      go_simp
      with_reducible rfl
    rotate_left
    · simp only [Act.put, List.setIfInBounds_toArray, List.set_cons_zero, List.set_cons_succ, i64_w, i32_w]
      rfl
    refine take_ (i := 8) (N := some 34) (v := ?_) (a' := ?_) #[true, false, true, true, true, true, true, true, true, true, false, false, false, false, false, false, false, false] rfl rfl (by kernel_rfl) (fun _ _ _ h => h) (Or.inl ⟨by rfl, ?_⟩) hHeld ?_ ?_
    rotate_left
    · rintro w' ⟨s0, s1, s2, s3, s4, s5, s6, s7, s8⟩
      go_simp
      with_reducible rfl
    rotate_left
    · simp only [Act.put, List.setIfInBounds_toArray, List.set_cons_zero, List.set_cons_succ, i64_w, i32_w]
      rfl
    refine take_ (i := 10) (N := some 36) (v := ?_) (a' := ?_) #[true, false, true, true, true, true, true, true, true, true, true, false, false, false, false, false, false, false] rfl rfl (by kernel_rfl) (fun _ _ _ h => h) (Or.inl ⟨by rfl, ?_⟩) hHeld ?_ ?_
    rotate_left
    · rintro w' ⟨s0, s1, s2, s3, s4, s5, s6, s7, s8⟩
      go_simp
      with_reducible rfl
    rotate_left
    · simp only [Act.put, List.setIfInBounds_toArray, List.set_cons_zero, List.set_cons_succ, i64_w, i32_w]
      rfl
    refine join_ (σ := (Option Addr × Nat) × (Option Addr × Nat) × Nat × Nat) 2 #[true, true, true, true, true, true, true, true, true, true, true, true, true, true, true, true, false, false] (fun s_ => [(27, .pointer (some ⟨s_.2.2.1, 0, none⟩)), (37, .tuple #[.agg #[.int .i64 r1, .int .i64 r2, .int .i64 r3, .int .i64 r4, .int .i64 r5, .slice s_.1.1 r6.length s_.1.2, .slice s_.2.1.1 r7.length s_.2.1.2], .int .i64 r8]), (25, .tuple #[.agg #[.int .i64 r1, .int .i64 r2, .int .i64 r3, .int .i64 r4, .int .i64 r5, .slice s_.1.1 r6.length s_.1.2, .slice s_.2.1.1 r7.length s_.2.1.2], .int .i64 r8]), (38, .agg #[.int .i64 r1, .int .i64 r2, .int .i64 r3, .int .i64 r4, .int .i64 r5, .slice s_.1.1 r6.length s_.1.2, .slice s_.2.1.1 r7.length s_.2.1.2]), (39, .int .i64 r8), (7, .pointer (some ⟨s_.2.2.2, 0, none⟩))]) (fun s_ w' => (w'.cell? ⟨w.heap.size, 0, none⟩ = some (.int .i64 c0) ∧ w'.cell? ⟨w.heap.size, 1, none⟩ = some (.int .i64 c1) ∧ w'.cell? ⟨w.heap.size, 2, none⟩ = some (.int .i64 c2) ∧ w'.cell? ⟨w.heap.size, 3, none⟩ = some (.int .i64 c3) ∧ w'.cell? ⟨w.heap.size, 4, none⟩ = some (.int .i64 c4) ∧ w'.cell? ⟨w.heap.size + 1, 0, none⟩ = some (.int .i64 n0) ∧ w'.cell? ⟨w.heap.size + 1, 1, none⟩ = some (.int .i64 n1) ∧ w'.cell? ⟨w.heap.size + 1, 2, none⟩ = some (.int .i64 n2) ∧ w'.cell? ⟨w.heap.size + 1, 3, none⟩ = some (.int .i64 n3)) ∧ w'.heap[w.heap.size]? = some (.cells #[.int .i64 c0, .int .i64 c1, .int .i64 c2, .int .i64 c3, .int .i64 c4] 31 (0, 0)) ∧ w'.heap[w.heap.size + 1]? = some (.cells #[.int .i64 n0, .int .i64 n1, .int .i64 n2, .int .i64 n3] 46 (0, 0)) ∧ w'.heap[s_.2.2.2]? = some (.cells #[.int .i64 0, .int .i64 0, .int .i64 0, .int .i64 0, .int .i64 0, .slice none 0 0, .slice none 0 0] 49 (0, 0)) ∧ w1.heap.size ≤ s_.2.2.2 ∧ Kd.S (Kd.slice 37 k37) 55 w' w1.heap.size (fun _ => True) (.slice s_.1.1 r6.length s_.1.2) r6 ∧ r6.length ≤ s_.1.2 ∧ Kd.R (Kd.int .i64) 3 w' w1.heap.size (fun _ => True) (.slice s_.2.1.1 r7.length s_.2.1.2) r7 ∧ r7.length ≤ s_.2.1.2 ∧ Below w1.heap.size w1 w') ?_ ?_
    rotate_left
    · intro hCont
      refine two_ (i := 1) (j := 15) (Ni := some 27) (Nj := some 7) #[true, true, true, true, true, true, true, true, true, true, true, false, false, false, false, false, false, false] #[true, false, true, true, true, true, true, true, true, true, true, false, false, false, false, true, false, false] rfl rfl rfl rfl (by kernel_rfl) (by decide) (by decide) (fun K hK => ?_) (fun K hK => ?_)
      · skip
        refine goes_ Try.func11 (by kernel_rfl) rfl #[.int .u64 (I b)] (by rfl) rfl rfl (by simp only [List.map_toArray, List.map_cons, List.map_nil]; rfl) ?_
        with_reducible refine (mint_New.calls (I b) (I (seed0 b)) _ _ (Below.refl _ _) (new_f b)).mono ?_
        rintro e wN ⟨gM, rfl, IM, _, BM⟩
        refine ⟨_, rfl, ?_⟩
        have CCn := Aside0.mk (blk_below CC.out BM)
        have NNn := Aside0.mk (blk_below NN.out BM)
        have BBn := Aside0.mk (below_step BB.out BM)
        have JM := Aside0.mk (rebase IM BB.out.size)
        have NC := Aside0.mk (show w.heap.size ≠ gM by have := blk_lt CC.out; have := IM.ge; omega)
        have NC2 := Aside0.mk (show w.heap.size + 1 ≠ gM by have := blk_lt NN.out; have := IM.ge; omega)
        clear CC NN BB
        have CC := CCn
        have NN := NNn
        have BB := BBn
        clear CCn NNn BBn
        clear IM BM
        refine hK.out _ _ ⟨(blk_cell CC.out 0).trans rfl, (blk_cell CC.out 1).trans rfl, (blk_cell CC.out 2).trans rfl, (blk_cell CC.out 3).trans rfl, (blk_cell CC.out 4).trans rfl, (blk_cell NN.out 0).trans rfl, (blk_cell NN.out 1).trans rfl, (blk_cell NN.out 2).trans rfl, (blk_cell NN.out 3).trans rfl⟩ (fun hHeld => ?_)
        clear hK K
        refine norm_ (a' := ?_) ?_ ?_
        rotate_left
        · show Act.put _ (some 27) _ = _
          simp only [Act.put, List.setIfInBounds_toArray, List.set_cons_zero, List.set_cons_succ, i64_w, i32_w]
          rfl
        refine two_ (i := 11) (j := 15) (Ni := some 37) (Nj := some 7) #[true, true, true, true, true, true, true, true, true, true, true, true, false, false, false, false, false, false] #[true, true, true, true, true, true, true, true, true, true, true, false, false, false, false, true, false, false] rfl rfl rfl rfl (by kernel_rfl) (by decide) (by decide) (fun K hK => ?_) (fun K hK => ?_)
        · skip
          refine goes_ Try.func20 (by kernel_rfl) rfl #[.pointer (some ⟨gM, 0, none⟩), Value.agg #[.int .i64 c0, .int .i64 c1, .int .i64 c2, .int .i64 c3, .int .i64 c4], .int .i64 n0, .int .i64 n1, .int .i64 n2, .int .i64 n3] (by rfl) rfl rfl (by simp only [List.map_toArray, List.map_cons, List.map_nil]; rfl) ?_
          with_reducible refine (mint_Mint_Script.calls 8000 gM (I (seed0 b)) c0 c1 c2 c3 c4 n0 n1 n2 n3 r1 r2 r3 r4 r5 r6 r7 r8 (I s1) w1 _ JM.out BB.out HS.out).mono ?_
          rintro e wS ⟨v5, v6, rfl, R5, R6, _, BS, KB⟩
          refine ⟨_, rfl, ?_⟩
          obtain ⟨A5, c5, rfl, hc5, hC5⟩ := Kd.S_reads R5
          obtain ⟨A6, c6, rfl, hc6, hC6⟩ := Kd.R_reads R6
          have X5 := Aside0.mk (Kd.S_lower R5 (show w1.heap.size ≤ _ from BB.out.size))
          have X6 := Aside0.mk (Kd.R_lower R6 (show w1.heap.size ≤ _ from BB.out.size))
          have Y5 := Aside0.mk hc5
          have Y6 := Aside0.mk hc6
          have CCn := Aside0.mk (KB.blk CC.out NC.out (by simp))
          have NNn := Aside0.mk (KB.blk NN.out NC2.out (by simp))
          have BBn := Aside0.mk BS
          clear CC NN BB
          have CC := CCn
          have NN := NNn
          have BB := BBn
          clear CCn NNn BBn
          clear R5 R6 hC5 hC6 hc5 hc6 BS KB JM
          refine hK.out _ _ ⟨(blk_cell CC.out 0).trans rfl, (blk_cell CC.out 1).trans rfl, (blk_cell CC.out 2).trans rfl, (blk_cell CC.out 3).trans rfl, (blk_cell CC.out 4).trans rfl, (blk_cell NN.out 0).trans rfl, (blk_cell NN.out 1).trans rfl, (blk_cell NN.out 2).trans rfl, (blk_cell NN.out 3).trans rfl⟩ (fun hHeld => ?_)
          clear hK K
          refine norm_ (a' := ?_) ?_ ?_
          rotate_left
          · show Act.put _ (some 37) _ = _
            simp only [Act.put, List.setIfInBounds_toArray, List.set_cons_zero, List.set_cons_succ, i64_w, i32_w]
            rfl
          refine pure_ (i := 12) (N := some 25) (v := ?_) (a' := ?_) #[true, true, true, true, true, true, true, true, true, true, true, true, true, false, false, false, false, false] rfl rfl (by kernel_rfl) (fun _ _ _ h => h) (Or.inl ⟨by rfl, ?_⟩) ?_ ?_
          rotate_left
          · intro w'
            go_simp
            with_reducible rfl
          rotate_left
          · simp only [Act.put, List.setIfInBounds_toArray, List.set_cons_zero, List.set_cons_succ, i64_w, i32_w]
            rfl
          refine pure_ (i := 13) (N := some 38) (v := ?_) (a' := ?_) #[true, true, true, true, true, true, true, true, true, true, true, true, true, true, false, false, false, false] rfl rfl (by kernel_rfl) (fun _ _ _ h => h) (Or.inl ⟨by rfl, ?_⟩) ?_ ?_
          rotate_left
          · intro w'
            go_simp
            with_reducible rfl
          rotate_left
          · simp only [Act.put, List.setIfInBounds_toArray, List.set_cons_zero, List.set_cons_succ, i64_w, i32_w]
            rfl
          refine pure_ (i := 14) (N := some 39) (v := ?_) (a' := ?_) #[true, true, true, true, true, true, true, true, true, true, true, true, true, true, true, false, false, false] rfl rfl (by kernel_rfl) (fun _ _ _ h => h) (Or.inl ⟨by rfl, ?_⟩) ?_ ?_
          rotate_left
          · intro w'
            go_simp
            with_reducible rfl
          rotate_left
          · simp only [Act.put, List.setIfInBounds_toArray, List.set_cons_zero, List.set_cons_succ, i64_w, i32_w]
            rfl
          refine one_ (i := 15) (N := some 7) #[true, true, true, true, true, true, true, true, true, true, true, true, true, true, true, true, false, false] rfl rfl (by kernel_rfl) (by decide) (fun K hK => ?_)
          refine box_step ?hg (N := 7) ?hd (cs := #[.int .i64 0, .int .i64 0, .int .i64 0, .int .i64 0, .int .i64 0, .slice none 0 0, .slice none 0 0]) (t := 49) ?hr ?_; (case hd => rfl); (case hg => rfl); (case hr => first | (go_simp; done) | (go_simp; rfl))
          intro gS hg wA hbox hb
          have CCn := Aside0.mk (blk_below CC.out hb)
          have NNn := Aside0.mk (blk_below NN.out hb)
          have BBn := Aside0.mk (below_step BB.out hb)
          have GW := Aside0.mk (show w1.heap.size ≤ gS by rw [hg]; exact BB.out.size)
          have GS := Aside0.mk hbox
          have X5n := Aside0.mk (Kd.S_below X5.out hb)
          have X6n := Aside0.mk (Kd.R_below X6.out hb)
          clear X5 X6
          have X5 := X5n
          have X6 := X6n
          clear X5n X6n
          clear CC NN BB
          have CC := CCn
          have NN := NNn
          have BB := BBn
          clear CCn NNn BBn
          clear hg hbox hb
          refine hK.out _ _ ⟨(blk_cell CC.out 0).trans rfl, (blk_cell CC.out 1).trans rfl, (blk_cell CC.out 2).trans rfl, (blk_cell CC.out 3).trans rfl, (blk_cell CC.out 4).trans rfl, (blk_cell NN.out 0).trans rfl, (blk_cell NN.out 1).trans rfl, (blk_cell NN.out 2).trans rfl, (blk_cell NN.out 3).trans rfl⟩ (fun hHeld => ?_)
          clear hK K
          refine norm_ (a' := ?_) ?_ ?_
          rotate_left
          · show Act.put _ (some 7) _ = _
            simp only [Act.put, List.setIfInBounds_toArray, List.set_cons_zero, List.set_cons_succ, i64_w, i32_w]
            rfl
          exact norm_ (by simp only [putAll, Act.put, List.setIfInBounds_toArray, List.set_cons_zero, List.set_cons_succ]) (hCont ((A5, c5), (A6, c6), gM, gS) _ ⟨hHeld, CC.out, NN.out, GS.out, GW.out, X5.out, Y5.out, X6.out, Y6.out, BB.out⟩)
        · skip
          refine box_step ?hg (N := 7) ?hd (cs := #[.int .i64 0, .int .i64 0, .int .i64 0, .int .i64 0, .int .i64 0, .slice none 0 0, .slice none 0 0]) (t := 49) ?hr ?_; (case hd => rfl); (case hg => rfl); (case hr => first | (go_simp; done) | (go_simp; rfl))
          intro gS hg wA hbox hb
          have CCn := Aside0.mk (blk_below CC.out hb)
          have NNn := Aside0.mk (blk_below NN.out hb)
          have BBn := Aside0.mk (below_step BB.out hb)
          have GW := Aside0.mk (show w1.heap.size ≤ gS by rw [hg]; exact BB.out.size)
          have GS := Aside0.mk hbox
          have NG := Aside0.mk (show gS ≠ gM by rw [hg]; exact (Nat.ne_of_lt JM.out.lt).symm)
          have JMn := Aside0.mk (JM.out.below hb)
          clear JM
          have JM := JMn
          clear JMn
          clear CC NN BB
          have CC := CCn
          have NN := NNn
          have BB := BBn
          clear CCn NNn BBn
          clear hg hbox hb
          refine hK.out _ _ ⟨(blk_cell CC.out 0).trans rfl, (blk_cell CC.out 1).trans rfl, (blk_cell CC.out 2).trans rfl, (blk_cell CC.out 3).trans rfl, (blk_cell CC.out 4).trans rfl, (blk_cell NN.out 0).trans rfl, (blk_cell NN.out 1).trans rfl, (blk_cell NN.out 2).trans rfl, (blk_cell NN.out 3).trans rfl⟩ (fun hHeld => ?_)
          clear hK K
          refine norm_ (a' := ?_) ?_ ?_
          rotate_left
          · show Act.put _ (some 7) _ = _
            simp only [Act.put, List.setIfInBounds_toArray, List.set_cons_zero, List.set_cons_succ, i64_w, i32_w]
            rfl
          refine one_ (i := 11) (N := some 37) #[true, true, true, true, true, true, true, true, true, true, true, true, false, false, false, true, false, false] rfl rfl (by kernel_rfl) (by decide) (fun K hK => ?_)
          refine goes_ Try.func20 (by kernel_rfl) rfl #[.pointer (some ⟨gM, 0, none⟩), Value.agg #[.int .i64 c0, .int .i64 c1, .int .i64 c2, .int .i64 c3, .int .i64 c4], .int .i64 n0, .int .i64 n1, .int .i64 n2, .int .i64 n3] (by rfl) rfl rfl (by simp only [List.map_toArray, List.map_cons, List.map_nil]; rfl) ?_
          with_reducible refine (mint_Mint_Script.calls 8000 gM (I (seed0 b)) c0 c1 c2 c3 c4 n0 n1 n2 n3 r1 r2 r3 r4 r5 r6 r7 r8 (I s1) w1 _ JM.out BB.out HS.out).mono ?_
          rintro e wS ⟨v5, v6, rfl, R5, R6, _, BS, KB⟩
          refine ⟨_, rfl, ?_⟩
          obtain ⟨A5, c5, rfl, hc5, hC5⟩ := Kd.S_reads R5
          obtain ⟨A6, c6, rfl, hc6, hC6⟩ := Kd.R_reads R6
          have X5 := Aside0.mk (Kd.S_lower R5 (show w1.heap.size ≤ _ from BB.out.size))
          have X6 := Aside0.mk (Kd.R_lower R6 (show w1.heap.size ≤ _ from BB.out.size))
          have Y5 := Aside0.mk hc5
          have Y6 := Aside0.mk hc6
          have CCn := Aside0.mk (KB.blk CC.out NC.out (by simp))
          have NNn := Aside0.mk (KB.blk NN.out NC2.out (by simp))
          have BBn := Aside0.mk BS
          have GSn := Aside0.mk (KB.blk GS.out NG.out (by simp))
          clear GS
          have GS := GSn
          clear GSn
          clear CC NN BB
          have CC := CCn
          have NN := NNn
          have BB := BBn
          clear CCn NNn BBn
          clear R5 R6 hC5 hC6 hc5 hc6 BS KB JM
          refine hK.out _ _ ⟨(blk_cell CC.out 0).trans rfl, (blk_cell CC.out 1).trans rfl, (blk_cell CC.out 2).trans rfl, (blk_cell CC.out 3).trans rfl, (blk_cell CC.out 4).trans rfl, (blk_cell NN.out 0).trans rfl, (blk_cell NN.out 1).trans rfl, (blk_cell NN.out 2).trans rfl, (blk_cell NN.out 3).trans rfl⟩ (fun hHeld => ?_)
          clear hK K
          refine norm_ (a' := ?_) ?_ ?_
          rotate_left
          · show Act.put _ (some 37) _ = _
            simp only [Act.put, List.setIfInBounds_toArray, List.set_cons_zero, List.set_cons_succ, i64_w, i32_w]
            rfl
          refine pure_ (i := 12) (N := some 25) (v := ?_) (a' := ?_) #[true, true, true, true, true, true, true, true, true, true, true, true, true, false, false, true, false, false] rfl rfl (by kernel_rfl) (fun _ _ _ h => h) (Or.inl ⟨by rfl, ?_⟩) ?_ ?_
          rotate_left
          · intro w'
            go_simp
            with_reducible rfl
          rotate_left
          · simp only [Act.put, List.setIfInBounds_toArray, List.set_cons_zero, List.set_cons_succ, i64_w, i32_w]
            rfl
          refine pure_ (i := 13) (N := some 38) (v := ?_) (a' := ?_) #[true, true, true, true, true, true, true, true, true, true, true, true, true, true, false, true, false, false] rfl rfl (by kernel_rfl) (fun _ _ _ h => h) (Or.inl ⟨by rfl, ?_⟩) ?_ ?_
          rotate_left
          · intro w'
            go_simp
            with_reducible rfl
          rotate_left
          · simp only [Act.put, List.setIfInBounds_toArray, List.set_cons_zero, List.set_cons_succ, i64_w, i32_w]
            rfl
          refine pure_ (i := 14) (N := some 39) (v := ?_) (a' := ?_) #[true, true, true, true, true, true, true, true, true, true, true, true, true, true, true, true, false, false] rfl rfl (by kernel_rfl) (fun _ _ _ h => h) (Or.inl ⟨by rfl, ?_⟩) ?_ ?_
          rotate_left
          · intro w'
            go_simp
            with_reducible rfl
          rotate_left
          · simp only [Act.put, List.setIfInBounds_toArray, List.set_cons_zero, List.set_cons_succ, i64_w, i32_w]
            rfl
          exact norm_ (by simp only [putAll, Act.put, List.setIfInBounds_toArray, List.set_cons_zero, List.set_cons_succ]) (hCont ((A5, c5), (A6, c6), gM, gS) _ ⟨hHeld, CC.out, NN.out, GS.out, GW.out, X5.out, Y5.out, X6.out, Y6.out, BB.out⟩)
      · skip
        refine box_step ?hg (N := 7) ?hd (cs := #[.int .i64 0, .int .i64 0, .int .i64 0, .int .i64 0, .int .i64 0, .slice none 0 0, .slice none 0 0]) (t := 49) ?hr ?_; (case hd => rfl); (case hg => rfl); (case hr => first | (go_simp; done) | (go_simp; rfl))
        intro gS hg wA hbox hb
        have CCn := Aside0.mk (blk_below CC.out hb)
        have NNn := Aside0.mk (blk_below NN.out hb)
        have BBn := Aside0.mk (below_step BB.out hb)
        have GW := Aside0.mk (show w1.heap.size ≤ gS by rw [hg]; exact BB.out.size)
        have GS := Aside0.mk hbox
        clear CC NN BB
        have CC := CCn
        have NN := NNn
        have BB := BBn
        clear CCn NNn BBn
        clear hg hbox hb
        refine hK.out _ _ ⟨(blk_cell CC.out 0).trans rfl, (blk_cell CC.out 1).trans rfl, (blk_cell CC.out 2).trans rfl, (blk_cell CC.out 3).trans rfl, (blk_cell CC.out 4).trans rfl, (blk_cell NN.out 0).trans rfl, (blk_cell NN.out 1).trans rfl, (blk_cell NN.out 2).trans rfl, (blk_cell NN.out 3).trans rfl⟩ (fun hHeld => ?_)
        clear hK K
        refine norm_ (a' := ?_) ?_ ?_
        rotate_left
        · show Act.put _ (some 7) _ = _
          simp only [Act.put, List.setIfInBounds_toArray, List.set_cons_zero, List.set_cons_succ, i64_w, i32_w]
          rfl
        refine one_ (i := 1) (N := some 27) #[true, true, true, true, true, true, true, true, true, true, true, false, false, false, false, true, false, false] rfl rfl (by kernel_rfl) (by decide) (fun K hK => ?_)
        refine goes_ Try.func11 (by kernel_rfl) rfl #[.int .u64 (I b)] (by rfl) rfl rfl (by simp only [List.map_toArray, List.map_cons, List.map_nil]; rfl) ?_
        with_reducible refine (mint_New.calls (I b) (I (seed0 b)) _ _ (Below.refl _ _) (new_f b)).mono ?_
        rintro e wN ⟨gM, rfl, IM, _, BM⟩
        refine ⟨_, rfl, ?_⟩
        have CCn := Aside0.mk (blk_below CC.out BM)
        have NNn := Aside0.mk (blk_below NN.out BM)
        have BBn := Aside0.mk (below_step BB.out BM)
        have JM := Aside0.mk (rebase IM BB.out.size)
        have NC := Aside0.mk (show w.heap.size ≠ gM by have := blk_lt CC.out; have := IM.ge; omega)
        have NC2 := Aside0.mk (show w.heap.size + 1 ≠ gM by have := blk_lt NN.out; have := IM.ge; omega)
        have GSn := Aside0.mk (blk_below GS.out BM)
        have NG := Aside0.mk (show gS ≠ gM by have := blk_lt GS.out; have := IM.ge; omega)
        clear GS
        have GS := GSn
        clear GSn
        clear CC NN BB
        have CC := CCn
        have NN := NNn
        have BB := BBn
        clear CCn NNn BBn
        clear IM BM
        refine hK.out _ _ ⟨(blk_cell CC.out 0).trans rfl, (blk_cell CC.out 1).trans rfl, (blk_cell CC.out 2).trans rfl, (blk_cell CC.out 3).trans rfl, (blk_cell CC.out 4).trans rfl, (blk_cell NN.out 0).trans rfl, (blk_cell NN.out 1).trans rfl, (blk_cell NN.out 2).trans rfl, (blk_cell NN.out 3).trans rfl⟩ (fun hHeld => ?_)
        clear hK K
        refine norm_ (a' := ?_) ?_ ?_
        rotate_left
        · show Act.put _ (some 27) _ = _
          simp only [Act.put, List.setIfInBounds_toArray, List.set_cons_zero, List.set_cons_succ, i64_w, i32_w]
          rfl
        refine one_ (i := 11) (N := some 37) #[true, true, true, true, true, true, true, true, true, true, true, true, false, false, false, true, false, false] rfl rfl (by kernel_rfl) (by decide) (fun K hK => ?_)
        refine goes_ Try.func20 (by kernel_rfl) rfl #[.pointer (some ⟨gM, 0, none⟩), Value.agg #[.int .i64 c0, .int .i64 c1, .int .i64 c2, .int .i64 c3, .int .i64 c4], .int .i64 n0, .int .i64 n1, .int .i64 n2, .int .i64 n3] (by rfl) rfl rfl (by simp only [List.map_toArray, List.map_cons, List.map_nil]; rfl) ?_
        with_reducible refine (mint_Mint_Script.calls 8000 gM (I (seed0 b)) c0 c1 c2 c3 c4 n0 n1 n2 n3 r1 r2 r3 r4 r5 r6 r7 r8 (I s1) w1 _ JM.out BB.out HS.out).mono ?_
        rintro e wS ⟨v5, v6, rfl, R5, R6, _, BS, KB⟩
        refine ⟨_, rfl, ?_⟩
        obtain ⟨A5, c5, rfl, hc5, hC5⟩ := Kd.S_reads R5
        obtain ⟨A6, c6, rfl, hc6, hC6⟩ := Kd.R_reads R6
        have X5 := Aside0.mk (Kd.S_lower R5 (show w1.heap.size ≤ _ from BB.out.size))
        have X6 := Aside0.mk (Kd.R_lower R6 (show w1.heap.size ≤ _ from BB.out.size))
        have Y5 := Aside0.mk hc5
        have Y6 := Aside0.mk hc6
        have CCn := Aside0.mk (KB.blk CC.out NC.out (by simp))
        have NNn := Aside0.mk (KB.blk NN.out NC2.out (by simp))
        have BBn := Aside0.mk BS
        have GSn := Aside0.mk (KB.blk GS.out NG.out (by simp))
        clear GS
        have GS := GSn
        clear GSn
        clear CC NN BB
        have CC := CCn
        have NN := NNn
        have BB := BBn
        clear CCn NNn BBn
        clear R5 R6 hC5 hC6 hc5 hc6 BS KB JM
        refine hK.out _ _ ⟨(blk_cell CC.out 0).trans rfl, (blk_cell CC.out 1).trans rfl, (blk_cell CC.out 2).trans rfl, (blk_cell CC.out 3).trans rfl, (blk_cell CC.out 4).trans rfl, (blk_cell NN.out 0).trans rfl, (blk_cell NN.out 1).trans rfl, (blk_cell NN.out 2).trans rfl, (blk_cell NN.out 3).trans rfl⟩ (fun hHeld => ?_)
        clear hK K
        refine norm_ (a' := ?_) ?_ ?_
        rotate_left
        · show Act.put _ (some 37) _ = _
          simp only [Act.put, List.setIfInBounds_toArray, List.set_cons_zero, List.set_cons_succ, i64_w, i32_w]
          rfl
        refine pure_ (i := 12) (N := some 25) (v := ?_) (a' := ?_) #[true, true, true, true, true, true, true, true, true, true, true, true, true, false, false, true, false, false] rfl rfl (by kernel_rfl) (fun _ _ _ h => h) (Or.inl ⟨by rfl, ?_⟩) ?_ ?_
        rotate_left
        · intro w'
          go_simp
          with_reducible rfl
        rotate_left
        · simp only [Act.put, List.setIfInBounds_toArray, List.set_cons_zero, List.set_cons_succ, i64_w, i32_w]
          rfl
        refine pure_ (i := 13) (N := some 38) (v := ?_) (a' := ?_) #[true, true, true, true, true, true, true, true, true, true, true, true, true, true, false, true, false, false] rfl rfl (by kernel_rfl) (fun _ _ _ h => h) (Or.inl ⟨by rfl, ?_⟩) ?_ ?_
        rotate_left
        · intro w'
          go_simp
          with_reducible rfl
        rotate_left
        · simp only [Act.put, List.setIfInBounds_toArray, List.set_cons_zero, List.set_cons_succ, i64_w, i32_w]
          rfl
        refine pure_ (i := 14) (N := some 39) (v := ?_) (a' := ?_) #[true, true, true, true, true, true, true, true, true, true, true, true, true, true, true, true, false, false] rfl rfl (by kernel_rfl) (fun _ _ _ h => h) (Or.inl ⟨by rfl, ?_⟩) ?_ ?_
        rotate_left
        · intro w'
          go_simp
          with_reducible rfl
        rotate_left
        · simp only [Act.put, List.setIfInBounds_toArray, List.set_cons_zero, List.set_cons_succ, i64_w, i32_w]
          rfl
        exact norm_ (by simp only [putAll, Act.put, List.setIfInBounds_toArray, List.set_cons_zero, List.set_cons_succ]) (hCont ((A5, c5), (A6, c6), gM, gS) _ ⟨hHeld, CC.out, NN.out, GS.out, GW.out, X5.out, Y5.out, X6.out, Y6.out, BB.out⟩)
    rintro ⟨⟨A5, c5⟩, ⟨A6, c6⟩, gM, gS⟩ wF ⟨hHeld, f1_, f9_, f2_, f3_, f4_, f5_, f6_, f7_, f8_⟩
    have CC := Aside0.mk f1_
    have NN := Aside0.mk f9_
    have GS := Aside0.mk (show wF.heap[gS]? = some (.cells #[.int .i64 0, .int .i64 0, .int .i64 0, .int .i64 0, .int .i64 0, .slice none 0 0, .slice none 0 0] 49 (0, 0)) from f2_)
    have GW := Aside0.mk (show w1.heap.size ≤ gS from f3_)
    have X5 := Aside0.mk (show Kd.S (Kd.slice 37 k37) 55 wF w1.heap.size (fun _ => True) (.slice A5 r6.length c5) r6 from f4_)
    have Y5 := Aside0.mk (show r6.length ≤ c5 from f5_)
    have X6 := Aside0.mk (show Kd.R (Kd.int .i64) 3 wF w1.heap.size (fun _ => True) (.slice A6 r7.length c6) r7 from f6_)
    have Y6 := Aside0.mk (show r7.length ≤ c6 from f7_)
    have BB := Aside0.mk f8_
    clear f1_ f2_ f3_ f4_ f5_ f6_ f7_ f8_ f9_
    refine norm_ (a' := ?_) ?_ ?_
    rotate_left
    · simp only [putAll, Act.put, List.setIfInBounds_toArray, List.set_cons_zero, List.set_cons_succ]
      rfl
    refine one_ (i := 16) (N := none) #[true, true, true, true, true, true, true, true, true, true, true, true, true, true, true, true, true, false] rfl rfl (by kernel_rfl) (by decide) (fun K hK => ?_)
    have z0 : wF.cell? ⟨gS, 0, none⟩ = some (.int .i64 0) := (blk_cell GS.out 0).trans rfl
    have z1 : wF.cell? ⟨gS, 1, none⟩ = some (.int .i64 0) := (blk_cell GS.out 1).trans rfl
    have z2 : wF.cell? ⟨gS, 2, none⟩ = some (.int .i64 0) := (blk_cell GS.out 2).trans rfl
    have z3 : wF.cell? ⟨gS, 3, none⟩ = some (.int .i64 0) := (blk_cell GS.out 3).trans rfl
    have z4 : wF.cell? ⟨gS, 4, none⟩ = some (.int .i64 0) := (blk_cell GS.out 4).trans rfl
    have z5 : wF.cell? ⟨gS, 5, none⟩ = some (.slice none 0 0) := (blk_cell GS.out 5).trans rfl
    have z6 : wF.cell? ⟨gS, 6, none⟩ = some (.slice none 0 0) := (blk_cell GS.out 6).trans rfl
    have y0 : wF.frozen? ⟨gS, 0, none⟩ = false := blk_frozen GS.out 0
    have y1 : wF.frozen? ⟨gS, 1, none⟩ = false := blk_frozen GS.out 1
    have y2 : wF.frozen? ⟨gS, 2, none⟩ = false := blk_frozen GS.out 2
    have y3 : wF.frozen? ⟨gS, 3, none⟩ = false := blk_frozen GS.out 3
    have y4 : wF.frozen? ⟨gS, 4, none⟩ = false := blk_frozen GS.out 4
    have y5 : wF.frozen? ⟨gS, 5, none⟩ = false := blk_frozen GS.out 5
    have y6 : wF.frozen? ⟨gS, 6, none⟩ = false := blk_frozen GS.out 6
    refine skip_ (w1 := ?_) (by rfl) rfl ?_ ?_
    rotate_left
    · go_simp
      rfl
    clear z0 z1 z2 z3 z4 z5 z6 y0 y1 y2 y3 y4 y5 y6
    have P := put7 (.int .i64 r1) (.int .i64 r2) (.int .i64 r3) (.int .i64 r4) (.int .i64 r5) (.slice A5 r6.length c5) (.slice A6 r7.length c6) GS.out BB.out GW.out
    have CN := Aside0.mk (show w.heap.size ≠ gS by have := blk_lt H1.out; have := GW.out; omega)
    have CN2 := Aside0.mk (show w.heap.size + 1 ≠ gS by have := blk_lt HN.out; have := GW.out; omega)
    have Q := put7_far (W := wF) (R := gS) (.int .i64 r1) (.int .i64 r2) (.int .i64 r3) (.int .i64 r4) (.int .i64 r5) (.slice A5 r6.length c5) (.slice A6 r7.length c6)
    have CCn := Aside0.mk ((Q _ CN.out).trans CC.out)
    have NNn := Aside0.mk ((Q _ CN2.out).trans NN.out)
    have X5n := Aside0.mk (Kd.S_mono (Kd.S_step (Kd.S_types X5.out GS.out (fun q hq => (ops_types q hq).2)) (fun k ho _ => Q k ho.2)) (fun _ h => h.1))
    have X6n := Aside0.mk (Kd.R_mono (Kd.R_step (Kd.R_types X6.out GS.out int_types) (fun k ho _ => Q k ho.2)) (fun _ h => h.1))
    have GSn := Aside0.mk P.1
    have BBn := Aside0.mk P.2
    clear CC NN GS BB X5 X6
    have CC := CCn
    have NN := NNn
    have GS := GSn
    have BB := BBn
    have X5 := X5n
    have X6 := X6n
    clear CCn NNn GSn BBn X5n X6n
    clear P Q
    refine hK.out _ _ ⟨(blk_cell CC.out 0).trans rfl, (blk_cell CC.out 1).trans rfl, (blk_cell CC.out 2).trans rfl, (blk_cell CC.out 3).trans rfl, (blk_cell CC.out 4).trans rfl, (blk_cell NN.out 0).trans rfl, (blk_cell NN.out 1).trans rfl, (blk_cell NN.out 2).trans rfl, (blk_cell NN.out 3).trans rfl⟩ (fun hHeld => ?_)
    clear hK K
    refine pure_ (i := 17) (N := some 8) (v := ?_) (a' := ?_) #[true, true, true, true, true, true, true, true, true, true, true, true, true, true, true, true, true, true] rfl rfl (by kernel_rfl) (fun _ _ _ h => h) (Or.inl ⟨by rfl, ?_⟩) ?_ ?_
    rotate_left
    · intro w'
      go_simp
      with_reducible rfl
    rotate_left
    · simp only [Act.put, List.setIfInBounds_toArray, List.set_cons_zero, List.set_cons_succ, i64_w, i32_w]
      rfl
    refine done_ (by kernel_rfl) ?_

    generalize (((((((wF.setCell ⟨gS, 0, none⟩ (.int .i64 r1)).setCell ⟨gS, 1, none⟩ (.int .i64 r2)).setCell ⟨gS, 2, none⟩ (.int .i64 r3)).setCell ⟨gS, 3, none⟩ (.int .i64 r4)).setCell ⟨gS, 4, none⟩ (.int .i64 r5)).setCell ⟨gS, 5, none⟩ (.slice A5 r6.length c5)).setCell ⟨gS, 6, none⟩ (.slice A6 r7.length c6)) = w2 at CC NN GS BB X5 X6 ⊢
    have D2 := Aside0.mk (below_step C1.out BB.out)
    have xc0 : w2.cell? ⟨w.heap.size, 0, none⟩ = some (.int .i64 c0) := (blk_cell CC.out 0).trans rfl
    have xc1 : w2.cell? ⟨w.heap.size, 1, none⟩ = some (.int .i64 c1) := (blk_cell CC.out 1).trans rfl
    have xc2 : w2.cell? ⟨w.heap.size, 2, none⟩ = some (.int .i64 c2) := (blk_cell CC.out 2).trans rfl
    have xc3 : w2.cell? ⟨w.heap.size, 3, none⟩ = some (.int .i64 c3) := (blk_cell CC.out 3).trans rfl
    have xc4 : w2.cell? ⟨w.heap.size, 4, none⟩ = some (.int .i64 c4) := (blk_cell CC.out 4).trans rfl
    go_wp2_with fail
    refine (revenantref03_Check.calls 10 c0 c1 c2 c3 c4 (CheckV c0 c1 c2 c3 c4) w2 (rcheck_f (by decide) c0 c1 c2 c3 c4)).mono ?_
    rintro e w4 ⟨rfl, B4⟩
    have CCn := Aside0.mk (blk_below CC.out B4)
    have NNn := Aside0.mk (blk_below NN.out B4)
    have GSn := Aside0.mk (blk_below GS.out B4)
    have X5n := Aside0.mk (Kd.S_below X5.out B4)
    have X6n := Aside0.mk (Kd.R_below X6.out B4)
    have D4 := Aside0.mk (below_step D2.out B4)
    clear B4 D2 BB xc0 xc1 xc2 xc3 xc4
    clear CC
    have CC := CCn
    clear CCn
    clear NN
    have NN := NNn
    clear NNn
    clear GS
    have GS := GSn
    clear GSn
    clear X5
    have X5 := X5n
    clear X5n
    clear X6
    have X6 := X6n
    clear X6n
    have v0 : w4.cell? ⟨w.heap.size + 1, 0, none⟩ = some (.int .i64 n0) := (blk_cell NN.out 0).trans rfl
    have v1 : w4.cell? ⟨w.heap.size + 1, 1, none⟩ = some (.int .i64 n1) := (blk_cell NN.out 1).trans rfl
    have v2 : w4.cell? ⟨w.heap.size + 1, 2, none⟩ = some (.int .i64 n2) := (blk_cell NN.out 2).trans rfl
    have v3 : w4.cell? ⟨w.heap.size + 1, 3, none⟩ = some (.int .i64 n3) := (blk_cell NN.out 3).trans rfl
    have hcase := HCASE.out
    clear HCASE
    rcases hcase with ⟨hc, rfl, rfl, rfl, rfl, rfl, rfl, rfl, rfl⟩ | ⟨hc, hr, rfl, rfl, rfl, rfl, rfl, rfl, rfl, rfl⟩ | ⟨rfl, rfl, rfl, rfl, rfl, rfl, bE, hD⟩
    · generalize CheckV c0 c1 c2 c3 c4 = cv at *
      have t8 : (cv != 0) = true := bne_iff_ne.mpr hc
      have z0 : w4.cell? ⟨gS, 0, none⟩ = some (.int .i64 0) := (blk_cell GS.out 0).trans rfl
      have z1 : w4.cell? ⟨gS, 1, none⟩ = some (.int .i64 0) := (blk_cell GS.out 1).trans rfl
      have z2 : w4.cell? ⟨gS, 2, none⟩ = some (.int .i64 0) := (blk_cell GS.out 2).trans rfl
      have z3 : w4.cell? ⟨gS, 3, none⟩ = some (.int .i64 0) := (blk_cell GS.out 3).trans rfl
      have z4 : w4.cell? ⟨gS, 4, none⟩ = some (.int .i64 0) := (blk_cell GS.out 4).trans rfl
      have z5 : w4.cell? ⟨gS, 5, none⟩ = some (.slice A5 0 c5) := (blk_cell GS.out 5).trans rfl
      have z6 : w4.cell? ⟨gS, 6, none⟩ = some (.slice A6 0 c6) := (blk_cell GS.out 6).trans rfl
      go_wp2_with fail
      refine (same_T 0 0 0 0 0 A5 c5 [] A6 c6 [] 0 0 0 0 0 none 0 [] none 0 [] w4 (Kd.S_reads' X5.out).2.2 (Kd.R_reads' X6.out).2.2 (Nat.zero_le _) (Kd.C_nil _ _) (Kd.C_nil _ _) (Nat.le_refl _)).mono ?_
      rintro e w5 ⟨rfl, B5⟩
      go_wp2_with fail
      go_ret
      exact ⟨by simp, below_step D4.out B5⟩
    · rw [hc]
      have z0 : w4.cell? ⟨gS, 0, none⟩ = some (.int .i64 0) := (blk_cell GS.out 0).trans rfl
      have z1 : w4.cell? ⟨gS, 1, none⟩ = some (.int .i64 0) := (blk_cell GS.out 1).trans rfl
      have z2 : w4.cell? ⟨gS, 2, none⟩ = some (.int .i64 0) := (blk_cell GS.out 2).trans rfl
      have z3 : w4.cell? ⟨gS, 3, none⟩ = some (.int .i64 0) := (blk_cell GS.out 3).trans rfl
      have z4 : w4.cell? ⟨gS, 4, none⟩ = some (.int .i64 0) := (blk_cell GS.out 4).trans rfl
      have z5 : w4.cell? ⟨gS, 5, none⟩ = some (.slice A5 0 c5) := (blk_cell GS.out 5).trans rfl
      have z6 : w4.cell? ⟨gS, 6, none⟩ = some (.slice A6 0 c6) := (blk_cell GS.out 6).trans rfl
      by_cases q0 : n0 < 1
      · have u0 : decide (n0 < 1) = true := decide_eq_true q0
        go_wp2_with fail
        refine (same_T 0 0 0 0 0 A5 c5 [] A6 c6 [] 0 0 0 0 0 none 0 [] none 0 [] w4 (Kd.S_reads' X5.out).2.2 (Kd.R_reads' X6.out).2.2 (Nat.zero_le _) (Kd.C_nil _ _) (Kd.C_nil _ _) (Nat.le_refl _)).mono ?_
        rintro e w5 ⟨rfl, B5⟩
        go_wp2_with fail
        go_ret
        exact ⟨by simp, below_step D4.out B5⟩
      · have u0 : decide (n0 < 1) = false := decide_eq_false q0
        by_cases q1 : n0 > 64
        · have u1 : decide (n0 > 64) = true := decide_eq_true q1
          go_wp2_with fail
          refine (same_T 0 0 0 0 0 A5 c5 [] A6 c6 [] 0 0 0 0 0 none 0 [] none 0 [] w4 (Kd.S_reads' X5.out).2.2 (Kd.R_reads' X6.out).2.2 (Nat.zero_le _) (Kd.C_nil _ _) (Kd.C_nil _ _) (Nat.le_refl _)).mono ?_
          rintro e w5 ⟨rfl, B5⟩
          go_wp2_with fail
          go_ret
          exact ⟨by simp, below_step D4.out B5⟩
        · have u1 : decide (n0 > 64) = false := decide_eq_false q1
          by_cases q2 : n1 < 0
          · have u2 : decide (n1 < 0) = true := decide_eq_true q2
            go_wp2_with fail
            refine (same_T 0 0 0 0 0 A5 c5 [] A6 c6 [] 0 0 0 0 0 none 0 [] none 0 [] w4 (Kd.S_reads' X5.out).2.2 (Kd.R_reads' X6.out).2.2 (Nat.zero_le _) (Kd.C_nil _ _) (Kd.C_nil _ _) (Nat.le_refl _)).mono ?_
            rintro e w5 ⟨rfl, B5⟩
            go_wp2_with fail
            go_ret
            exact ⟨by simp, below_step D4.out B5⟩
          · have u2 : decide (n1 < 0) = false := decide_eq_false q2
            by_cases q3 : n1 > 64
            · have u3 : decide (n1 > 64) = true := decide_eq_true q3
              go_wp2_with fail
              refine (same_T 0 0 0 0 0 A5 c5 [] A6 c6 [] 0 0 0 0 0 none 0 [] none 0 [] w4 (Kd.S_reads' X5.out).2.2 (Kd.R_reads' X6.out).2.2 (Nat.zero_le _) (Kd.C_nil _ _) (Kd.C_nil _ _) (Nat.le_refl _)).mono ?_
              rintro e w5 ⟨rfl, B5⟩
              go_wp2_with fail
              go_ret
              exact ⟨by simp, below_step D4.out B5⟩
            · have u3 : decide (n1 > 64) = false := decide_eq_false q3
              by_cases q4 : n2 < 1
              · have u4 : decide (n2 < 1) = true := decide_eq_true q4
                go_wp2_with fail
                refine (same_T 0 0 0 0 0 A5 c5 [] A6 c6 [] 0 0 0 0 0 none 0 [] none 0 [] w4 (Kd.S_reads' X5.out).2.2 (Kd.R_reads' X6.out).2.2 (Nat.zero_le _) (Kd.C_nil _ _) (Kd.C_nil _ _) (Nat.le_refl _)).mono ?_
                rintro e w5 ⟨rfl, B5⟩
                go_wp2_with fail
                go_ret
                exact ⟨by simp, below_step D4.out B5⟩
              · have u4 : decide (n2 < 1) = false := decide_eq_false q4
                by_cases q5 : n2 > 2147483648
                · have u5 : decide (n2 > 2147483648) = true := decide_eq_true q5
                  go_wp2_with fail
                  refine (same_T 0 0 0 0 0 A5 c5 [] A6 c6 [] 0 0 0 0 0 none 0 [] none 0 [] w4 (Kd.S_reads' X5.out).2.2 (Kd.R_reads' X6.out).2.2 (Nat.zero_le _) (Kd.C_nil _ _) (Kd.C_nil _ _) (Nat.le_refl _)).mono ?_
                  rintro e w5 ⟨rfl, B5⟩
                  go_wp2_with fail
                  go_ret
                  exact ⟨by simp, below_step D4.out B5⟩
                · have u5 : decide (n2 > 2147483648) = false := decide_eq_false q5
                  by_cases q6 : n3 < 0
                  · have u6 : decide (n3 < 0) = true := decide_eq_true q6
                    go_wp2_with fail
                    refine (same_T 0 0 0 0 0 A5 c5 [] A6 c6 [] 0 0 0 0 0 none 0 [] none 0 [] w4 (Kd.S_reads' X5.out).2.2 (Kd.R_reads' X6.out).2.2 (Nat.zero_le _) (Kd.C_nil _ _) (Kd.C_nil _ _) (Nat.le_refl _)).mono ?_
                    rintro e w5 ⟨rfl, B5⟩
                    go_wp2_with fail
                    go_ret
                    exact ⟨by simp, below_step D4.out B5⟩
                  · have u6 : decide (n3 < 0) = false := decide_eq_false q6
                    by_cases q7 : n3 > 262144
                    · have u7 : decide (n3 > 262144) = true := decide_eq_true q7
                      go_wp2_with fail
                      refine (same_T 0 0 0 0 0 A5 c5 [] A6 c6 [] 0 0 0 0 0 none 0 [] none 0 [] w4 (Kd.S_reads' X5.out).2.2 (Kd.R_reads' X6.out).2.2 (Nat.zero_le _) (Kd.C_nil _ _) (Kd.C_nil _ _) (Nat.le_refl _)).mono ?_
                      rintro e w5 ⟨rfl, B5⟩
                      go_wp2_with fail
                      go_ret
                      exact ⟨by simp, below_step D4.out B5⟩
                    · exact absurd (show Rng n0 n1 n2 n3 from ⟨⟨by omega, by omega⟩, ⟨by omega, by omega⟩, ⟨by omega, by omega⟩, by omega, by omega⟩) hr
    · exact absurd hD.le3 (by omega)
end Go.Proofs.Ytcphmelmieedfaa.PMintScripts

