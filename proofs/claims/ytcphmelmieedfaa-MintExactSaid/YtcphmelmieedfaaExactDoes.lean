/-
One draw of both answers the same, and their states stay the same.
-/
import Derived.Test.YtcphmelmieedfaaExactMint
import Derived.Test.YtcphmelmieedfaaExactAwake
namespace Go.Proofs.Ytcphmelmieedfaa.PMintExact
open Go Go.RowKit Go.Proofs.YtcphmelmieedfaaW.PrintWords Go.Proofs.YtcphmelmieedfaaW.PrintLast Go.Proofs.YtcphmelmieedfaaW.PrintMore Go.Proofs.Ytcphmelmieedfaa.U
attribute [local go_sem] max2_int min2_int max_two min_two max_three min_three max_four min_four
set_option linter.unusedVariables false
set_option linter.unusedSimpArgs false
theorem keep73 {w0 w w' : World} {g g2 : Nat} {s : Int} (h : IsS73 w0 w g2 s) (hk : KeepBut w w' g none) (hne : g2 ≠ g) : IsS73 w0 w' g2 s := ⟨hk.blk h.1 hne (by simp), h.2⟩
theorem rebase73 {w0 w1 w : World} {g : Nat} {s : Int} (h : IsS73 w1 w g s) (hle : w0.heap.size ≤ w1.heap.size) : IsS73 w0 w g s := ⟨h.1, Nat.le_trans hle h.2⟩
theorem op_both (b : BitVec 64) (a0 a1 a2 a3 a4 keys : Int) : ∃ r1 r2 r3 r4 b', mint_Mint_Op.f 1200 (I b) a0 a1 a2 a3 a4 keys = some (r1, r2, r3, r4, I b') ∧ revenantref34_Mint_Op.f 1200 (I b) a0 a1 a2 a3 a4 keys = some (r1, r2, r3, r4, I b') := by
  by_cases h : CheckV a0 a1 a2 a3 a4 = 0 ∧ 1 ≤ keys ∧ keys ≤ 2147483648
  · exact ⟨_, _, _, _, _, op_f (by decide) b a0 a1 a2 a3 a4 keys h.1 h.2.1 h.2.2, rop34_f (by decide) b a0 a1 a2 a3 a4 keys h.1 h.2.1 h.2.2⟩
  · exact ⟨0, 0, 0, 0, b, op_no (by decide) _ a0 a1 a2 a3 a4 keys h, rop34_no (by decide) _ a0 a1 a2 a3 a4 keys h⟩
theorem below_both (b : BitVec 64) (n : Int) : ∃ x b', mint_Mint_Below.f (I b) n = some (x, I b') ∧ revenantref34_Mint_Below.f (I b) n = some (x, I b') := by
  by_cases h : 1 ≤ n ∧ n ≤ 2147483648
  · exact ⟨_, _, below_f b h.1 h.2, rbelow_f b h.1 h.2⟩
  · exact ⟨0, b, below_no _ h, rbelow_no _ h⟩
def Post (w0 : World) (g1 g2 : Nat) (e : Ending) (w' : World) : Prop := e = .returned (.bool true) ∧ ∃ b', IsS71 w0 w' g1 (I b') ∧ IsS73 w0 w' g2 (I b') ∧ Below w0.heap.size w0 w'
set_option maxHeartbeats 16000000 in
set_option maxRecDepth 100000 in
theorem does_T (g1 g2 : Nat) (b wd : BitVec 64) (kd c0 c1 c2 c3 c4 n m q : Int) (w0 w : World) (hI : IsS71 w0 w g1 (I b)) (hJ : IsS73 w0 w g2 (I b)) (hB : Below w0.heap.size w0 w) :
    Calls Try.prog 13 #[.pointer (some ⟨g1, 0, none⟩), .pointer (some ⟨g2, 0, none⟩), .agg #[.int .i64 kd, .int .i64 c0, .int .i64 c1, .int .i64 c2, .int .i64 c3, .int .i64 c4, .int .i64 n, .int .i64 m, .int .i64 q, .int .u64 (I wd)]] w (Post w0 g1 g2) := by
  have hu33 := Try.underlying33
  have hu31 := Try.underlying31
  have hu37 := Try.underlying37
  have hu40 := Try.underlying40
  have hu73 := Try.underlying73
  have N12 := Aside0.mk (show g1 ≠ g2 from hI.ne_blk hJ.1 (by decide))
  have N21 := Aside0.mk N12.out.symm
  have NX1 := Aside0.mk (show w.heap.size ≠ g1 by have := hI.lt; omega)
  have NX2 := Aside0.mk (show w.heap.size ≠ g2 by have := blk_lt hJ.1; omega)
  have HI := Aside0.mk hI
  have HJ := Aside0.mk hJ
  have HB := Aside0.mk hB
  have HL := Aside0.mk hB.size
  clear hI hJ hB
  by_cases k1 : kd = 1
  · subst k1
    have X1 := Aside0.mk (next_f b)
    have X2 := Aside0.mk (rnext_f b)
    generalize outv b = x at X1 X2
    go_enter Try.func13, Try.ntmps13
    go_wp2_with fail
    refine (mint_Mint_Next.calls g1 (I b) x (I (stp b)) w0 _ (IsS71.alloc HI.out _) (below_alloc HB.out _) X1.out).mono ?_
    rintro e w5 ⟨rfl, I5, B5, KB⟩
    have J5 := Aside0.mk I5
    have K5 := Aside0.mk (keep73 (IsS73.alloc HJ.out _) KB N21.out)
    have C5 := Aside0.mk B5
    clear I5 B5 KB
    go_wp2_with fail
    refine (revenantref34_Mint_Next.calls g2 (I b) x (I (stp b)) w0 _ K5.out C5.out X2.out).mono ?_
    rintro e w6 ⟨rfl, I6, B6, KB⟩
    have J6 := Aside0.mk (keepI J5.out KB N12.out)
    have K6 := Aside0.mk I6
    have C6 := Aside0.mk B6
    clear I6 B6 KB
    go_wp2_with fail
    go_ret
    exact ⟨by simp, _, J6.out, K6.out, C6.out⟩
  · have t1 : (kd == 1) = false := beq_eq_false_iff_ne.mpr k1
    clear k1
    by_cases k2 : kd = 2
    · subst k2
      obtain ⟨x, b2, hx1, hx2⟩ := below_both b n
      have X1 := Aside0.mk hx1
      have X2 := Aside0.mk hx2
      clear hx1 hx2 t1
      go_enter Try.func13, Try.ntmps13
      go_wp2_with fail
      refine start_ (n := 10) (S := fun w' => w'.cell? ⟨w.heap.size, 6, none⟩ = some (.int .i64 n)) (ds := []) #[false, false, false, false, false, false, false, false, false, false] (by kernel_rfl) rfl rfl ((blk_cell (blk_drew (blk_new w _)) 6).trans rfl) (fun hHeld => ?_)
      refine pure_ (i := 0) (N := some 23) (v := ?_) (a' := ?_) #[true, false, false, false, false, false, false, false, false, false] rfl rfl (by kernel_rfl) (fun _ _ _ h => h) (Or.inl ⟨by rfl, ?_⟩) ?_ ?_
      rotate_left
      · intro w'
        go_simp
        with_reducible rfl
      rotate_left
      · simp only [Act.put, List.setIfInBounds_toArray, List.set_cons_zero, List.set_cons_succ, i64_w, i32_w]
        rfl
      refine pure_ (i := 1) (N := some 24) (v := ?_) (a' := ?_) #[true, true, false, false, false, false, false, false, false, false] rfl rfl (by kernel_rfl) (fun _ _ _ h => h) (Or.inl ⟨by rfl, ?_⟩) ?_ ?_
      rotate_left
      · intro w'
        go_simp
        with_reducible rfl
      rotate_left
      · simp only [Act.put, List.setIfInBounds_toArray, List.set_cons_zero, List.set_cons_succ, i64_w, i32_w]
        rfl
      refine pure_ (i := 4) (N := some 27) (v := ?_) (a' := ?_) #[true, true, false, false, true, false, false, false, false, false] rfl rfl (by kernel_rfl) (fun _ _ _ h => h) (Or.inl ⟨by rfl, ?_⟩) ?_ ?_
      rotate_left
      · intro w'
        go_simp
        with_reducible rfl
      rotate_left
      · simp only [Act.put, List.setIfInBounds_toArray, List.set_cons_zero, List.set_cons_succ, i64_w, i32_w]
        rfl
      refine pure_ (i := 5) (N := some 28) (v := ?_) (a' := ?_) #[true, true, false, false, true, true, false, false, false, false] rfl rfl (by kernel_rfl) (fun _ _ _ h => h) (Or.inl ⟨by rfl, ?_⟩) ?_ ?_
      rotate_left
      · intro w'
        go_simp
        with_reducible rfl
      rotate_left
      · simp only [Act.put, List.setIfInBounds_toArray, List.set_cons_zero, List.set_cons_succ, i64_w, i32_w]
        rfl
      refine take_ (i := 2) (N := some 25) (v := ?_) (a' := ?_) #[true, true, true, false, true, true, false, false, false, false] rfl rfl (by kernel_rfl) (fun _ _ _ h => h) (Or.inl ⟨by rfl, ?_⟩) hHeld ?_ ?_
      rotate_left
      · intro w' s0
        go_simp
        with_reducible rfl
      rotate_left
      · simp only [Act.put, List.setIfInBounds_toArray, List.set_cons_zero, List.set_cons_succ, i64_w, i32_w]
        rfl
      refine take_ (i := 6) (N := some 29) (v := ?_) (a' := ?_) #[true, true, true, false, true, true, true, false, false, false] rfl rfl (by kernel_rfl) (fun _ _ _ h => h) (Or.inl ⟨by rfl, ?_⟩) hHeld ?_ ?_
      rotate_left
      · intro w' s0
        go_simp
        with_reducible rfl
      rotate_left
      · simp only [Act.put, List.setIfInBounds_toArray, List.set_cons_zero, List.set_cons_succ, i64_w, i32_w]
        rfl
      refine one_ (i := 3) (N := some 26) #[true, true, true, true, true, true, true, false, false, false] rfl rfl (by kernel_rfl) (by decide) (fun K hK => ?_)
      refine goes_ Try.func15 (by kernel_rfl) rfl #[.pointer (some ⟨g1, 0, none⟩), .int .i64 n] (by rfl) rfl rfl (by simp only [List.map_toArray, List.map_cons, List.map_nil]; rfl) ?_
      with_reducible refine (mint_Mint_Below.calls g1 (I b) n x (I b2) w0 _ (IsS71.drew (IsS71.alloc HI.out _)) (below_drew (below_alloc HB.out _)) X1.out).mono ?_
      rintro e w5 ⟨rfl, I5, B5, KB⟩
      refine ⟨_, rfl, ?_⟩
      have H5 := Aside0.mk (KB.blk (blk_drew (blk_new w (.cells #[.int .i64 2, .int .i64 c0, .int .i64 c1, .int .i64 c2, .int .i64 c3, .int .i64 c4, .int .i64 n, .int .i64 m, .int .i64 q, .int .u64 (I wd)] 33))) NX1.out (by simp))
      have J5 := Aside0.mk I5
      have K5 := Aside0.mk (keep73 (IsS73.drew (IsS73.alloc HJ.out _)) KB N21.out)
      have C5 := Aside0.mk B5
      clear I5 B5 KB
      refine hK.out _ _ ((blk_cell H5.out 6).trans rfl) (fun hHeld => ?_)
      clear hK K
      refine norm_ (a' := ?_) ?_ ?_
      rotate_left
      · show Act.put _ (some 26) _ = _
        simp only [Act.put, List.setIfInBounds_toArray, List.set_cons_zero, List.set_cons_succ, i64_w, i32_w]
        rfl
      refine one_ (i := 7) (N := some 30) #[true, true, true, true, true, true, true, true, false, false] rfl rfl (by kernel_rfl) (by decide) (fun K hK => ?_)
      refine goes_ Try.func36 (by kernel_rfl) rfl #[.pointer (some ⟨g2, 0, none⟩), .int .i64 n] (by rfl) rfl rfl (by simp only [List.map_toArray, List.map_cons, List.map_nil]; rfl) ?_
      with_reducible refine (revenantref34_Mint_Below.calls g2 (I b) n x (I b2) w0 _ K5.out C5.out X2.out).mono ?_
      rintro e w6 ⟨rfl, I6, B6, KB⟩
      refine ⟨_, rfl, ?_⟩
      have H6 := Aside0.mk (KB.blk H5.out NX2.out (by simp))
      have J6 := Aside0.mk (keepI J5.out KB N12.out)
      have K6 := Aside0.mk I6
      have C6 := Aside0.mk B6
      clear I6 B6 KB
      refine hK.out _ _ ((blk_cell H6.out 6).trans rfl) (fun hHeld => ?_)
      clear hK K
      refine norm_ (a' := ?_) ?_ ?_
      rotate_left
      · show Act.put _ (some 30) _ = _
        simp only [Act.put, List.setIfInBounds_toArray, List.set_cons_zero, List.set_cons_succ, i64_w, i32_w]
        rfl
      refine pure_ (i := 8) (N := some 31) (v := ?_) (a' := ?_) #[true, true, true, true, true, true, true, true, true, false] rfl rfl (by kernel_rfl) (fun _ _ _ h => h) (Or.inl ⟨by rfl, ?_⟩) ?_ ?_
      rotate_left
      · intro w'
        go_simp
        with_reducible rfl
      rotate_left
      · simp only [Act.put, List.setIfInBounds_toArray, List.set_cons_zero, List.set_cons_succ, i64_w, i32_w]
        rfl
      refine pure_ (i := 9) (N := some 6) (v := ?_) (a' := ?_) #[true, true, true, true, true, true, true, true, true, true] rfl rfl (by kernel_rfl) (fun _ _ _ h => h) (Or.inl ⟨by rfl, ?_⟩) ?_ ?_
      rotate_left
      · intro w'
        go_simp
        with_reducible rfl
      rotate_left
      · simp only [Act.put, List.setIfInBounds_toArray, List.set_cons_zero, List.set_cons_succ, i64_w, i32_w]
        rfl
      refine done_ (by kernel_rfl) ?_
      go_wp2_with fail
      go_ret
      exact ⟨by simp, _, J6.out, K6.out, C6.out⟩
    · have t2 : (kd == 2) = false := beq_eq_false_iff_ne.mpr k2
      clear k2
      by_cases k3 : kd = 3
      · subst k3
        obtain ⟨r1, r2, r3, r4, b2, hx1, hx2⟩ := op_both b c0 c1 c2 c3 c4 n
        have X1 := Aside0.mk hx1
        have X2 := Aside0.mk hx2
        clear hx1 hx2 t1 t2
        go_enter Try.func13, Try.ntmps13
        go_wp2_with fail
        refine start_ (n := 14) (S := fun w' => w'.cell? ⟨w.heap.size, 1, none⟩ = some (.int .i64 c0) ∧ w'.cell? ⟨w.heap.size, 2, none⟩ = some (.int .i64 c1) ∧ w'.cell? ⟨w.heap.size, 3, none⟩ = some (.int .i64 c2) ∧ w'.cell? ⟨w.heap.size, 4, none⟩ = some (.int .i64 c3) ∧ w'.cell? ⟨w.heap.size, 5, none⟩ = some (.int .i64 c4) ∧ w'.cell? ⟨w.heap.size, 6, none⟩ = some (.int .i64 n)) (ds := []) #[false, false, false, false, false, false, false, false, false, false, false, false, false, false] (by kernel_rfl) rfl rfl ⟨(blk_cell (blk_drew (blk_new w _)) 1).trans rfl, (blk_cell (blk_drew (blk_new w _)) 2).trans rfl, (blk_cell (blk_drew (blk_new w _)) 3).trans rfl, (blk_cell (blk_drew (blk_new w _)) 4).trans rfl, (blk_cell (blk_drew (blk_new w _)) 5).trans rfl, (blk_cell (blk_drew (blk_new w _)) 6).trans rfl⟩ (fun hHeld => ?_)
        refine pure_ (i := 0) (N := some 34) (v := ?_) (a' := ?_) #[true, false, false, false, false, false, false, false, false, false, false, false, false, false] rfl rfl (by kernel_rfl) (fun _ _ _ h => h) (Or.inl ⟨by rfl, ?_⟩) ?_ ?_
        rotate_left
        · intro w'
          go_simp
          with_reducible rfl
        rotate_left
        · simp only [Act.put, List.setIfInBounds_toArray, List.set_cons_zero, List.set_cons_succ, i64_w, i32_w]
          rfl
        refine pure_ (i := 1) (N := some 35) (v := ?_) (a' := ?_) #[true, true, false, false, false, false, false, false, false, false, false, false, false, false] rfl rfl (by kernel_rfl) (fun _ _ _ h => h) (Or.inl ⟨by rfl, ?_⟩) ?_ ?_
        rotate_left
        · intro w'
          go_simp
          with_reducible rfl
        rotate_left
        · simp only [Act.put, List.setIfInBounds_toArray, List.set_cons_zero, List.set_cons_succ, i64_w, i32_w]
          rfl
        refine pure_ (i := 3) (N := some 37) (v := ?_) (a' := ?_) #[true, true, false, true, false, false, false, false, false, false, false, false, false, false] rfl rfl (by kernel_rfl) (fun _ _ _ h => h) (Or.inl ⟨by rfl, ?_⟩) ?_ ?_
        rotate_left
        · intro w'
          go_simp
          with_reducible rfl
        rotate_left
        · simp only [Act.put, List.setIfInBounds_toArray, List.set_cons_zero, List.set_cons_succ, i64_w, i32_w]
          rfl
        refine pure_ (i := 6) (N := some 40) (v := ?_) (a' := ?_) #[true, true, false, true, false, false, true, false, false, false, false, false, false, false] rfl rfl (by kernel_rfl) (fun _ _ _ h => h) (Or.inl ⟨by rfl, ?_⟩) ?_ ?_
        rotate_left
        · intro w'
          go_simp
          with_reducible rfl
        rotate_left
        · simp only [Act.put, List.setIfInBounds_toArray, List.set_cons_zero, List.set_cons_succ, i64_w, i32_w]
          rfl
        refine pure_ (i := 7) (N := some 41) (v := ?_) (a' := ?_) #[true, true, false, true, false, false, true, true, false, false, false, false, false, false] rfl rfl (by kernel_rfl) (fun _ _ _ h => h) (Or.inl ⟨by rfl, ?_⟩) ?_ ?_
        rotate_left
        · intro w'
          go_simp
          with_reducible rfl
        rotate_left
        · simp only [Act.put, List.setIfInBounds_toArray, List.set_cons_zero, List.set_cons_succ, i64_w, i32_w]
          rfl
        refine pure_ (i := 9) (N := some 43) (v := ?_) (a' := ?_) #[true, true, false, true, false, false, true, true, false, true, false, false, false, false] rfl rfl (by kernel_rfl) (fun _ _ _ h => h) (Or.inl ⟨by rfl, ?_⟩) ?_ ?_
        rotate_left
        · intro w'
          go_simp
          with_reducible rfl
        rotate_left
        · simp only [Act.put, List.setIfInBounds_toArray, List.set_cons_zero, List.set_cons_succ, i64_w, i32_w]
          rfl
        refine take_ (i := 2) (N := some 36) (v := ?_) (a' := ?_) #[true, true, true, true, false, false, true, true, false, true, false, false, false, false] rfl rfl (by kernel_rfl) (fun _ _ _ h => h) (Or.inl ⟨by rfl, ?_⟩) hHeld ?_ ?_
        rotate_left
        · rintro w' ⟨s0, s1, s2, s3, s4, s5⟩
          go_simp
          with_reducible rfl
        rotate_left
        · simp only [Act.put, List.setIfInBounds_toArray, List.set_cons_zero, List.set_cons_succ, i64_w, i32_w]
          rfl
        refine take_ (i := 4) (N := some 38) (v := ?_) (a' := ?_) #[true, true, true, true, true, false, true, true, false, true, false, false, false, false] rfl rfl (by kernel_rfl) (fun _ _ _ h => h) (Or.inl ⟨by rfl, ?_⟩) hHeld ?_ ?_
        rotate_left
        · rintro w' ⟨s0, s1, s2, s3, s4, s5⟩
          go_simp
          with_reducible rfl
        rotate_left
        · simp only [Act.put, List.setIfInBounds_toArray, List.set_cons_zero, List.set_cons_succ, i64_w, i32_w]
          rfl
        refine take_ (i := 8) (N := some 42) (v := ?_) (a' := ?_) #[true, true, true, true, true, false, true, true, true, true, false, false, false, false] rfl rfl (by kernel_rfl) (fun _ _ _ h => h) (Or.inl ⟨by rfl, ?_⟩) hHeld ?_ ?_
        rotate_left
        · rintro w' ⟨s0, s1, s2, s3, s4, s5⟩
          go_simp
          with_reducible rfl
        rotate_left
        · simp only [Act.put, List.setIfInBounds_toArray, List.set_cons_zero, List.set_cons_succ, i64_w, i32_w]
          rfl
        refine take_ (i := 10) (N := some 44) (v := ?_) (a' := ?_) #[true, true, true, true, true, false, true, true, true, true, true, false, false, false] rfl rfl (by kernel_rfl) (fun _ _ _ h => h) (Or.inl ⟨by rfl, ?_⟩) hHeld ?_ ?_
        rotate_left
        · rintro w' ⟨s0, s1, s2, s3, s4, s5⟩
          go_simp
          with_reducible rfl
        rotate_left
        · simp only [Act.put, List.setIfInBounds_toArray, List.set_cons_zero, List.set_cons_succ, i64_w, i32_w]
          rfl
        refine one_ (i := 5) (N := some 39) #[true, true, true, true, true, true, true, true, true, true, true, false, false, false] rfl rfl (by kernel_rfl) (by decide) (fun K hK => ?_)
        refine goes_ Try.func16 (by kernel_rfl) rfl #[.pointer (some ⟨g1, 0, none⟩), Value.agg #[.int .i64 c0, .int .i64 c1, .int .i64 c2, .int .i64 c3, .int .i64 c4], .int .i64 n] (by rfl) rfl rfl (by simp only [List.map_toArray, List.map_cons, List.map_nil]; rfl) ?_
        with_reducible refine (mint_Mint_Op.calls 1200 g1 (I b) c0 c1 c2 c3 c4 n r1 r2 r3 r4 (I b2) w0 _ (IsS71.drew (IsS71.alloc HI.out _)) (below_drew (below_alloc HB.out _)) X1.out).mono ?_
        rintro e w5 ⟨rfl, I5, B5, KB⟩
        refine ⟨_, rfl, ?_⟩
        have H5 := Aside0.mk (KB.blk (blk_drew (blk_new w (.cells #[.int .i64 3, .int .i64 c0, .int .i64 c1, .int .i64 c2, .int .i64 c3, .int .i64 c4, .int .i64 n, .int .i64 m, .int .i64 q, .int .u64 (I wd)] 33))) NX1.out (by simp))
        have J5 := Aside0.mk I5
        have K5 := Aside0.mk (keep73 (IsS73.drew (IsS73.alloc HJ.out _)) KB N21.out)
        have C5 := Aside0.mk B5
        clear I5 B5 KB
        refine hK.out _ _ ⟨(blk_cell H5.out 1).trans rfl, (blk_cell H5.out 2).trans rfl, (blk_cell H5.out 3).trans rfl, (blk_cell H5.out 4).trans rfl, (blk_cell H5.out 5).trans rfl, (blk_cell H5.out 6).trans rfl⟩ (fun hHeld => ?_)
        clear hK K
        refine norm_ (a' := ?_) ?_ ?_
        rotate_left
        · show Act.put _ (some 39) _ = _
          simp only [Act.put, List.setIfInBounds_toArray, List.set_cons_zero, List.set_cons_succ, i64_w, i32_w]
          rfl
        refine one_ (i := 11) (N := some 45) #[true, true, true, true, true, true, true, true, true, true, true, true, false, false] rfl rfl (by kernel_rfl) (by decide) (fun K hK => ?_)
        refine goes_ Try.func23 (by kernel_rfl) rfl #[.pointer (some ⟨g2, 0, none⟩), Value.agg #[.int .i64 c0, .int .i64 c1, .int .i64 c2, .int .i64 c3, .int .i64 c4], .int .i64 n] (by rfl) rfl rfl (by simp only [List.map_toArray, List.map_cons, List.map_nil]; rfl) ?_
        with_reducible refine (revenantref34_Mint_Op.calls 1200 g2 (I b) c0 c1 c2 c3 c4 n r1 r2 r3 r4 (I b2) w0 _ K5.out C5.out X2.out).mono ?_
        rintro e w6 ⟨rfl, I6, B6, KB⟩
        refine ⟨_, rfl, ?_⟩
        have H6 := Aside0.mk (KB.blk H5.out NX2.out (by simp))
        have J6 := Aside0.mk (keepI J5.out KB N12.out)
        have K6 := Aside0.mk I6
        have C6 := Aside0.mk B6
        clear I6 B6 KB
        refine hK.out _ _ ⟨(blk_cell H6.out 1).trans rfl, (blk_cell H6.out 2).trans rfl, (blk_cell H6.out 3).trans rfl, (blk_cell H6.out 4).trans rfl, (blk_cell H6.out 5).trans rfl, (blk_cell H6.out 6).trans rfl⟩ (fun hHeld => ?_)
        clear hK K
        refine norm_ (a' := ?_) ?_ ?_
        rotate_left
        · show Act.put _ (some 45) _ = _
          simp only [Act.put, List.setIfInBounds_toArray, List.set_cons_zero, List.set_cons_succ, i64_w, i32_w]
          rfl
        refine pure_ (i := 12) (N := some 46) (v := ?_) (a' := ?_) #[true, true, true, true, true, true, true, true, true, true, true, true, true, false] rfl rfl (by kernel_rfl) (fun _ _ _ h => h) (Or.inl ⟨by rfl, ?_⟩) ?_ ?_
        rotate_left
        · intro w'
          go_simp
          with_reducible rfl
        rotate_left
        · simp only [Act.put, List.setIfInBounds_toArray, List.set_cons_zero, List.set_cons_succ, i64_w, i32_w]
          rfl
        refine pure_ (i := 13) (N := some 6) (v := ?_) (a' := ?_) #[true, true, true, true, true, true, true, true, true, true, true, true, true, true] rfl rfl (by kernel_rfl) (fun _ _ _ h => h) (Or.inl ⟨by rfl, ?_⟩) ?_ ?_
        rotate_left
        · intro w'
          go_simp
          with_reducible rfl
        rotate_left
        · simp only [Act.put, List.setIfInBounds_toArray, List.set_cons_zero, List.set_cons_succ, i64_w, i32_w]
          rfl
        refine done_ (by kernel_rfl) ?_
        go_wp2_with fail
        go_ret
        exact ⟨by simp, _, J6.out, K6.out, C6.out⟩
      · have t3 : (kd == 3) = false := beq_eq_false_iff_ne.mpr k3
        clear k3
        by_cases k4 : kd = 4
        · subst k4
          have hm : Int.tmod m 500 ≤ 499 := by
            by_cases h : 0 ≤ m
            · rw [tmod_pos h]; omega
            · rw [tmod_neg (by omega)]; omega
          obtain ⟨l, b2, hl, hx1, hx2⟩ := picks_both b n (Int.tmod m 500) q hm
          have X1 := Aside0.mk hx1
          have X2 := Aside0.mk hx2
          have LL := Aside0.mk hl
          clear hx1 hx2 t1 t2 t3 hm hl
          go_enter Try.func13, Try.ntmps13
          go_wp2_with fail
          refine (mint_Mint_Picks.calls 3000 g1 (I b) n (Int.tmod m 500) q l (I b2) w0 _ (IsS71.alloc HI.out _) (below_alloc HB.out _) X1.out).mono ?_
          rintro e w5 ⟨v0, rfl, R5_, I5, B5, KB⟩
          obtain ⟨A5, c5, rfl, hc5, hC5⟩ := Kd.R_reads R5_
          have H5 := Aside0.mk (KB.blk (blk_new w (.cells #[.int .i64 4, .int .i64 c0, .int .i64 c1, .int .i64 c2, .int .i64 c3, .int .i64 c4, .int .i64 n, .int .i64 m, .int .i64 q, .int .u64 (I wd)] 33)) NX1.out (by simp))
          have J5 := Aside0.mk I5
          have K5 := Aside0.mk (keep73 (IsS73.alloc HJ.out _) KB N21.out)
          have C5 := Aside0.mk B5
          have RR := Aside0.mk R5_
          have h6 : w5.cell? ⟨w.heap.size, 6, none⟩ = some (.int .i64 n) := (blk_cell H5.out 6).trans rfl
          have h7 : w5.cell? ⟨w.heap.size, 7, none⟩ = some (.int .i64 m) := (blk_cell H5.out 7).trans rfl
          have h8 : w5.cell? ⟨w.heap.size, 8, none⟩ = some (.int .i64 q) := (blk_cell H5.out 8).trans rfl
          clear I5 B5 KB R5_ hC5
          go_wp2_with fail
          refine (revenantref34_Mint_Picks.calls 3000 g2 (I b) n (Int.tmod m 500) q l (I b2) w0 _ K5.out C5.out X2.out).mono ?_
          rintro e w6 ⟨v1, rfl, R6_, I6, B6, KB⟩
          obtain ⟨A6, c6, rfl, hc6, hC6⟩ := Kd.R_reads R6_
          have J6 := Aside0.mk (keepI J5.out KB N12.out)
          have K6 := Aside0.mk I6
          have C6 := Aside0.mk B6
          have i3 : ∀ z, z ∈ 3 :: (Kd.int .i64).E → z ≠ 73 := by
            intro z hz
            have : z = 3 := by simpa [Kd.int, Kd.scalar] using hz
            omega
          have D5 := Aside0.mk (Kd.R_reads' (Kd.R_keep (K5.out.apart RR.out i3) KB (fun k hk => hk.2))).2.2
          have D6 := Aside0.mk hC6
          have ll : (l.length : Int) ≤ 499 := by have := LL.out; omega
          have tl : ((l.length : Int) != (l.length : Int)) = false := bne_self_eq_false _
          clear I6 B6 KB R6_ hC6 i3 h6 h7 h8
          go_wp2_with fail
          go_loopg [6, 9] l.length (fun kq v6 v9 w' => ∃ (i : Int), v6 = .bool false ∧ v9 = .int .i64 i ∧ Aside0 (0 ≤ i ∧ i + kq = l.length) ∧ Aside0 (Below w6.heap.size w6 w'))
          case atStart => exact ⟨0, rfl, rfl, ⟨by omega⟩, ⟨Below.refl _ _⟩⟩
          case round =>
            obtain ⟨i, rfl, rfl, HK, HW⟩ := hrel
            by_cases hi : i < (l.length : Int)
            · have t1 : decide (i < (l.length : Int)) = true := decide_eq_true hi
              have p0 : (0 : Int) ≤ i := HK.out.1
              have q0 : i < (l.length : Int) := hi
              clear hi
              obtain ⟨ko, rfl⟩ : ∃ m, gk = m + 1 := ⟨gk - 1, by have := HK.out; omega⟩
              obtain ⟨ad, e0, hx0⟩ := Kd.at_int D5.out i p0 q0
              obtain ⟨ad2, e1, hx1⟩ := Kd.at_int D6.out i p0 q0
              cases e0
              cases e1
              replace hx0 : wr.drew.cell? (ad.add i.toNat) = some (.int .i64 (rd l i)) := (HW.out.cell (World.block_lt_of_cell? w6 _ hx0)).trans hx0
              replace hx1 : wr.drew.cell? (ad2.add i.toNat) = some (.int .i64 (rd l i)) := (HW.out.cell (World.block_lt_of_cell? w6 _ hx1)).trans hx1
              have p0b : decide (0 ≤ i) = true := decide_eq_true p0
              have p0c := Aside0.mk p0
              have q0c := Aside0.mk q0
              replace p0 := eq_true p0
              replace q0 := eq_true q0
              go_wp2_with fail
              refine start_ (n := 9) (S := fun w' => w'.cell? (ad.add i.toNat) = some (.int .i64 (rd l i)) ∧ w'.cell? (ad2.add i.toNat) = some (.int .i64 (rd l i))) (ds := []) #[false, false, false, false, false, false, false, false, false] (by kernel_rfl) rfl rfl ⟨hx0, hx1⟩ (fun hHeld => ?_)
              refine pure_ (i := 0) (N := some 78) (v := ?_) (a' := ?_) #[true, false, false, false, false, false, false, false, false] rfl rfl (by kernel_rfl) (fun _ _ _ h => h) (Or.inl ⟨by rfl, ?_⟩) ?_ ?_
              rotate_left
              · intro w'
                go_simp
                with_reducible rfl
              rotate_left
              · simp only [Act.put, List.setIfInBounds_toArray, List.set_cons_zero, List.set_cons_succ, i64_w, i32_w]
                rfl
              refine pure_ (i := 1) (N := some 79) (v := ?_) (a' := ?_) #[true, true, false, false, false, false, false, false, false] rfl rfl (by kernel_rfl) (fun _ _ _ h => h) (Or.inl ⟨by rfl, ?_⟩) ?_ ?_
              rotate_left
              · intro w'
                go_simp
                with_reducible rfl
              rotate_left
              · simp only [Act.put, List.setIfInBounds_toArray, List.set_cons_zero, List.set_cons_succ, i64_w, i32_w]
                rfl
              refine pure_ (i := 2) (N := some 80) (v := ?_) (a' := ?_) #[true, true, true, false, false, false, false, false, false] rfl rfl (by kernel_rfl) (fun _ _ _ h => h) (Or.inl ⟨by rfl, ?_⟩) ?_ ?_
              rotate_left
              · intro w'
                go_simp
                with_reducible rfl
              rotate_left
              · simp only [Act.put, List.setIfInBounds_toArray, List.set_cons_zero, List.set_cons_succ, i64_w, i32_w]
                rfl
              refine pure_ (i := 4) (N := some 82) (v := ?_) (a' := ?_) #[true, true, true, false, true, false, false, false, false] rfl rfl (by kernel_rfl) (fun _ _ _ h => h) (Or.inl ⟨by rfl, ?_⟩) ?_ ?_
              rotate_left
              · intro w'
                go_simp
                with_reducible rfl
              rotate_left
              · simp only [Act.put, List.setIfInBounds_toArray, List.set_cons_zero, List.set_cons_succ, i64_w, i32_w]
                rfl
              refine pure_ (i := 5) (N := some 83) (v := ?_) (a' := ?_) #[true, true, true, false, true, true, false, false, false] rfl rfl (by kernel_rfl) (fun _ _ _ h => h) (Or.inl ⟨by rfl, ?_⟩) ?_ ?_
              rotate_left
              · intro w'
                go_simp
                with_reducible rfl
              rotate_left
              · simp only [Act.put, List.setIfInBounds_toArray, List.set_cons_zero, List.set_cons_succ, i64_w, i32_w]
                rfl
              refine pure_ (i := 6) (N := some 84) (v := ?_) (a' := ?_) #[true, true, true, false, true, true, true, false, false] rfl rfl (by kernel_rfl) (fun _ _ _ h => h) (Or.inl ⟨by rfl, ?_⟩) ?_ ?_
              rotate_left
              · intro w'
                go_simp
                with_reducible rfl
              rotate_left
              · simp only [Act.put, List.setIfInBounds_toArray, List.set_cons_zero, List.set_cons_succ, i64_w, i32_w]
                rfl
              refine take_ (i := 3) (N := some 81) (v := ?_) (a' := ?_) #[true, true, true, true, true, true, true, false, false] rfl rfl (by kernel_rfl) (fun _ _ _ h => h) (Or.inl ⟨by rfl, ?_⟩) hHeld ?_ ?_
              rotate_left
              · rintro w' ⟨s0, s1⟩
                go_simp
                with_reducible rfl
              rotate_left
              · simp only [Act.put, List.setIfInBounds_toArray, List.set_cons_zero, List.set_cons_succ, i64_w, i32_w]
                rfl
              refine take_ (i := 7) (N := some 85) (v := ?_) (a' := ?_) #[true, true, true, true, true, true, true, true, false] rfl rfl (by kernel_rfl) (fun _ _ _ h => h) (Or.inl ⟨by rfl, ?_⟩) hHeld ?_ ?_
              rotate_left
              · rintro w' ⟨s0, s1⟩
                go_simp
                with_reducible rfl
              rotate_left
              · simp only [Act.put, List.setIfInBounds_toArray, List.set_cons_zero, List.set_cons_succ, i64_w, i32_w]
                rfl
              refine pure_ (i := 8) (N := some 86) (v := ?_) (a' := ?_) #[true, true, true, true, true, true, true, true, true] rfl rfl (by kernel_rfl) (fun _ _ _ h => h) (Or.inl ⟨by rfl, ?_⟩) ?_ ?_
              rotate_left
              · intro w'
                go_simp
                with_reducible rfl
              rotate_left
              · simp only [Act.put, List.setIfInBounds_toArray, List.set_cons_zero, List.set_cons_succ, i64_w, i32_w]
                rfl
              refine done_ (by kernel_rfl) ?_
              have b3 : i < 9223372036854775807 := by have := q0c.out; have := LL.out; omega
              have b4 : 0 ≤ i := p0c.out
              go_wp2_with fail
              go_roundg ko
              case rel => exact ⟨i + 1, rfl, rfl, ⟨by have := HK.out; have := q0c.out; omega⟩, ⟨below_drew HW.out⟩⟩
              case measure => exact Nat.lt_succ_self _
            · have t1 : decide (i < (l.length : Int)) = false := decide_eq_false hi
              clear hi
              go_wp2_with fail
              go_ret
              exact ⟨rfl, _, J6.out.below HW.out, K6.out.below HW.out, below_step C6.out HW.out⟩
        · have t4 : (kd == 4) = false := beq_eq_false_iff_ne.mpr k4
          clear k4
          have X1 := Aside0.mk (back_f 10 wd)
          by_cases hz : wd = 0#64
          · subst hz
            have e0 : I (0#64) = 0 := rfl
            rw [bck_zero, e0] at X1
            rw [e0]
            go_enter Try.func13, Try.ntmps13
            go_wp2_with fail
            refine (mint_Back.calls 20 0 0 _ X1.out).mono ?_
            rintro e w5 ⟨rfl, ⟨nd, rfl⟩⟩
            go_wp2_with fail
            go_ret
            exact ⟨by simp, b, (IsS71.drewN (IsS71.alloc HI.out _) nd), (IsS73.drewN (IsS73.alloc HJ.out _) nd), pw_below_drewN (below_alloc HB.out _) nd⟩
          · have tz : (I wd == 0) = false := beq_eq_false_iff_ne.mpr (fun e => hz (I_zero.1 e))
            obtain ⟨x, hx⟩ : ∃ x, revenantref34_Mint_Next.f (I (bck wd)) = some (x, I wd) := ⟨_, by rw [rnext_f, stp_bck]⟩
            have X2 := Aside0.mk hx
            clear hz hx
            generalize I (bck wd) = p at *
            go_enter Try.func13, Try.ntmps13
            go_wp2_with fail
            refine (mint_Back.calls 20 (I wd) p _ X1.out).mono ?_
            rintro e w5 ⟨rfl, ⟨nd, rfl⟩⟩
            go_wp2_with fail
            have hV : IsS73 w0 (((w.alloc (.cells #[.int .i64 kd, .int .i64 c0, .int .i64 c1, .int .i64 c2, .int .i64 c3, .int .i64 c4, .int .i64 n, .int .i64 m, .int .i64 q, .int .u64 (I wd)] 33)).drewN nd).alloc (.cells #[.int .u64 p] 73)) (w.heap.size + 1) p :=
              ⟨by have := blk_new ((w.alloc (.cells #[.int .i64 kd, .int .i64 c0, .int .i64 c1, .int .i64 c2, .int .i64 c3, .int .i64 c4, .int .i64 n, .int .i64 m, .int .i64 q, .int .u64 (I wd)] 33)).drewN nd) (.cells #[.int .u64 p] 73); simpa using this, by have := HL.out; omega⟩
            have hBV : Below w0.heap.size w0 (((w.alloc (.cells #[.int .i64 kd, .int .i64 c0, .int .i64 c1, .int .i64 c2, .int .i64 c3, .int .i64 c4, .int .i64 n, .int .i64 m, .int .i64 q, .int .u64 (I wd)] 33)).drewN nd).alloc (.cells #[.int .u64 p] 73)) := below_alloc (pw_below_drewN (below_alloc HB.out _) nd) _
            refine (revenantref34_Mint_Next.calls (w.heap.size + 1) p x (I wd) w0 _ hV hBV X2.out).mono ?_
            rintro e w6 ⟨rfl, I6, B6, KB⟩
            have H6 := Aside0.mk (KB.blk (blk_alloc (blk_drewN (blk_new w (.cells #[.int .i64 kd, .int .i64 c0, .int .i64 c1, .int .i64 c2, .int .i64 c3, .int .i64 c4, .int .i64 n, .int .i64 m, .int .i64 q, .int .u64 (I wd)] 33)) nd) (.cells #[.int .u64 p] 73)) (by omega) (by simp))
            have J6 := Aside0.mk I6
            have S1 := Aside0.mk (keepI (IsS71.alloc (IsS71.drewN (IsS71.alloc HI.out _) nd) _) KB (by have := HI.out.lt; omega))
            have S2 := Aside0.mk (keep73 (IsS73.alloc (IsS73.drewN (IsS73.alloc HJ.out _) nd) _) KB (by have := blk_lt HJ.out.1; omega))
            have C6 := Aside0.mk B6
            clear I6 B6 KB hV hBV
            go_wp2_with fail
            refine start_ (n := 8) (S := fun w' => w'.cell? ⟨w.heap.size + 1, 0, none⟩ = some (.int .u64 (I wd)) ∧ w'.cell? ⟨w.heap.size, 9, none⟩ = some (.int .u64 (I wd))) (ds := []) #[false, false, false, false, false, false, false, false] (by kernel_rfl) rfl rfl ⟨(blk_cell (blk_drew J6.out.1) 0).trans rfl, (blk_cell (blk_drew H6.out) 9).trans rfl⟩ (fun hHeld => ?_)
            refine pure_ (i := 0) (N := some 100) (v := ?_) (a' := ?_) #[true, false, false, false, false, false, false, false] rfl rfl (by kernel_rfl) (fun _ _ _ h => h) (Or.inl ⟨by rfl, ?_⟩) ?_ ?_
            rotate_left
            · intro w'
              go_simp
              with_reducible rfl
            rotate_left
            · simp only [Act.put, List.setIfInBounds_toArray, List.set_cons_zero, List.set_cons_succ, i64_w, i32_w]
              rfl
            refine pure_ (i := 1) (N := some 101) (v := ?_) (a' := ?_) #[true, true, false, false, false, false, false, false] rfl rfl (by kernel_rfl) (fun _ _ _ h => h) (Or.inl ⟨by rfl, ?_⟩) ?_ ?_
            rotate_left
            · intro w'
              go_simp
              with_reducible rfl
            rotate_left
            · simp only [Act.put, List.setIfInBounds_toArray, List.set_cons_zero, List.set_cons_succ, i64_w, i32_w]
              rfl
            refine pure_ (i := 2) (N := some 102) (v := ?_) (a' := ?_) #[true, true, true, false, false, false, false, false] rfl rfl (by kernel_rfl) (fun _ _ _ h => h) (Or.inl ⟨by rfl, ?_⟩) ?_ ?_
            rotate_left
            · intro w'
              go_simp
              with_reducible rfl
            rotate_left
            · simp only [Act.put, List.setIfInBounds_toArray, List.set_cons_zero, List.set_cons_succ, i64_w, i32_w]
              rfl
            refine pure_ (i := 4) (N := some 104) (v := ?_) (a' := ?_) #[true, true, true, false, true, false, false, false] rfl rfl (by kernel_rfl) (fun _ _ _ h => h) (Or.inl ⟨by rfl, ?_⟩) ?_ ?_
            rotate_left
            · intro w'
              go_simp
              with_reducible rfl
            rotate_left
            · simp only [Act.put, List.setIfInBounds_toArray, List.set_cons_zero, List.set_cons_succ, i64_w, i32_w]
              rfl
            refine take_ (i := 3) (N := some 103) (v := ?_) (a' := ?_) #[true, true, true, true, true, false, false, false] rfl rfl (by kernel_rfl) (fun _ _ _ h => h) (Or.inl ⟨by rfl, ?_⟩) hHeld ?_ ?_
            rotate_left
            · rintro w' ⟨s0, s1⟩
              go_simp
              with_reducible rfl
            rotate_left
            · simp only [Act.put, List.setIfInBounds_toArray, List.set_cons_zero, List.set_cons_succ, i64_w, i32_w]
              rfl
            refine take_ (i := 5) (N := some 105) (v := ?_) (a' := ?_) #[true, true, true, true, true, true, false, false] rfl rfl (by kernel_rfl) (fun _ _ _ h => h) (Or.inl ⟨by rfl, ?_⟩) hHeld ?_ ?_
            rotate_left
            · rintro w' ⟨s0, s1⟩
              go_simp
              with_reducible rfl
            rotate_left
            · simp only [Act.put, List.setIfInBounds_toArray, List.set_cons_zero, List.set_cons_succ, i64_w, i32_w]
              rfl
            refine pure_ (i := 6) (N := some 106) (v := ?_) (a' := ?_) #[true, true, true, true, true, true, true, false] rfl rfl (by kernel_rfl) (fun _ _ _ h => h) (Or.inl ⟨by rfl, ?_⟩) ?_ ?_
            rotate_left
            · intro w'
              go_simp
              with_reducible rfl
            rotate_left
            · simp only [Act.put, List.setIfInBounds_toArray, List.set_cons_zero, List.set_cons_succ, i64_w, i32_w]
              rfl
            refine pure_ (i := 7) (N := some 6) (v := ?_) (a' := ?_) #[true, true, true, true, true, true, true, true] rfl rfl (by kernel_rfl) (fun _ _ _ h => h) (Or.inl ⟨by rfl, ?_⟩) ?_ ?_
            rotate_left
            · intro w'
              go_simp
              with_reducible rfl
            rotate_left
            · simp only [Act.put, List.setIfInBounds_toArray, List.set_cons_zero, List.set_cons_succ, i64_w, i32_w]
              rfl
            refine done_ (by kernel_rfl) ?_
            go_wp2_with fail
            go_ret
            exact ⟨by simp, b, S1.out.drew, S2.out.drew, below_drew C6.out⟩
end Go.Proofs.Ytcphmelmieedfaa.PMintExact

