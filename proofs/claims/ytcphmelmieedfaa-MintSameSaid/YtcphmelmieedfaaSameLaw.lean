/-
Of the same seed all is the same: the law answers true, whatever its arguments are.
-/
import Derived.Test.YtcphmelmieedfaaSameMint
import Derived.Test.YtcphmelmieedfaaSameAwake
namespace Go.Proofs.Ytcphmelmieedfaa.PMintSame
open Go Go.RowKit Go.Proofs.YtcphmelmieedfaaW.PrintWords Go.Proofs.YtcphmelmieedfaaW.PrintLast Go.Proofs.YtcphmelmieedfaaW.PrintMore Go.Proofs.Ytcphmelmieedfaa.U
attribute [local go_sem] max2_int min2_int max_two min_two max_three min_three max_four min_four
set_option linter.unusedVariables false
set_option linter.unusedSimpArgs false
theorem modK (n : Int) : 1 ≤ wrap64 (1 + wrap64 ((IntKind.u64.wrap n).tmod 1000)) ∧ wrap64 (1 + wrap64 ((IntKind.u64.wrap n).tmod 1000)) ≤ 1000 := by
  have h : 0 ≤ IntKind.u64.wrap n := by rw [wrapU_mod]; omega
  rw [tmod_pos h]
  generalize IntKind.u64.wrap n = m at *
  rw [w64 (x := m % 1000) (by omega) (by omega), w64 (by omega) (by omega)]
  omega
theorem op_any (b : BitVec 64) (a0 a1 a2 a3 a4 keys : Int) : ∃ r1 r2 r3 r4 b', mint_Mint_Op.f 1200 (I b) a0 a1 a2 a3 a4 keys = some (r1, r2, r3, r4, I b') := by
  by_cases h : CheckV a0 a1 a2 a3 a4 = 0 ∧ 1 ≤ keys ∧ keys ≤ 2147483648
  · exact ⟨_, _, _, _, _, op_f (by decide) b a0 a1 a2 a3 a4 keys h.1 h.2.1 h.2.2⟩
  · exact ⟨0, 0, 0, 0, b, op_no (by decide) _ a0 a1 a2 a3 a4 keys h⟩
set_option maxHeartbeats 8000000 in
set_option maxRecDepth 100000 in
theorem sameT (b d : BitVec 64) (n c0 c1 c2 c3 c4 : Int) (w : World) :
    Calls Try.prog 4 #[.int .u64 (I b), .int .u64 (I d), .int .i64 n, .agg #[.int .i64 c0, .int .i64 c1, .int .i64 c2, .int .i64 c3, .int .i64 c4]] w fun e w' => e = .returned (.bool true) ∧ Below w.heap.size w w' := by
  have hu31 := Try.underlying31
  have hu37 := Try.underlying37
  go_enter Try.func4, Try.ntmps4
  go_wp2_with fail
  refine (awakeT _).mono ?_
  rintro e w1 ⟨rfl, B1⟩
  have C1 := Aside0.mk (below_step (below_alloc (Below.refl w.heap.size w) _) B1)
  have H1 := Aside0.mk (blk_below (blk_new w _) B1)
  clear B1
  go_wp2_with fail
  refine (mint_New.calls (I b) (I (seed0 b)) w1 w1 (Below.refl _ _) (new_f b)).mono ?_
  rintro e w2 ⟨g1, rfl, I1, B1, _⟩
  have NS1 := Aside0.mk (show w.heap.size ≠ g1 by have := blk_lt H1.out; have := I1.ge; omega)
  have J1 := Aside0.mk (rebase I1 C1.out.size)
  have C2 := Aside0.mk (below_step C1.out B1)
  have H2 := Aside0.mk (blk_below H1.out B1)
  clear I1 B1 C1 H1
  go_wp2_with fail
  refine (mint_New.calls (I b) (I (seed0 b)) w2 w2 (Below.refl _ _) (new_f b)).mono ?_
  rintro e w3 ⟨g2, rfl, I2, B2, _⟩
  have NS2 := Aside0.mk (show w.heap.size ≠ g2 by have := blk_lt H2.out; have := I2.ge; omega)
  have N12 := Aside0.mk (show g1 ≠ g2 by have := J1.out.lt; have := I2.ge; omega)
  have J2 := Aside0.mk (rebase I2 C2.out.size)
  have J3 := Aside0.mk (J1.out.below B2)
  have C3 := Aside0.mk (below_step C2.out B2)
  have H3 := Aside0.mk (blk_below H2.out B2)
  clear I2 B2 C2 H2 J1
  go_wp2_with fail
  generalize hK : wrap64 (1 + wrap64 ((IntKind.u64.wrap n).tmod 1000)) = kk
  have HK := Aside0.mk (show 1 ≤ kk ∧ kk ≤ 1000 by rw [← hK]; exact modK n)
  clear hK
  have JJ := Aside0.mk (show IsS71 w w3 g2 (I (seed0 b)) from J2.out)
  go_loopg [8, 12] 20 (fun kq v8 v12 w' => ∃ (i : Int) (s : BitVec 64), v8 = .bool false ∧ v12 = .int .i64 i ∧ Aside0 (0 ≤ i ∧ i + kq = 20) ∧ Aside0 (IsS71 w w' g1 (I s)) ∧ Aside0 (IsS71 w w' g2 (I s)) ∧ Aside0 (w'.heap[w.heap.size]? = some (.cells #[.int .i64 c0, .int .i64 c1, .int .i64 c2, .int .i64 c3, .int .i64 c4] 31 (0, 0))) ∧ Aside0 (Below w.heap.size w w'))
  case atStart => exact ⟨0, seed0 b, rfl, rfl, ⟨by omega⟩, J3, JJ, H3, C3⟩
  case round =>
    clear J3 JJ J2 H3 C3
    obtain ⟨i, s, rfl, rfl, HI, J1, J2, H5, C5⟩ := hrel
    by_cases hi : i < 20
    · have t1 : decide (i < 20) = true := decide_eq_true hi
      obtain ⟨ko, rfl⟩ : ∃ m, gk = m + 1 := ⟨gk - 1, by have := HI.out; omega⟩
      have hi0 : 0 ≤ i := HI.out.1
      obtain ⟨x, hx, hx0, hx1⟩ : ∃ x, mint_Mint_Below.f (I s) kk = some (x, I (stp s)) ∧ 0 ≤ x ∧ x < kk := ⟨bel s kk, below_f s HK.out.1 (by have := HK.out.2; omega), (bel_range s HK.out.1 (by have := HK.out.2; omega)).1, (bel_range s HK.out.1 (by have := HK.out.2; omega)).2⟩
      have HX := Aside0.mk hx
      have t2 : decide (x < 0) = false := decide_eq_false (by omega)
      have t3 : decide (x ≥ kk) = false := decide_eq_false (by omega)
      have t4 : decide (kk ≤ x) = false := decide_eq_false (by omega)
      obtain ⟨r1, r2, r3, r4, s2, ho⟩ := op_any (stp s) c0 c1 c2 c3 c4 kk
      have HO := Aside0.mk ho
      clear hx hx0 hx1 ho
      go_wp2_with fail
      refine (mint_Mint_Below.calls g1 (I s) kk x (I (stp s)) w wr J1.out C5.out HX.out).mono ?_
      rintro e w5 ⟨rfl, I5, B5, KB⟩
      have H6 := Aside0.mk (KB.blk H5.out NS1.out (by simp))
      have J3 := Aside0.mk I5
      have J4 := Aside0.mk (keepI J2.out KB N12.out.symm)
      have C6 := Aside0.mk B5
      clear I5 B5 KB J1 J2 H5 C5
      go_wp2_with fail
      refine start_ (n := 25) (S := fun w' => w'.cell? ⟨w.heap.size, 0, none⟩ = some (.int .i64 c0) ∧ w'.cell? ⟨w.heap.size, 1, none⟩ = some (.int .i64 c1) ∧ w'.cell? ⟨w.heap.size, 2, none⟩ = some (.int .i64 c2) ∧ w'.cell? ⟨w.heap.size, 3, none⟩ = some (.int .i64 c3) ∧ w'.cell? ⟨w.heap.size, 4, none⟩ = some (.int .i64 c4)) (ds := []) #[false, false, false, false, false, false, false, false, false, false, false, false, false, false, false, false, false, false, false, false, false, false, false, false, false] (by kernel_rfl) rfl rfl ⟨(blk_cell (blk_drew H6.out) 0).trans rfl, (blk_cell (blk_drew H6.out) 1).trans rfl, (blk_cell (blk_drew H6.out) 2).trans rfl, (blk_cell (blk_drew H6.out) 3).trans rfl, (blk_cell (blk_drew H6.out) 4).trans rfl⟩ (fun hHeld => ?_)
      refine pure_ (i := 0) (N := some 34) (v := ?_) (a' := ?_) #[true, false, false, false, false, false, false, false, false, false, false, false, false, false, false, false, false, false, false, false, false, false, false, false, false] rfl rfl (by kernel_rfl) (fun _ _ _ h => h) (Or.inl ⟨by rfl, ?_⟩) ?_ ?_
      rotate_left
      · intro w'
        go_simp
        with_reducible rfl
      rotate_left
      · simp only [Act.put, List.setIfInBounds_toArray, List.set_cons_zero, List.set_cons_succ, i64_w, i32_w]
        rfl
      refine pure_ (i := 1) (N := some 35) (v := ?_) (a' := ?_) #[true, true, false, false, false, false, false, false, false, false, false, false, false, false, false, false, false, false, false, false, false, false, false, false, false] rfl rfl (by kernel_rfl) (fun _ _ _ h => h) (Or.inl ⟨by rfl, ?_⟩) ?_ ?_
      rotate_left
      · intro w'
        go_simp
        with_reducible rfl
      rotate_left
      · simp only [Act.put, List.setIfInBounds_toArray, List.set_cons_zero, List.set_cons_succ, i64_w, i32_w]
        rfl
      refine pure_ (i := 2) (N := some 36) (v := ?_) (a' := ?_) #[true, true, true, false, false, false, false, false, false, false, false, false, false, false, false, false, false, false, false, false, false, false, false, false, false] rfl rfl (by kernel_rfl) (fun _ _ _ h => h) (Or.inl ⟨by rfl, ?_⟩) ?_ ?_
      rotate_left
      · intro w'
        go_simp
        with_reducible rfl
      rotate_left
      · simp only [Act.put, List.setIfInBounds_toArray, List.set_cons_zero, List.set_cons_succ, i64_w, i32_w]
        rfl
      refine pure_ (i := 3) (N := some 37) (v := ?_) (a' := ?_) #[true, true, true, true, false, false, false, false, false, false, false, false, false, false, false, false, false, false, false, false, false, false, false, false, false] rfl rfl (by kernel_rfl) (fun _ _ _ h => h) (Or.inl ⟨by rfl, ?_⟩) ?_ ?_
      rotate_left
      · intro w'
        go_simp
        with_reducible rfl
      rotate_left
      · simp only [Act.put, List.setIfInBounds_toArray, List.set_cons_zero, List.set_cons_succ, i64_w, i32_w]
        rfl
      refine pure_ (i := 4) (N := some 38) (v := ?_) (a' := ?_) #[true, true, true, true, true, false, false, false, false, false, false, false, false, false, false, false, false, false, false, false, false, false, false, false, false] rfl rfl (by kernel_rfl) (fun _ _ _ h => h) (Or.inl ⟨by rfl, ?_⟩) ?_ ?_
      rotate_left
      · intro w'
        go_simp
        with_reducible rfl
      rotate_left
      · simp only [Act.put, List.setIfInBounds_toArray, List.set_cons_zero, List.set_cons_succ, i64_w, i32_w]
        rfl
      refine pure_ (i := 5) (N := some 39) (v := ?_) (a' := ?_) #[true, true, true, true, true, true, false, false, false, false, false, false, false, false, false, false, false, false, false, false, false, false, false, false, false] rfl rfl (by kernel_rfl) (fun _ _ _ h => h) (Or.inl ⟨by rfl, ?_⟩) ?_ ?_
      rotate_left
      · intro w'
        go_simp
        with_reducible rfl
      rotate_left
      · simp only [Act.put, List.setIfInBounds_toArray, List.set_cons_zero, List.set_cons_succ, i64_w, i32_w]
        rfl
      refine pure_ (i := 6) (N := some 40) (v := ?_) (a' := ?_) #[true, true, true, true, true, true, true, false, false, false, false, false, false, false, false, false, false, false, false, false, false, false, false, false, false] rfl rfl (by kernel_rfl) (fun _ _ _ h => h) (Or.inl ⟨by rfl, ?_⟩) ?_ ?_
      rotate_left
      · intro w'
        go_simp
        with_reducible rfl
      rotate_left
      · simp only [Act.put, List.setIfInBounds_toArray, List.set_cons_zero, List.set_cons_succ, i64_w, i32_w]
        rfl
      refine pure_ (i := 7) (N := some 41) (v := ?_) (a' := ?_) #[true, true, true, true, true, true, true, true, false, false, false, false, false, false, false, false, false, false, false, false, false, false, false, false, false] rfl rfl (by kernel_rfl) (fun _ _ _ h => h) (Or.inl ⟨by rfl, ?_⟩) ?_ ?_
      rotate_left
      · intro w'
        go_simp
        with_reducible rfl
      rotate_left
      · simp only [Act.put, List.setIfInBounds_toArray, List.set_cons_zero, List.set_cons_succ, i64_w, i32_w]
        rfl
      refine pure_ (i := 8) (N := some 42) (v := ?_) (a' := ?_) #[true, true, true, true, true, true, true, true, true, false, false, false, false, false, false, false, false, false, false, false, false, false, false, false, false] rfl rfl (by kernel_rfl) (fun _ _ _ h => h) (Or.inl ⟨by rfl, ?_⟩) ?_ ?_
      rotate_left
      · intro w'
        go_simp
        with_reducible rfl
      rotate_left
      · simp only [Act.put, List.setIfInBounds_toArray, List.set_cons_zero, List.set_cons_succ, i64_w, i32_w]
        rfl
      refine pure_ (i := 9) (N := some 43) (v := ?_) (a' := ?_) #[true, true, true, true, true, true, true, true, true, true, false, false, false, false, false, false, false, false, false, false, false, false, false, false, false] rfl rfl (by kernel_rfl) (fun _ _ _ h => h) (Or.inl ⟨by rfl, ?_⟩) ?_ ?_
      rotate_left
      · intro w'
        go_simp
        with_reducible rfl
      rotate_left
      · simp only [Act.put, List.setIfInBounds_toArray, List.set_cons_zero, List.set_cons_succ, i64_w, i32_w]
        rfl
      refine pure_ (i := 10) (N := some 44) (v := ?_) (a' := ?_) #[true, true, true, true, true, true, true, true, true, true, true, false, false, false, false, false, false, false, false, false, false, false, false, false, false] rfl rfl (by kernel_rfl) (fun _ _ _ h => h) (Or.inl ⟨by rfl, ?_⟩) ?_ ?_
      rotate_left
      · intro w'
        go_simp
        with_reducible rfl
      rotate_left
      · simp only [Act.put, List.setIfInBounds_toArray, List.set_cons_zero, List.set_cons_succ, i64_w, i32_w]
        rfl
      refine one_ (i := 11) (N := some 45) #[true, true, true, true, true, true, true, true, true, true, true, true, false, false, false, false, false, false, false, false, false, false, false, false, false] rfl rfl (by kernel_rfl) (by decide) (fun K hK => ?_)
      refine goes_ Try.func15 (by kernel_rfl) rfl #[.pointer (some ⟨g2, 0, none⟩), .int .i64 kk] (by rfl) rfl rfl (by simp only [List.map_toArray, List.map_cons, List.map_nil]; rfl) ?_
      with_reducible refine (mint_Mint_Below.calls g2 (I s) kk x (I (stp s)) w _ (IsS71.drew J4.out) (below_drew C6.out) HX.out).mono ?_
      rintro e w6 ⟨rfl, I6, B6, KB⟩
      refine ⟨_, rfl, ?_⟩
      have H7 := Aside0.mk (KB.blk (blk_drew H6.out) NS2.out (by simp))
      have J5 := Aside0.mk I6
      have J6 := Aside0.mk (keepI (IsS71.drew J3.out) KB N12.out)
      have C7 := Aside0.mk B6
      clear I6 B6 KB
      refine hK.out _ _ ⟨(blk_cell H7.out 0).trans rfl, (blk_cell H7.out 1).trans rfl, (blk_cell H7.out 2).trans rfl, (blk_cell H7.out 3).trans rfl, (blk_cell H7.out 4).trans rfl⟩ (fun hHeld => ?_)
      clear hK K
      refine norm_ (a' := ?_) ?_ ?_
      rotate_left
      · show Act.put _ (some 45) _ = _
        simp only [Act.put, List.setIfInBounds_toArray, List.set_cons_zero, List.set_cons_succ, i64_w, i32_w]
        rfl
      refine pure_ (i := 12) (N := some 46) (v := ?_) (a' := ?_) #[true, true, true, true, true, true, true, true, true, true, true, true, true, false, false, false, false, false, false, false, false, false, false, false, false] rfl rfl (by kernel_rfl) (fun _ _ _ h => h) (Or.inl ⟨by rfl, ?_⟩) ?_ ?_
      rotate_left
      · intro w'
        go_simp
        with_reducible rfl
      rotate_left
      · simp only [Act.put, List.setIfInBounds_toArray, List.set_cons_zero, List.set_cons_succ, i64_w, i32_w]
        rfl
      refine pure_ (i := 13) (N := some 47) (v := ?_) (a' := ?_) #[true, true, true, true, true, true, true, true, true, true, true, true, true, true, false, false, false, false, false, false, false, false, false, false, false] rfl rfl (by kernel_rfl) (fun _ _ _ h => h) (Or.inl ⟨by rfl, ?_⟩) ?_ ?_
      rotate_left
      · intro w'
        go_simp
        with_reducible rfl
      rotate_left
      · simp only [Act.put, List.setIfInBounds_toArray, List.set_cons_zero, List.set_cons_succ, i64_w, i32_w]
        rfl
      refine pure_ (i := 14) (N := some 48) (v := ?_) (a' := ?_) #[true, true, true, true, true, true, true, true, true, true, true, true, true, true, true, false, false, false, false, false, false, false, false, false, false] rfl rfl (by kernel_rfl) (fun _ _ _ h => h) (Or.inl ⟨by rfl, ?_⟩) ?_ ?_
      rotate_left
      · intro w'
        go_simp
        with_reducible rfl
      rotate_left
      · simp only [Act.put, List.setIfInBounds_toArray, List.set_cons_zero, List.set_cons_succ, i64_w, i32_w]
        rfl
      refine pure_ (i := 15) (N := some 49) (v := ?_) (a' := ?_) #[true, true, true, true, true, true, true, true, true, true, true, true, true, true, true, true, false, false, false, false, false, false, false, false, false] rfl rfl (by kernel_rfl) (fun _ _ _ h => h) (Or.inl ⟨by rfl, ?_⟩) ?_ ?_
      rotate_left
      · intro w'
        go_simp
        with_reducible rfl
      rotate_left
      · simp only [Act.put, List.setIfInBounds_toArray, List.set_cons_zero, List.set_cons_succ, i64_w, i32_w]
        rfl
      refine pure_ (i := 17) (N := some 51) (v := ?_) (a' := ?_) #[true, true, true, true, true, true, true, true, true, true, true, true, true, true, true, true, false, true, false, false, false, false, false, false, false] rfl rfl (by kernel_rfl) (fun _ _ _ h => h) (Or.inl ⟨by rfl, ?_⟩) ?_ ?_
      rotate_left
      · intro w'
        go_simp
        with_reducible rfl
      rotate_left
      · simp only [Act.put, List.setIfInBounds_toArray, List.set_cons_zero, List.set_cons_succ, i64_w, i32_w]
        rfl
      refine pure_ (i := 19) (N := some 53) (v := ?_) (a' := ?_) #[true, true, true, true, true, true, true, true, true, true, true, true, true, true, true, true, false, true, false, true, false, false, false, false, false] rfl rfl (by kernel_rfl) (fun _ _ _ h => h) (Or.inl ⟨by rfl, ?_⟩) ?_ ?_
      rotate_left
      · intro w'
        go_simp
        with_reducible rfl
      rotate_left
      · simp only [Act.put, List.setIfInBounds_toArray, List.set_cons_zero, List.set_cons_succ, i64_w, i32_w]
        rfl
      refine pure_ (i := 21) (N := some 55) (v := ?_) (a' := ?_) #[true, true, true, true, true, true, true, true, true, true, true, true, true, true, true, true, false, true, false, true, false, true, false, false, false] rfl rfl (by kernel_rfl) (fun _ _ _ h => h) (Or.inl ⟨by rfl, ?_⟩) ?_ ?_
      rotate_left
      · intro w'
        go_simp
        with_reducible rfl
      rotate_left
      · simp only [Act.put, List.setIfInBounds_toArray, List.set_cons_zero, List.set_cons_succ, i64_w, i32_w]
        rfl
      refine take_ (i := 16) (N := some 50) (v := ?_) (a' := ?_) #[true, true, true, true, true, true, true, true, true, true, true, true, true, true, true, true, true, true, false, true, false, true, false, false, false] rfl rfl (by kernel_rfl) (fun _ _ _ h => h) (Or.inl ⟨by rfl, ?_⟩) hHeld ?_ ?_
      rotate_left
      · rintro w' ⟨s0, s1, s2, s3, s4⟩
        go_simp
        with_reducible rfl
      rotate_left
      · simp only [Act.put, List.setIfInBounds_toArray, List.set_cons_zero, List.set_cons_succ, i64_w, i32_w]
        rfl
      refine take_ (i := 20) (N := some 54) (v := ?_) (a' := ?_) #[true, true, true, true, true, true, true, true, true, true, true, true, true, true, true, true, true, true, false, true, true, true, false, false, false] rfl rfl (by kernel_rfl) (fun _ _ _ h => h) (Or.inl ⟨by rfl, ?_⟩) hHeld ?_ ?_
      rotate_left
      · rintro w' ⟨s0, s1, s2, s3, s4⟩
        go_simp
        with_reducible rfl
      rotate_left
      · simp only [Act.put, List.setIfInBounds_toArray, List.set_cons_zero, List.set_cons_succ, i64_w, i32_w]
        rfl
      refine one_ (i := 18) (N := some 52) #[true, true, true, true, true, true, true, true, true, true, true, true, true, true, true, true, true, true, true, true, true, true, false, false, false] rfl rfl (by kernel_rfl) (by decide) (fun K hK => ?_)
      refine goes_ Try.func16 (by kernel_rfl) rfl #[.pointer (some ⟨g1, 0, none⟩), Value.agg #[.int .i64 c0, .int .i64 c1, .int .i64 c2, .int .i64 c3, .int .i64 c4], .int .i64 kk] (by rfl) rfl rfl (by simp only [List.map_toArray, List.map_cons, List.map_nil]; rfl) ?_
      with_reducible refine (mint_Mint_Op.calls 1200 g1 (I (stp s)) c0 c1 c2 c3 c4 kk r1 r2 r3 r4 (I s2) w _ J6.out C7.out HO.out).mono ?_
      rintro e w7 ⟨rfl, I7, B7, KB⟩
      refine ⟨_, rfl, ?_⟩
      have H8 := Aside0.mk (KB.blk H7.out NS1.out (by simp))
      have J7 := Aside0.mk I7
      have J8 := Aside0.mk (keepI J5.out KB N12.out.symm)
      have C8 := Aside0.mk B7
      clear I7 B7 KB
      refine hK.out _ _ ⟨(blk_cell H8.out 0).trans rfl, (blk_cell H8.out 1).trans rfl, (blk_cell H8.out 2).trans rfl, (blk_cell H8.out 3).trans rfl, (blk_cell H8.out 4).trans rfl⟩ (fun hHeld => ?_)
      clear hK K
      refine norm_ (a' := ?_) ?_ ?_
      rotate_left
      · show Act.put _ (some 52) _ = _
        simp only [Act.put, List.setIfInBounds_toArray, List.set_cons_zero, List.set_cons_succ, i64_w, i32_w]
        rfl
      refine one_ (i := 22) (N := some 56) #[true, true, true, true, true, true, true, true, true, true, true, true, true, true, true, true, true, true, true, true, true, true, true, false, false] rfl rfl (by kernel_rfl) (by decide) (fun K hK => ?_)
      refine goes_ Try.func16 (by kernel_rfl) rfl #[.pointer (some ⟨g2, 0, none⟩), Value.agg #[.int .i64 c0, .int .i64 c1, .int .i64 c2, .int .i64 c3, .int .i64 c4], .int .i64 kk] (by rfl) rfl rfl (by simp only [List.map_toArray, List.map_cons, List.map_nil]; rfl) ?_
      with_reducible refine (mint_Mint_Op.calls 1200 g2 (I (stp s)) c0 c1 c2 c3 c4 kk r1 r2 r3 r4 (I s2) w _ J8.out C8.out HO.out).mono ?_
      rintro e w8 ⟨rfl, I8, B8, KB⟩
      refine ⟨_, rfl, ?_⟩
      have H9 := Aside0.mk (KB.blk H8.out NS2.out (by simp))
      have J9 := Aside0.mk I8
      have J10 := Aside0.mk (keepI J7.out KB N12.out)
      have C9 := Aside0.mk B8
      clear I8 B8 KB
      refine hK.out _ _ ⟨(blk_cell H9.out 0).trans rfl, (blk_cell H9.out 1).trans rfl, (blk_cell H9.out 2).trans rfl, (blk_cell H9.out 3).trans rfl, (blk_cell H9.out 4).trans rfl⟩ (fun hHeld => ?_)
      clear hK K
      refine norm_ (a' := ?_) ?_ ?_
      rotate_left
      · show Act.put _ (some 56) _ = _
        simp only [Act.put, List.setIfInBounds_toArray, List.set_cons_zero, List.set_cons_succ, i64_w, i32_w]
        rfl
      refine pure_ (i := 23) (N := some 57) (v := ?_) (a' := ?_) #[true, true, true, true, true, true, true, true, true, true, true, true, true, true, true, true, true, true, true, true, true, true, true, true, false] rfl rfl (by kernel_rfl) (fun _ _ _ h => h) (Or.inl ⟨by rfl, ?_⟩) ?_ ?_
      rotate_left
      · intro w'
        go_simp
        with_reducible rfl
      rotate_left
      · simp only [Act.put, List.setIfInBounds_toArray, List.set_cons_zero, List.set_cons_succ, i64_w, i32_w]
        rfl
      refine pure_ (i := 24) (N := some 58) (v := ?_) (a' := ?_) #[true, true, true, true, true, true, true, true, true, true, true, true, true, true, true, true, true, true, true, true, true, true, true, true, true] rfl rfl (by kernel_rfl) (fun _ _ _ h => h) (Or.inl ⟨by rfl, ?_⟩) ?_ ?_
      rotate_left
      · intro w'
        go_simp
        with_reducible rfl
      rotate_left
      · simp only [Act.put, List.setIfInBounds_toArray, List.set_cons_zero, List.set_cons_succ, i64_w, i32_w]
        rfl
      refine done_ (by kernel_rfl) ?_

      go_wp2_with fail
      go_roundg ko
      case rel => exact ⟨i + 1, s2, rfl, rfl, ⟨by have := HI.out; omega⟩, J10, J9, H9, C9⟩
      case measure => exact Nat.lt_succ_self _
    · have t1 : decide (i < 20) = false := decide_eq_false hi
      clear J1 J2 H5 HI hi
      by_cases hz : b = 0#64 ∨ d = 0#64
      · obtain ⟨q, q2, hq⟩ : ∃ q q2, mint_Mint_Next.f 11400714819323198485 = some (q, q2) := ⟨_, _, rfl⟩
        have HQ := Aside0.mk hq
        clear hq
        have hz1 : (I b == 0) = true ∨ ((I b == 0) = false ∧ (I d == 0) = true) := by
          by_cases h : b = 0#64
          · exact .inl (beq_iff_eq.mpr (I_zero.2 h))
          · exact .inr ⟨beq_eq_false_iff_ne.mpr (fun e => h (I_zero.1 e)), beq_iff_eq.mpr (I_zero.2 (hz.resolve_left h))⟩
        clear hz
        rcases hz1 with hz1 | ⟨hz1, hz2⟩
        all_goals
          go_wp2_with fail
          refine (mint_New.calls 0 11400714819323198485 w _ C5.out (by decide +kernel)).mono ?_
          rintro e w5 ⟨g3, rfl, I5, B5, _⟩
          have J5 := Aside0.mk I5
          have C6 := Aside0.mk B5
          clear I5 B5 C5
          go_wp2_with fail
          refine (mint_Mint_Next.calls g3 11400714819323198485 q q2 w _ J5.out C6.out HQ.out).mono ?_
          rintro e w6 ⟨rfl, I6, B6, _⟩
          have C7 := Aside0.mk B6
          clear I6 B6 C6 J5
          go_wp2_with fail
          refine (mint_New.calls 11400714819323198485 11400714819323198485 w _ C7.out (by decide +kernel)).mono ?_
          rintro e w7 ⟨g4, rfl, I7, B7, _⟩
          have J7 := Aside0.mk I7
          have C8 := Aside0.mk B7
          clear I7 B7 C7
          go_wp2_with fail
          refine (mint_Mint_Next.calls g4 11400714819323198485 q q2 w _ J7.out C8.out HQ.out).mono ?_
          rintro e w8 ⟨rfl, I8, B8, _⟩
          have C9 := Aside0.mk B8
          clear I8 B8 C8 J7
          go_wp2_with fail
          go_ret
          exact ⟨by simp, C9.out⟩
      · have hb0 : b ≠ 0#64 := fun h => hz (.inl h)
        have hd0 : d ≠ 0#64 := fun h => hz (.inr h)
        clear hz
        have z1 : (I b == 0) = false := beq_eq_false_iff_ne.mpr (fun e => hb0 (I_zero.1 e))
        have z2 : (I d == 0) = false := beq_eq_false_iff_ne.mpr (fun e => hd0 (I_zero.1 e))
        have V1 := Aside0.mk (show mint_New.f (I b) = some (I b) by rw [new_f, seed0, if_neg hb0])
        have V2 := Aside0.mk (show mint_New.f (I d) = some (I d) by rw [new_f, seed0, if_neg hd0])
        obtain ⟨x, y, u, v, hx, hy, hxy⟩ : ∃ x y u v, mint_Mint_Next.f (I b) = some (x, u) ∧ mint_Mint_Next.f (I d) = some (y, v) ∧ (x = y ↔ b = d) :=
          ⟨_, _, _, _, next_f b, next_f d, by unfold outv; rw [I_inj, odd_inj, stp_inj]⟩
        obtain ⟨z, u2, hz1, hz2⟩ : ∃ z u2, IntKind.u64.wrap (I b * 2685821657736338717) = z ∧ mint_Mint_Next.f (I (bck b)) = some (z, u2) :=
          ⟨_, _, e_odd b, by rw [next_f]; unfold outv; rw [stp_bck]⟩
        have hbb : bck b ≠ 0#64 := bck_ne hb0
        have V3 := Aside0.mk (show mint_New.f (I (bck b)) = some (I (bck b)) by rw [new_f, seed0, if_neg hbb])
        have V4 := Aside0.mk (back_f 10 b)
        have V5 := Aside0.mk (back_f 10 d)
        have V6 := Aside0.mk hx
        have V7 := Aside0.mk hy
        have V8 := Aside0.mk hz2
        have z3 : (I (bck b) == 0) = false := beq_eq_false_iff_ne.mpr (fun e => hbb (I_zero.1 e))
        have z4 : (I (bck b) != 0) = true := bne_iff_ne.mpr (fun e => hbb (I_zero.1 e))
        obtain ⟨t, e1, e2, e3⟩ : ∃ t, (x == y) = t ∧ (I b == I d) = t ∧ (I (bck b) == I (bck d)) = t := by
          by_cases h : b = d
          · exact ⟨true, beq_iff_eq.mpr (hxy.2 h), beq_iff_eq.mpr (by rw [h]), beq_iff_eq.mpr (by rw [h])⟩
          · exact ⟨false, beq_eq_false_iff_ne.mpr (fun e => h (hxy.1 e)), beq_eq_false_iff_ne.mpr (fun e => h (I_inj.1 e)), beq_eq_false_iff_ne.mpr (fun e => h (bck_inj.1 (I_inj.1 e)))⟩
        clear hx hy hz2 hxy hb0 hd0 hbb
        generalize I (bck b) = p at *
        generalize I (bck d) = p2 at *
        go_wp2_with fail
        refine (mint_New.calls (I b) (I b) w _ C5.out V1.out).mono ?_
        rintro e w5 ⟨g3, rfl, I5, B5, _⟩
        have J5 := Aside0.mk I5
        have C6 := Aside0.mk B5
        clear I5 B5 C5
        go_wp2_with fail
        refine (mint_Mint_Next.calls g3 (I b) x u w _ J5.out C6.out V6.out).mono ?_
        rintro e w6 ⟨rfl, I6, B6, _⟩
        have C7 := Aside0.mk B6
        clear I6 B6 C6 J5
        go_wp2_with fail
        refine (mint_New.calls (I d) (I d) w _ C7.out V2.out).mono ?_
        rintro e w7 ⟨g4, rfl, I7, B7, _⟩
        have J7 := Aside0.mk I7
        have C8 := Aside0.mk B7
        clear I7 B7 C7
        go_wp2_with fail
        refine (mint_Mint_Next.calls g4 (I d) y v w _ J7.out C8.out V7.out).mono ?_
        rintro e w8 ⟨rfl, I8, B8, _⟩
        have C9 := Aside0.mk B8
        clear I8 B8 C8 J7
        cases t
        all_goals
          go_wp2_with fail
          refine (mint_Back.calls 20 (I b) p w8 V4.out).mono ?_
          rintro e w9 ⟨rfl, ⟨n1, rfl⟩⟩
          go_wp2_with fail
          refine (mint_New.calls p p w _ (pw_below_drewN C9.out n1) V3.out).mono ?_
          rintro e w10 ⟨g5, rfl, I10, B10, _⟩
          have J10 := Aside0.mk I10
          have C10 := Aside0.mk B10
          clear I10 B10 C9
          go_wp2_with fail
          refine (mint_Mint_Next.calls g5 p z u2 w _ J10.out C10.out V8.out).mono ?_
          rintro e w11 ⟨rfl, I11, B11, _⟩
          have C11 := Aside0.mk B11
          clear I11 B11 C10 J10
          go_wp2_with fail
          refine (mint_Back.calls 20 (I b) p w11 V4.out).mono ?_
          rintro e w12 ⟨rfl, ⟨n2, rfl⟩⟩
          go_wp2_with fail
          refine (mint_Back.calls 20 (I d) p2 _ V5.out).mono ?_
          rintro e w13 ⟨rfl, ⟨n3, rfl⟩⟩
          go_wp2_with fail
          refine (mint_Back.calls 20 (I b) p _ V4.out).mono ?_
          rintro e w14 ⟨rfl, ⟨n4, rfl⟩⟩
          go_wp2_with fail
          go_ret
          exact ⟨by simp, pw_below_drewN C11.out _⟩
def revenantlaw34_MintSame.f (a0 a1 a2 c0 c1 c2 c3 c4 : Int) : Option Bool := if (0 ≤ a0 ∧ a0 < 18446744073709551616) ∧ (0 ≤ a1 ∧ a1 < 18446744073709551616) then some true else none
theorem revenantlaw34_MintSame.calls (a0 a1 a2 c0 c1 c2 c3 c4 : Int) (r : Bool) (w : World) (h : revenantlaw34_MintSame.f a0 a1 a2 c0 c1 c2 c3 c4 = some r) :
    Calls Try.prog 4 #[.int .u64 a0, .int .u64 a1, .int .i64 a2, .agg #[.int .i64 c0, .int .i64 c1, .int .i64 c2, .int .i64 c3, .int .i64 c4]] w fun e w' => e = .returned (.bool r) ∧ Below w.heap.size w w' := by
  unfold revenantlaw34_MintSame.f at h
  by_cases hc : (0 ≤ a0 ∧ a0 < 18446744073709551616) ∧ (0 ≤ a1 ∧ a1 < 18446744073709551616)
  · rw [if_pos hc] at h
    obtain rfl := Option.some.inj h
    have := sameT (B a0) (B a1) a2 c0 c1 c2 c3 c4 w
    rw [I_B_of hc.1.1 hc.1.2, I_B_of hc.2.1 hc.2.2] at this
    exact this
  · rw [if_neg hc] at h
    cases h
theorem RMintSame (a0 a1 a2 c0 c1 c2 c3 c4 : Int) (g0 : (Lit.int .u64 a0).wf = true) (g1 : (Lit.int .u64 a1).wf = true) (_ : (Lit.int .i64 a2).wf = true)
    (_ : (Lit.int .i64 c0).wf = true ∧ (Lit.int .i64 c1).wf = true ∧ (Lit.int .i64 c2).wf = true ∧ (Lit.int .i64 c3).wf = true ∧ (Lit.int .i64 c4).wf = true) : revenantlaw34_MintSame.f a0 a1 a2 c0 c1 c2 c3 c4 = some true :=
  if_pos ⟨wf_u64.1 g0, wf_u64.1 g1⟩
end Go.Proofs.Ytcphmelmieedfaa.PMintSame

