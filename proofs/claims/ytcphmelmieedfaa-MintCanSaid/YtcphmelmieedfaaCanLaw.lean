/-
MintCan answers true: all scripts that are drawn can be.
-/
import Derived.Test.YtcphmelmieedfaaCanPlain
import Derived.Test.YtcphmelmieedfaaCanAwake
import Derived.Test.YtcphmelmieedfaaCanSame
import Derived.Test.YtcphmelmieedfaaCanCheck
namespace Go.Proofs.Ytcphmelmieedfaa.PMintCan
open Go Go.RowKit Go.Proofs.YtcphmelmieedfaaW.PrintWords Go.Proofs.YtcphmelmieedfaaW.PrintLast Go.Proofs.YtcphmelmieedfaaW.PrintMore Go.Proofs.Ytcphmelmieedfaa.U
attribute [local go_sem] max2_int min2_int max_two min_two max_three min_three max_four min_four
set_option linter.unusedVariables false
set_option linter.unusedSimpArgs false
theorem put7 {w W : World} {R t : Nat} {x0 x1 x2 x3 x4 x5 x6 : Value} (a b c d e f g : Value) (HR : W.heap[R]? = some (.cells #[x0, x1, x2, x3, x4, x5, x6] t (0, 0))) (HB : Below w.heap.size w W) (hR : w.heap.size ≤ R) :
    (((((((W.setCell ⟨R, 0, none⟩ a).setCell ⟨R, 1, none⟩ b).setCell ⟨R, 2, none⟩ c).setCell ⟨R, 3, none⟩ d).setCell ⟨R, 4, none⟩ e).setCell ⟨R, 5, none⟩ f).setCell ⟨R, 6, none⟩ g).heap[R]? = some (.cells #[a, b, c, d, e, f, g] t (0, 0)) ∧
    Below w.heap.size w (((((((W.setCell ⟨R, 0, none⟩ a).setCell ⟨R, 1, none⟩ b).setCell ⟨R, 2, none⟩ c).setCell ⟨R, 3, none⟩ d).setCell ⟨R, 4, none⟩ e).setCell ⟨R, 5, none⟩ f).setCell ⟨R, 6, none⟩ g) :=
  ⟨blk_put (cs := #[a, b, c, d, e, f, x6]) (blk_put (cs := #[a, b, c, d, e, x5, x6]) (blk_put (cs := #[a, b, c, d, x4, x5, x6]) (blk_put (cs := #[a, b, c, x3, x4, x5, x6]) (blk_put (cs := #[a, b, x2, x3, x4, x5, x6]) (blk_put (cs := #[a, x1, x2, x3, x4, x5, x6]) (blk_put (cs := #[x0, x1, x2, x3, x4, x5, x6]) HR 0 _ rfl) 1 _ rfl) 2 _ rfl) 3 _ rfl) 4 _ rfl) 5 _ rfl) 6 _ rfl,
   below_set (below_set (below_set (below_set (below_set (below_set (below_set HB hR) hR) hR) hR) hR) hR) hR⟩
theorem put7_far {W : World} {R : Nat} (a b c d e f g : Value) : ∀ k, k ≠ R → (((((((W.setCell ⟨R, 0, none⟩ a).setCell ⟨R, 1, none⟩ b).setCell ⟨R, 2, none⟩ c).setCell ⟨R, 3, none⟩ d).setCell ⟨R, 4, none⟩ e).setCell ⟨R, 5, none⟩ f).setCell ⟨R, 6, none⟩ g).heap[k]? = W.heap[k]? := by
  intro k k1
  rw [Below.heap_setCell _ _ _ _ k1, Below.heap_setCell _ _ _ _ k1, Below.heap_setCell _ _ _ _ k1, Below.heap_setCell _ _ _ _ k1, Below.heap_setCell _ _ _ _ k1, Below.heap_setCell _ _ _ _ k1, Below.heap_setCell _ _ _ _ k1]
theorem ops_types : ∀ q, q ∈ 55 :: (Kd.slice 37 k37).E → q ≠ 3 ∧ q ≠ 49 := by
  intro q hq
  have : q = 55 ∨ q = 37 := by simpa [Kd.slice, k37, Kd.iso, Kd.pair, Kd.int, Kd.scalar] using hq
  omega
theorem int_types : ∀ q, q ∈ 3 :: (Kd.int .i64).E → q ≠ 49 := by
  intro q hq
  have : q = 3 := by simpa [Kd.int, Kd.scalar] using hq
  omega
set_option maxHeartbeats 8000000 in
set_option maxRecDepth 100000 in
theorem canT (b : BitVec 64) (c0 c1 c2 c3 c4 n0 n1 n2 n3 : Int) (w : World) :
    Calls Try.prog 6 #[.int .u64 (I b), .agg #[.int .i64 c0, .int .i64 c1, .int .i64 c2, .int .i64 c3, .int .i64 c4], .agg #[.int .i64 n0, .int .i64 n1, .int .i64 n2, .int .i64 n3]] w fun e w' => e = .returned (.bool true) ∧ Below w.heap.size w w' := by
  have hu31 := Try.underlying31
  have hu37 := Try.underlying37
  have hu49 := Try.underlying49
  have hu46 := Try.underlying46
  obtain ⟨t, o, k, p, et, eo, ek, ep, t0, t1, o1, k0, k1, p0, p1⟩ := can_nums n0 n1 n2 n3
  obtain ⟨r1, r2, r3, r4, r5, r6, r7, r8, s1, hS, hcase⟩ := can_any (seed0 b) c0 c1 c2 c3 c4 k p t o k0 (by omega) o1 t0 t1 p0 (by omega)
  have HS := Aside0.mk hS
  have HCASE := Aside0.mk hcase
  have ET := Aside0.mk et
  have EO := Aside0.mk eo
  have EK := Aside0.mk ek
  have EP := Aside0.mk ep
  have T0 := Aside0.mk t0
  have T1 := Aside0.mk t1
  have O1 := Aside0.mk o1
  have K0 := Aside0.mk k0
  have K1 := Aside0.mk k1
  have P0 := Aside0.mk p0
  have P1 := Aside0.mk p1
  clear hS hcase et eo ek ep t0 t1 o1 k0 k1 p0 p1
  go_enter Try.func6, Try.ntmps6
  go_wp2_with fail
  refine (awakeT _).mono ?_
  rintro e w1 ⟨rfl, B1⟩
  have C1 := Aside0.mk (below_step (below_alloc (below_alloc (Below.refl w.heap.size w) _) _) B1)
  have H1 := Aside0.mk (blk_below (blk_alloc (blk_new w _) _) B1)
  have HN := Aside0.mk (show w1.heap[w.heap.size + 1]? = some (.cells #[.int .i64 n0, .int .i64 n1, .int .i64 n2, .int .i64 n3] 46 (0, 0)) by have := blk_below (blk_new (w.alloc (.cells #[.int .i64 c0, .int .i64 c1, .int .i64 c2, .int .i64 c3, .int .i64 c4] 31)) (.cells #[.int .i64 n0, .int .i64 n1, .int .i64 n2, .int .i64 n3] 46)) B1; simpa using this)
  have x0 : w1.cell? ⟨w.heap.size + 1, 0, none⟩ = some (.int .i64 n0) := (blk_cell HN.out 0).trans rfl
  have x1 : w1.cell? ⟨w.heap.size + 1, 1, none⟩ = some (.int .i64 n1) := (blk_cell HN.out 1).trans rfl
  have x2 : w1.cell? ⟨w.heap.size + 1, 2, none⟩ = some (.int .i64 n2) := (blk_cell HN.out 2).trans rfl
  have x3 : w1.cell? ⟨w.heap.size + 1, 3, none⟩ = some (.int .i64 n3) := (blk_cell HN.out 3).trans rfl
  clear B1 HN
  go_wp2_with fail
  rw [ET.out, EO.out, EK.out, EP.out]
  have CC := Aside0.mk (blk_drew H1.out)
  have BB := Aside0.mk (below_drew (Below.refl w1.heap.size w1))
  refine start_ (n := 14) (S := fun w' => w'.cell? ⟨w.heap.size, 0, none⟩ = some (.int .i64 c0) ∧ w'.cell? ⟨w.heap.size, 1, none⟩ = some (.int .i64 c1) ∧ w'.cell? ⟨w.heap.size, 2, none⟩ = some (.int .i64 c2) ∧ w'.cell? ⟨w.heap.size, 3, none⟩ = some (.int .i64 c3) ∧ w'.cell? ⟨w.heap.size, 4, none⟩ = some (.int .i64 c4)) (ds := []) #[false, false, false, false, false, false, false, false, false, false, false, false, false, false] (by kernel_rfl) rfl rfl ⟨(blk_cell CC.out 0).trans rfl, (blk_cell CC.out 1).trans rfl, (blk_cell CC.out 2).trans rfl, (blk_cell CC.out 3).trans rfl, (blk_cell CC.out 4).trans rfl⟩ (fun hHeld => ?_)
  refine pure_ (i := 0) (N := some 43) (v := ?_) (a' := ?_) #[true, false, false, false, false, false, false, false, false, false, false, false, false, false] rfl rfl (by kernel_rfl) (fun _ _ _ h => h) (Or.inl ⟨by rfl, ?_⟩) ?_ ?_
  rotate_left
  · intro w'
    go_simp
    with_reducible rfl
  rotate_left
  · simp only [Act.put, List.setIfInBounds_toArray, List.set_cons_zero, List.set_cons_succ, i64_w, i32_w]
    rfl
  refine pure_ (i := 3) (N := some 46) (v := ?_) (a' := ?_) #[true, false, false, true, false, false, false, false, false, false, false, false, false, false] rfl rfl (by kernel_rfl) (fun _ _ _ h => h) (Or.inl ⟨by rfl, ?_⟩) ?_ ?_
  rotate_left
  · intro w'
    go_simp
    with_reducible rfl
  rotate_left
  · simp only [Act.put, List.setIfInBounds_toArray, List.set_cons_zero, List.set_cons_succ, i64_w, i32_w]
    rfl
  refine pure_ (i := 4) (N := some 47) (v := ?_) (a' := ?_) #[true, false, false, true, true, false, false, false, false, false, false, false, false, false] rfl rfl (by kernel_rfl) (fun _ _ _ h => h) (Or.inl ⟨by rfl, ?_⟩) ?_ ?_
  rotate_left
  · intro w'
    go_simp
    with_reducible rfl
  rotate_left
  · simp only [Act.put, List.setIfInBounds_toArray, List.set_cons_zero, List.set_cons_succ, i64_w, i32_w]
    rfl
  refine pure_ (i := 5) (N := some 48) (v := ?_) (a' := ?_) #[true, false, false, true, true, true, false, false, false, false, false, false, false, false] rfl rfl (by kernel_rfl) (fun _ _ _ h => h) (Or.inl ⟨by rfl, ?_⟩) ?_ ?_
  rotate_left
  · intro w'
    go_simp
    with_reducible rfl
  rotate_left
  · simp only [Act.put, List.setIfInBounds_toArray, List.set_cons_zero, List.set_cons_succ, i64_w, i32_w]
    rfl
  refine pure_ (i := 6) (N := some 49) (v := ?_) (a' := ?_) #[true, false, false, true, true, true, true, false, false, false, false, false, false, false] rfl rfl (by kernel_rfl) (fun _ _ _ h => h) (Or.inl ⟨by rfl, ?_⟩) ?_ ?_
  rotate_left
  · intro w'
    go_simp
    with_reducible rfl
  rotate_left
  · simp only [Act.put, List.setIfInBounds_toArray, List.set_cons_zero, List.set_cons_succ, i64_w, i32_w]
    rfl
  refine take_ (i := 2) (N := some 45) (v := ?_) (a' := ?_) #[true, false, true, true, true, true, true, false, false, false, false, false, false, false] rfl rfl (by kernel_rfl) (fun _ _ _ h => h) (Or.inl ⟨by rfl, ?_⟩) hHeld ?_ ?_
  rotate_left
  · rintro w' ⟨s0, s1, s2, s3, s4⟩
    go_simp
    with_reducible rfl
  rotate_left
  · simp only [Act.put, List.setIfInBounds_toArray, List.set_cons_zero, List.set_cons_succ, i64_w, i32_w]
    rfl
  refine join_ (σ := (Option Addr × Nat) × (Option Addr × Nat) × Nat × Nat) 2 #[true, true, true, true, true, true, true, true, true, true, true, true, false, false] (fun s_ => [(44, .pointer (some ⟨s_.2.2.1, 0, none⟩)), (50, .tuple #[.agg #[.int .i64 r1, .int .i64 r2, .int .i64 r3, .int .i64 r4, .int .i64 r5, .slice s_.1.1 r6.length s_.1.2, .slice s_.2.1.1 r7.length s_.2.1.2], .int .i64 r8]), (42, .tuple #[.agg #[.int .i64 r1, .int .i64 r2, .int .i64 r3, .int .i64 r4, .int .i64 r5, .slice s_.1.1 r6.length s_.1.2, .slice s_.2.1.1 r7.length s_.2.1.2], .int .i64 r8]), (51, .agg #[.int .i64 r1, .int .i64 r2, .int .i64 r3, .int .i64 r4, .int .i64 r5, .slice s_.1.1 r6.length s_.1.2, .slice s_.2.1.1 r7.length s_.2.1.2]), (52, .int .i64 r8), (11, .pointer (some ⟨s_.2.2.2, 0, none⟩))]) (fun s_ w' => (w'.cell? ⟨w.heap.size, 0, none⟩ = some (.int .i64 c0) ∧ w'.cell? ⟨w.heap.size, 1, none⟩ = some (.int .i64 c1) ∧ w'.cell? ⟨w.heap.size, 2, none⟩ = some (.int .i64 c2) ∧ w'.cell? ⟨w.heap.size, 3, none⟩ = some (.int .i64 c3) ∧ w'.cell? ⟨w.heap.size, 4, none⟩ = some (.int .i64 c4)) ∧ w'.heap[w.heap.size]? = some (.cells #[.int .i64 c0, .int .i64 c1, .int .i64 c2, .int .i64 c3, .int .i64 c4] 31 (0, 0)) ∧ w'.heap[s_.2.2.2]? = some (.cells #[.int .i64 0, .int .i64 0, .int .i64 0, .int .i64 0, .int .i64 0, .slice none 0 0, .slice none 0 0] 49 (0, 0)) ∧ w1.heap.size ≤ s_.2.2.2 ∧ Kd.S (Kd.slice 37 k37) 55 w' w1.heap.size (fun _ => True) (.slice s_.1.1 r6.length s_.1.2) r6 ∧ r6.length ≤ s_.1.2 ∧ Kd.R (Kd.int .i64) 3 w' w1.heap.size (fun _ => True) (.slice s_.2.1.1 r7.length s_.2.1.2) r7 ∧ r7.length ≤ s_.2.1.2 ∧ Below w1.heap.size w1 w') ?_ ?_
  rotate_left
  · intro hCont
    refine two_ (i := 1) (j := 11) (Ni := some 44) (Nj := some 11) #[true, true, true, true, true, true, true, false, false, false, false, false, false, false] #[true, false, true, true, true, true, true, false, false, false, false, true, false, false] rfl rfl rfl rfl (by kernel_rfl) (by decide) (by decide) (fun K hK => ?_) (fun K hK => ?_)
    · skip
      refine goes_ Try.func11 (by kernel_rfl) rfl #[.int .u64 (I b)] (by rfl) rfl rfl (by simp only [List.map_toArray, List.map_cons, List.map_nil]; rfl) ?_
      with_reducible refine (mint_New.calls (I b) (I (seed0 b)) _ _ (Below.refl _ _) (new_f b)).mono ?_
      rintro e wN ⟨gM, rfl, IM, _, BM⟩
      refine ⟨_, rfl, ?_⟩
      have CCn := Aside0.mk (blk_below CC.out BM)
      have BBn := Aside0.mk (below_step BB.out BM)
      have JM := Aside0.mk (rebase IM BB.out.size)
      have NC := Aside0.mk (show w.heap.size ≠ gM by have := blk_lt CC.out; have := IM.ge; omega)
      clear CC BB IM BM
      have CC := CCn
      have BB := BBn
      clear CCn BBn
      refine hK.out _ _ ⟨(blk_cell CC.out 0).trans rfl, (blk_cell CC.out 1).trans rfl, (blk_cell CC.out 2).trans rfl, (blk_cell CC.out 3).trans rfl, (blk_cell CC.out 4).trans rfl⟩ (fun hHeld => ?_)
      clear hK K
      refine norm_ (a' := ?_) ?_ ?_
      rotate_left
      · show Act.put _ (some 44) _ = _
        simp only [Act.put, List.setIfInBounds_toArray, List.set_cons_zero, List.set_cons_succ, i64_w, i32_w]
        rfl
      refine two_ (i := 7) (j := 11) (Ni := some 50) (Nj := some 11) #[true, true, true, true, true, true, true, true, false, false, false, false, false, false] #[true, true, true, true, true, true, true, false, false, false, false, true, false, false] rfl rfl rfl rfl (by kernel_rfl) (by decide) (by decide) (fun K hK => ?_) (fun K hK => ?_)
      · skip
        refine goes_ Try.func20 (by kernel_rfl) rfl #[.pointer (some ⟨gM, 0, none⟩), Value.agg #[.int .i64 c0, .int .i64 c1, .int .i64 c2, .int .i64 c3, .int .i64 c4], .int .i64 t, .int .i64 o, .int .i64 k, .int .i64 p] (by rfl) rfl rfl (by simp only [List.map_toArray, List.map_cons, List.map_nil]; rfl) ?_
        with_reducible refine (mint_Mint_Script.calls 8000 gM (I (seed0 b)) c0 c1 c2 c3 c4 t o k p r1 r2 r3 r4 r5 r6 r7 r8 (I s1) w1 _ JM.out BB.out HS.out).mono ?_
        rintro e wS ⟨v5, v6, rfl, R5, R6, _, BS, KB⟩
        refine ⟨_, rfl, ?_⟩
        obtain ⟨A5, c5, rfl, hc5, hC5⟩ := Kd.S_reads R5
        obtain ⟨A6, c6, rfl, hc6, hC6⟩ := Kd.R_reads R6
        have X5 := Aside0.mk (Kd.S_lower R5 (show w1.heap.size ≤ _ from BB.out.size))
        have X6 := Aside0.mk (Kd.R_lower R6 (show w1.heap.size ≤ _ from BB.out.size))
        have Y5 := Aside0.mk hc5
        have Y6 := Aside0.mk hc6
        have CCn := Aside0.mk (KB.blk CC.out NC.out (by simp))
        have BBn := Aside0.mk BS
        clear CC BB R5 R6 hC5 hC6 hc5 hc6 BS KB JM
        have CC := CCn
        have BB := BBn
        clear CCn BBn
        refine hK.out _ _ ⟨(blk_cell CC.out 0).trans rfl, (blk_cell CC.out 1).trans rfl, (blk_cell CC.out 2).trans rfl, (blk_cell CC.out 3).trans rfl, (blk_cell CC.out 4).trans rfl⟩ (fun hHeld => ?_)
        clear hK K
        refine norm_ (a' := ?_) ?_ ?_
        rotate_left
        · show Act.put _ (some 50) _ = _
          simp only [Act.put, List.setIfInBounds_toArray, List.set_cons_zero, List.set_cons_succ, i64_w, i32_w]
          rfl
        refine pure_ (i := 8) (N := some 42) (v := ?_) (a' := ?_) #[true, true, true, true, true, true, true, true, true, false, false, false, false, false] rfl rfl (by kernel_rfl) (fun _ _ _ h => h) (Or.inl ⟨by rfl, ?_⟩) ?_ ?_
        rotate_left
        · intro w'
          go_simp
          with_reducible rfl
        rotate_left
        · simp only [Act.put, List.setIfInBounds_toArray, List.set_cons_zero, List.set_cons_succ, i64_w, i32_w]
          rfl
        refine pure_ (i := 9) (N := some 51) (v := ?_) (a' := ?_) #[true, true, true, true, true, true, true, true, true, true, false, false, false, false] rfl rfl (by kernel_rfl) (fun _ _ _ h => h) (Or.inl ⟨by rfl, ?_⟩) ?_ ?_
        rotate_left
        · intro w'
          go_simp
          with_reducible rfl
        rotate_left
        · simp only [Act.put, List.setIfInBounds_toArray, List.set_cons_zero, List.set_cons_succ, i64_w, i32_w]
          rfl
        refine pure_ (i := 10) (N := some 52) (v := ?_) (a' := ?_) #[true, true, true, true, true, true, true, true, true, true, true, false, false, false] rfl rfl (by kernel_rfl) (fun _ _ _ h => h) (Or.inl ⟨by rfl, ?_⟩) ?_ ?_
        rotate_left
        · intro w'
          go_simp
          with_reducible rfl
        rotate_left
        · simp only [Act.put, List.setIfInBounds_toArray, List.set_cons_zero, List.set_cons_succ, i64_w, i32_w]
          rfl
        refine one_ (i := 11) (N := some 11) #[true, true, true, true, true, true, true, true, true, true, true, true, false, false] rfl rfl (by kernel_rfl) (by decide) (fun K hK => ?_)
        refine box_step ?hg (N := 11) ?hd (cs := #[.int .i64 0, .int .i64 0, .int .i64 0, .int .i64 0, .int .i64 0, .slice none 0 0, .slice none 0 0]) (t := 49) ?hr ?_; (case hd => rfl); (case hg => rfl); (case hr => first | (go_simp; done) | (go_simp; rfl))
        intro gS hg wA hbox hb
        have CCn := Aside0.mk (blk_below CC.out hb)
        have BBn := Aside0.mk (below_step BB.out hb)
        have GW := Aside0.mk (show w1.heap.size ≤ gS by rw [hg]; exact BB.out.size)
        have GS := Aside0.mk hbox
        have X5n := Aside0.mk (Kd.S_below X5.out hb)
        have X6n := Aside0.mk (Kd.R_below X6.out hb)
        clear X5 X6
        have X5 := X5n
        have X6 := X6n
        clear X5n X6n
        clear CC BB hg hbox hb
        have CC := CCn
        have BB := BBn
        clear CCn BBn
        refine hK.out _ _ ⟨(blk_cell CC.out 0).trans rfl, (blk_cell CC.out 1).trans rfl, (blk_cell CC.out 2).trans rfl, (blk_cell CC.out 3).trans rfl, (blk_cell CC.out 4).trans rfl⟩ (fun hHeld => ?_)
        clear hK K
        refine norm_ (a' := ?_) ?_ ?_
        rotate_left
        · show Act.put _ (some 11) _ = _
          simp only [Act.put, List.setIfInBounds_toArray, List.set_cons_zero, List.set_cons_succ, i64_w, i32_w]
          rfl
        exact norm_ (by simp only [putAll, Act.put, List.setIfInBounds_toArray, List.set_cons_zero, List.set_cons_succ]) (hCont ((A5, c5), (A6, c6), gM, gS) _ ⟨hHeld, CC.out, GS.out, GW.out, X5.out, Y5.out, X6.out, Y6.out, BB.out⟩)
      · skip
        refine box_step ?hg (N := 11) ?hd (cs := #[.int .i64 0, .int .i64 0, .int .i64 0, .int .i64 0, .int .i64 0, .slice none 0 0, .slice none 0 0]) (t := 49) ?hr ?_; (case hd => rfl); (case hg => rfl); (case hr => first | (go_simp; done) | (go_simp; rfl))
        intro gS hg wA hbox hb
        have CCn := Aside0.mk (blk_below CC.out hb)
        have BBn := Aside0.mk (below_step BB.out hb)
        have GW := Aside0.mk (show w1.heap.size ≤ gS by rw [hg]; exact BB.out.size)
        have GS := Aside0.mk hbox
        have NG := Aside0.mk (show gS ≠ gM by rw [hg]; exact (Nat.ne_of_lt JM.out.lt).symm)
        have JMn := Aside0.mk (JM.out.below hb)
        clear JM
        have JM := JMn
        clear JMn
        clear CC BB hg hbox hb
        have CC := CCn
        have BB := BBn
        clear CCn BBn
        refine hK.out _ _ ⟨(blk_cell CC.out 0).trans rfl, (blk_cell CC.out 1).trans rfl, (blk_cell CC.out 2).trans rfl, (blk_cell CC.out 3).trans rfl, (blk_cell CC.out 4).trans rfl⟩ (fun hHeld => ?_)
        clear hK K
        refine norm_ (a' := ?_) ?_ ?_
        rotate_left
        · show Act.put _ (some 11) _ = _
          simp only [Act.put, List.setIfInBounds_toArray, List.set_cons_zero, List.set_cons_succ, i64_w, i32_w]
          rfl
        refine one_ (i := 7) (N := some 50) #[true, true, true, true, true, true, true, true, false, false, false, true, false, false] rfl rfl (by kernel_rfl) (by decide) (fun K hK => ?_)
        refine goes_ Try.func20 (by kernel_rfl) rfl #[.pointer (some ⟨gM, 0, none⟩), Value.agg #[.int .i64 c0, .int .i64 c1, .int .i64 c2, .int .i64 c3, .int .i64 c4], .int .i64 t, .int .i64 o, .int .i64 k, .int .i64 p] (by rfl) rfl rfl (by simp only [List.map_toArray, List.map_cons, List.map_nil]; rfl) ?_
        with_reducible refine (mint_Mint_Script.calls 8000 gM (I (seed0 b)) c0 c1 c2 c3 c4 t o k p r1 r2 r3 r4 r5 r6 r7 r8 (I s1) w1 _ JM.out BB.out HS.out).mono ?_
        rintro e wS ⟨v5, v6, rfl, R5, R6, _, BS, KB⟩
        refine ⟨_, rfl, ?_⟩
        obtain ⟨A5, c5, rfl, hc5, hC5⟩ := Kd.S_reads R5
        obtain ⟨A6, c6, rfl, hc6, hC6⟩ := Kd.R_reads R6
        have X5 := Aside0.mk (Kd.S_lower R5 (show w1.heap.size ≤ _ from BB.out.size))
        have X6 := Aside0.mk (Kd.R_lower R6 (show w1.heap.size ≤ _ from BB.out.size))
        have Y5 := Aside0.mk hc5
        have Y6 := Aside0.mk hc6
        have CCn := Aside0.mk (KB.blk CC.out NC.out (by simp))
        have BBn := Aside0.mk BS
        have GSn := Aside0.mk (KB.blk GS.out NG.out (by simp))
        clear GS
        have GS := GSn
        clear GSn
        clear CC BB R5 R6 hC5 hC6 hc5 hc6 BS KB JM
        have CC := CCn
        have BB := BBn
        clear CCn BBn
        refine hK.out _ _ ⟨(blk_cell CC.out 0).trans rfl, (blk_cell CC.out 1).trans rfl, (blk_cell CC.out 2).trans rfl, (blk_cell CC.out 3).trans rfl, (blk_cell CC.out 4).trans rfl⟩ (fun hHeld => ?_)
        clear hK K
        refine norm_ (a' := ?_) ?_ ?_
        rotate_left
        · show Act.put _ (some 50) _ = _
          simp only [Act.put, List.setIfInBounds_toArray, List.set_cons_zero, List.set_cons_succ, i64_w, i32_w]
          rfl
        refine pure_ (i := 8) (N := some 42) (v := ?_) (a' := ?_) #[true, true, true, true, true, true, true, true, true, false, false, true, false, false] rfl rfl (by kernel_rfl) (fun _ _ _ h => h) (Or.inl ⟨by rfl, ?_⟩) ?_ ?_
        rotate_left
        · intro w'
          go_simp
          with_reducible rfl
        rotate_left
        · simp only [Act.put, List.setIfInBounds_toArray, List.set_cons_zero, List.set_cons_succ, i64_w, i32_w]
          rfl
        refine pure_ (i := 9) (N := some 51) (v := ?_) (a' := ?_) #[true, true, true, true, true, true, true, true, true, true, false, true, false, false] rfl rfl (by kernel_rfl) (fun _ _ _ h => h) (Or.inl ⟨by rfl, ?_⟩) ?_ ?_
        rotate_left
        · intro w'
          go_simp
          with_reducible rfl
        rotate_left
        · simp only [Act.put, List.setIfInBounds_toArray, List.set_cons_zero, List.set_cons_succ, i64_w, i32_w]
          rfl
        refine pure_ (i := 10) (N := some 52) (v := ?_) (a' := ?_) #[true, true, true, true, true, true, true, true, true, true, true, true, false, false] rfl rfl (by kernel_rfl) (fun _ _ _ h => h) (Or.inl ⟨by rfl, ?_⟩) ?_ ?_
        rotate_left
        · intro w'
          go_simp
          with_reducible rfl
        rotate_left
        · simp only [Act.put, List.setIfInBounds_toArray, List.set_cons_zero, List.set_cons_succ, i64_w, i32_w]
          rfl
        exact norm_ (by simp only [putAll, Act.put, List.setIfInBounds_toArray, List.set_cons_zero, List.set_cons_succ]) (hCont ((A5, c5), (A6, c6), gM, gS) _ ⟨hHeld, CC.out, GS.out, GW.out, X5.out, Y5.out, X6.out, Y6.out, BB.out⟩)
    · skip
      refine box_step ?hg (N := 11) ?hd (cs := #[.int .i64 0, .int .i64 0, .int .i64 0, .int .i64 0, .int .i64 0, .slice none 0 0, .slice none 0 0]) (t := 49) ?hr ?_; (case hd => rfl); (case hg => rfl); (case hr => first | (go_simp; done) | (go_simp; rfl))
      intro gS hg wA hbox hb
      have CCn := Aside0.mk (blk_below CC.out hb)
      have BBn := Aside0.mk (below_step BB.out hb)
      have GW := Aside0.mk (show w1.heap.size ≤ gS by rw [hg]; exact BB.out.size)
      have GS := Aside0.mk hbox
      clear CC BB hg hbox hb
      have CC := CCn
      have BB := BBn
      clear CCn BBn
      refine hK.out _ _ ⟨(blk_cell CC.out 0).trans rfl, (blk_cell CC.out 1).trans rfl, (blk_cell CC.out 2).trans rfl, (blk_cell CC.out 3).trans rfl, (blk_cell CC.out 4).trans rfl⟩ (fun hHeld => ?_)
      clear hK K
      refine norm_ (a' := ?_) ?_ ?_
      rotate_left
      · show Act.put _ (some 11) _ = _
        simp only [Act.put, List.setIfInBounds_toArray, List.set_cons_zero, List.set_cons_succ, i64_w, i32_w]
        rfl
      refine one_ (i := 1) (N := some 44) #[true, true, true, true, true, true, true, false, false, false, false, true, false, false] rfl rfl (by kernel_rfl) (by decide) (fun K hK => ?_)
      refine goes_ Try.func11 (by kernel_rfl) rfl #[.int .u64 (I b)] (by rfl) rfl rfl (by simp only [List.map_toArray, List.map_cons, List.map_nil]; rfl) ?_
      with_reducible refine (mint_New.calls (I b) (I (seed0 b)) _ _ (Below.refl _ _) (new_f b)).mono ?_
      rintro e wN ⟨gM, rfl, IM, _, BM⟩
      refine ⟨_, rfl, ?_⟩
      have CCn := Aside0.mk (blk_below CC.out BM)
      have BBn := Aside0.mk (below_step BB.out BM)
      have JM := Aside0.mk (rebase IM BB.out.size)
      have NC := Aside0.mk (show w.heap.size ≠ gM by have := blk_lt CC.out; have := IM.ge; omega)
      have GSn := Aside0.mk (blk_below GS.out BM)
      have NG := Aside0.mk (show gS ≠ gM by have := blk_lt GS.out; have := IM.ge; omega)
      clear GS
      have GS := GSn
      clear GSn
      clear CC BB IM BM
      have CC := CCn
      have BB := BBn
      clear CCn BBn
      refine hK.out _ _ ⟨(blk_cell CC.out 0).trans rfl, (blk_cell CC.out 1).trans rfl, (blk_cell CC.out 2).trans rfl, (blk_cell CC.out 3).trans rfl, (blk_cell CC.out 4).trans rfl⟩ (fun hHeld => ?_)
      clear hK K
      refine norm_ (a' := ?_) ?_ ?_
      rotate_left
      · show Act.put _ (some 44) _ = _
        simp only [Act.put, List.setIfInBounds_toArray, List.set_cons_zero, List.set_cons_succ, i64_w, i32_w]
        rfl
      refine one_ (i := 7) (N := some 50) #[true, true, true, true, true, true, true, true, false, false, false, true, false, false] rfl rfl (by kernel_rfl) (by decide) (fun K hK => ?_)
      refine goes_ Try.func20 (by kernel_rfl) rfl #[.pointer (some ⟨gM, 0, none⟩), Value.agg #[.int .i64 c0, .int .i64 c1, .int .i64 c2, .int .i64 c3, .int .i64 c4], .int .i64 t, .int .i64 o, .int .i64 k, .int .i64 p] (by rfl) rfl rfl (by simp only [List.map_toArray, List.map_cons, List.map_nil]; rfl) ?_
      with_reducible refine (mint_Mint_Script.calls 8000 gM (I (seed0 b)) c0 c1 c2 c3 c4 t o k p r1 r2 r3 r4 r5 r6 r7 r8 (I s1) w1 _ JM.out BB.out HS.out).mono ?_
      rintro e wS ⟨v5, v6, rfl, R5, R6, _, BS, KB⟩
      refine ⟨_, rfl, ?_⟩
      obtain ⟨A5, c5, rfl, hc5, hC5⟩ := Kd.S_reads R5
      obtain ⟨A6, c6, rfl, hc6, hC6⟩ := Kd.R_reads R6
      have X5 := Aside0.mk (Kd.S_lower R5 (show w1.heap.size ≤ _ from BB.out.size))
      have X6 := Aside0.mk (Kd.R_lower R6 (show w1.heap.size ≤ _ from BB.out.size))
      have Y5 := Aside0.mk hc5
      have Y6 := Aside0.mk hc6
      have CCn := Aside0.mk (KB.blk CC.out NC.out (by simp))
      have BBn := Aside0.mk BS
      have GSn := Aside0.mk (KB.blk GS.out NG.out (by simp))
      clear GS
      have GS := GSn
      clear GSn
      clear CC BB R5 R6 hC5 hC6 hc5 hc6 BS KB JM
      have CC := CCn
      have BB := BBn
      clear CCn BBn
      refine hK.out _ _ ⟨(blk_cell CC.out 0).trans rfl, (blk_cell CC.out 1).trans rfl, (blk_cell CC.out 2).trans rfl, (blk_cell CC.out 3).trans rfl, (blk_cell CC.out 4).trans rfl⟩ (fun hHeld => ?_)
      clear hK K
      refine norm_ (a' := ?_) ?_ ?_
      rotate_left
      · show Act.put _ (some 50) _ = _
        simp only [Act.put, List.setIfInBounds_toArray, List.set_cons_zero, List.set_cons_succ, i64_w, i32_w]
        rfl
      refine pure_ (i := 8) (N := some 42) (v := ?_) (a' := ?_) #[true, true, true, true, true, true, true, true, true, false, false, true, false, false] rfl rfl (by kernel_rfl) (fun _ _ _ h => h) (Or.inl ⟨by rfl, ?_⟩) ?_ ?_
      rotate_left
      · intro w'
        go_simp
        with_reducible rfl
      rotate_left
      · simp only [Act.put, List.setIfInBounds_toArray, List.set_cons_zero, List.set_cons_succ, i64_w, i32_w]
        rfl
      refine pure_ (i := 9) (N := some 51) (v := ?_) (a' := ?_) #[true, true, true, true, true, true, true, true, true, true, false, true, false, false] rfl rfl (by kernel_rfl) (fun _ _ _ h => h) (Or.inl ⟨by rfl, ?_⟩) ?_ ?_
      rotate_left
      · intro w'
        go_simp
        with_reducible rfl
      rotate_left
      · simp only [Act.put, List.setIfInBounds_toArray, List.set_cons_zero, List.set_cons_succ, i64_w, i32_w]
        rfl
      refine pure_ (i := 10) (N := some 52) (v := ?_) (a' := ?_) #[true, true, true, true, true, true, true, true, true, true, true, true, false, false] rfl rfl (by kernel_rfl) (fun _ _ _ h => h) (Or.inl ⟨by rfl, ?_⟩) ?_ ?_
      rotate_left
      · intro w'
        go_simp
        with_reducible rfl
      rotate_left
      · simp only [Act.put, List.setIfInBounds_toArray, List.set_cons_zero, List.set_cons_succ, i64_w, i32_w]
        rfl
      exact norm_ (by simp only [putAll, Act.put, List.setIfInBounds_toArray, List.set_cons_zero, List.set_cons_succ]) (hCont ((A5, c5), (A6, c6), gM, gS) _ ⟨hHeld, CC.out, GS.out, GW.out, X5.out, Y5.out, X6.out, Y6.out, BB.out⟩)
  rintro ⟨⟨A5, c5⟩, ⟨A6, c6⟩, gM, gS⟩ wF ⟨hHeld, f1_, f2_, f3_, f4_, f5_, f6_, f7_, f8_⟩
  have CC := Aside0.mk f1_
  have GS := Aside0.mk (show wF.heap[gS]? = some (.cells #[.int .i64 0, .int .i64 0, .int .i64 0, .int .i64 0, .int .i64 0, .slice none 0 0, .slice none 0 0] 49 (0, 0)) from f2_)
  have GW := Aside0.mk (show w1.heap.size ≤ gS from f3_)
  have X5 := Aside0.mk (show Kd.S (Kd.slice 37 k37) 55 wF w1.heap.size (fun _ => True) (.slice A5 r6.length c5) r6 from f4_)
  have Y5 := Aside0.mk (show r6.length ≤ c5 from f5_)
  have X6 := Aside0.mk (show Kd.R (Kd.int .i64) 3 wF w1.heap.size (fun _ => True) (.slice A6 r7.length c6) r7 from f6_)
  have Y6 := Aside0.mk (show r7.length ≤ c6 from f7_)
  have BB := Aside0.mk f8_
  clear f1_ f2_ f3_ f4_ f5_ f6_ f7_ f8_
  refine norm_ (a' := ?_) ?_ ?_
  rotate_left
  · simp only [putAll, Act.put, List.setIfInBounds_toArray, List.set_cons_zero, List.set_cons_succ]
    rfl
  refine one_ (i := 12) (N := none) #[true, true, true, true, true, true, true, true, true, true, true, true, true, false] rfl rfl (by kernel_rfl) (by decide) (fun K hK => ?_)
  have z0 : wF.cell? ⟨gS, 0, none⟩ = some (.int .i64 0) := (blk_cell GS.out 0).trans rfl
  have z1 : wF.cell? ⟨gS, 1, none⟩ = some (.int .i64 0) := (blk_cell GS.out 1).trans rfl
  have z2 : wF.cell? ⟨gS, 2, none⟩ = some (.int .i64 0) := (blk_cell GS.out 2).trans rfl
  have z3 : wF.cell? ⟨gS, 3, none⟩ = some (.int .i64 0) := (blk_cell GS.out 3).trans rfl
  have z4 : wF.cell? ⟨gS, 4, none⟩ = some (.int .i64 0) := (blk_cell GS.out 4).trans rfl
  have z5 : wF.cell? ⟨gS, 5, none⟩ = some (.slice none 0 0) := (blk_cell GS.out 5).trans rfl
  have z6 : wF.cell? ⟨gS, 6, none⟩ = some (.slice none 0 0) := (blk_cell GS.out 6).trans rfl
  have y0 : wF.frozen? ⟨gS, 0, none⟩ = false := blk_frozen GS.out 0
  have y1 : wF.frozen? ⟨gS, 1, none⟩ = false := blk_frozen GS.out 1
  have y2 : wF.frozen? ⟨gS, 2, none⟩ = false := blk_frozen GS.out 2
  have y3 : wF.frozen? ⟨gS, 3, none⟩ = false := blk_frozen GS.out 3
  have y4 : wF.frozen? ⟨gS, 4, none⟩ = false := blk_frozen GS.out 4
  have y5 : wF.frozen? ⟨gS, 5, none⟩ = false := blk_frozen GS.out 5
  have y6 : wF.frozen? ⟨gS, 6, none⟩ = false := blk_frozen GS.out 6
  refine skip_ (w1 := ?_) (by rfl) rfl ?_ ?_
  rotate_left
  · go_simp
    rfl
  clear z0 z1 z2 z3 z4 z5 z6 y0 y1 y2 y3 y4 y5 y6
  have P := put7 (.int .i64 r1) (.int .i64 r2) (.int .i64 r3) (.int .i64 r4) (.int .i64 r5) (.slice A5 r6.length c5) (.slice A6 r7.length c6) GS.out BB.out GW.out
  have CN := Aside0.mk (show w.heap.size ≠ gS by have := blk_lt H1.out; have := GW.out; omega)
  have Q := put7_far (W := wF) (R := gS) (.int .i64 r1) (.int .i64 r2) (.int .i64 r3) (.int .i64 r4) (.int .i64 r5) (.slice A5 r6.length c5) (.slice A6 r7.length c6)
  have CCn := Aside0.mk ((Q _ CN.out).trans CC.out)
  have X5n := Aside0.mk (Kd.S_mono (Kd.S_step (Kd.S_types X5.out GS.out (fun q hq => (ops_types q hq).2)) (fun k ho _ => Q k ho.2)) (fun _ h => h.1))
  have X6n := Aside0.mk (Kd.R_mono (Kd.R_step (Kd.R_types X6.out GS.out int_types) (fun k ho _ => Q k ho.2)) (fun _ h => h.1))
  have GSn := Aside0.mk P.1
  have BBn := Aside0.mk P.2
  clear CC GS BB X5 X6 P Q
  have CC := CCn
  have GS := GSn
  have BB := BBn
  have X5 := X5n
  have X6 := X6n
  clear CCn GSn BBn X5n X6n
  skip
  refine hK.out _ _ ⟨(blk_cell CC.out 0).trans rfl, (blk_cell CC.out 1).trans rfl, (blk_cell CC.out 2).trans rfl, (blk_cell CC.out 3).trans rfl, (blk_cell CC.out 4).trans rfl⟩ (fun hHeld => ?_)
  clear hK K
  refine pure_ (i := 13) (N := some 12) (v := ?_) (a' := ?_) #[true, true, true, true, true, true, true, true, true, true, true, true, true, true] rfl rfl (by kernel_rfl) (fun _ _ _ h => h) (Or.inl ⟨by rfl, ?_⟩) ?_ ?_
  rotate_left
  · intro w'
    go_simp
    with_reducible rfl
  rotate_left
  · simp only [Act.put, List.setIfInBounds_toArray, List.set_cons_zero, List.set_cons_succ, i64_w, i32_w]
    rfl
  refine done_ (by kernel_rfl) ?_

  generalize (((((((wF.setCell ⟨gS, 0, none⟩ (.int .i64 r1)).setCell ⟨gS, 1, none⟩ (.int .i64 r2)).setCell ⟨gS, 2, none⟩ (.int .i64 r3)).setCell ⟨gS, 3, none⟩ (.int .i64 r4)).setCell ⟨gS, 4, none⟩ (.int .i64 r5)).setCell ⟨gS, 5, none⟩ (.slice A5 r6.length c5)).setCell ⟨gS, 6, none⟩ (.slice A6 r7.length c6)) = w2 at CC GS BB X5 X6 ⊢
  have D2 := Aside0.mk (below_step C1.out BB.out)
  have hcase := HCASE.out
  clear HCASE
  rcases hcase with ⟨e8, rfl, rfl, rfl, rfl, rfl, rfl, rfl⟩ | ⟨rfl, rfl, rfl, rfl, rfl, rfl, q7, s2, hU, hD⟩
  · have t8 : (r8 != 0) = true := bne_iff_ne.mpr e8
    have z0 : w2.cell? ⟨gS, 0, none⟩ = some (.int .i64 0) := (blk_cell GS.out 0).trans rfl
    have z1 : w2.cell? ⟨gS, 1, none⟩ = some (.int .i64 0) := (blk_cell GS.out 1).trans rfl
    have z2 : w2.cell? ⟨gS, 2, none⟩ = some (.int .i64 0) := (blk_cell GS.out 2).trans rfl
    have z3 : w2.cell? ⟨gS, 3, none⟩ = some (.int .i64 0) := (blk_cell GS.out 3).trans rfl
    have z4 : w2.cell? ⟨gS, 4, none⟩ = some (.int .i64 0) := (blk_cell GS.out 4).trans rfl
    have z5 : w2.cell? ⟨gS, 5, none⟩ = some (.slice A5 0 c5) := (blk_cell GS.out 5).trans rfl
    have z6 : w2.cell? ⟨gS, 6, none⟩ = some (.slice A6 0 c6) := (blk_cell GS.out 6).trans rfl
    go_wp2_with fail
    refine (same_T 0 0 0 0 0 A5 c5 [] A6 c6 [] 0 0 0 0 0 none 0 [] none 0 [] w2 (Kd.S_reads' X5.out).2.2 (Kd.R_reads' X6.out).2.2 (Nat.zero_le _) (Kd.C_nil _ _) (Kd.C_nil _ _) (Nat.le_refl _)).mono ?_
    rintro e w3 ⟨rfl, B3⟩
    go_wp2_with fail
    go_ret
    exact ⟨rfl, below_step D2.out B3⟩
  · have D := Aside0.mk hD
    have ew : wrap64 (Int.tdiv p 2) = Int.tdiv p 2 := by
      have := P0.out
      have := P1.out
      rw [Int.tdiv_eq_ediv_of_nonneg P0.out]
      exact w64 (by omega) (by omega)
    have EW := Aside0.mk ew
    rw [← ew] at hU
    have HU := Aside0.mk hU
    clear ew
    clear hU hD
    have z0 : w2.cell? ⟨gS, 0, none⟩ = some (.int .i64 c0) := (blk_cell GS.out 0).trans rfl
    have z1 : w2.cell? ⟨gS, 1, none⟩ = some (.int .i64 c1) := (blk_cell GS.out 1).trans rfl
    have z2 : w2.cell? ⟨gS, 2, none⟩ = some (.int .i64 c2) := (blk_cell GS.out 2).trans rfl
    have z3 : w2.cell? ⟨gS, 3, none⟩ = some (.int .i64 c3) := (blk_cell GS.out 3).trans rfl
    have z4 : w2.cell? ⟨gS, 4, none⟩ = some (.int .i64 c4) := (blk_cell GS.out 4).trans rfl
    have z5 : w2.cell? ⟨gS, 5, none⟩ = some (.slice A5 r6.length c5) := (blk_cell GS.out 5).trans rfl
    have z6 : w2.cell? ⟨gS, 6, none⟩ = some (.slice A6 r7.length c6) := (blk_cell GS.out 6).trans rfl
    go_wp2_with fail
    have hck := check_T c0 c1 c2 c3 c4 A5 c5 r6 A6 c6 r7 w2 (Kd.S_reads' X5.out).2.2 (Kd.R_reads' X6.out).2.2
    rw [D.out.sc] at hck
    refine hck.mono ?_
    rintro e w3 ⟨rfl, B3⟩
    have G3 := Aside0.mk (blk_below GS.out B3)
    have Q3 := Aside0.mk (blk_below CC.out B3)
    have D3 := Aside0.mk (below_step D2.out B3)
    have R5 := Aside0.mk (Kd.S_below X5.out B3)
    have R6 := Aside0.mk (Kd.R_below X6.out B3)
    clear B3 GS X5 X6 D2 CC BB z0 z1 z2 z3 z4 z5 z6 hck
    have z0 : w3.cell? ⟨gS, 0, none⟩ = some (.int .i64 c0) := (blk_cell G3.out 0).trans rfl
    have z1 : w3.cell? ⟨gS, 1, none⟩ = some (.int .i64 c1) := (blk_cell G3.out 1).trans rfl
    have z2 : w3.cell? ⟨gS, 2, none⟩ = some (.int .i64 c2) := (blk_cell G3.out 2).trans rfl
    have z3 : w3.cell? ⟨gS, 3, none⟩ = some (.int .i64 c3) := (blk_cell G3.out 3).trans rfl
    have z4 : w3.cell? ⟨gS, 4, none⟩ = some (.int .i64 c4) := (blk_cell G3.out 4).trans rfl
    have z5 : w3.cell? ⟨gS, 5, none⟩ = some (.slice A5 r6.length c5) := (blk_cell G3.out 5).trans rfl
    have z6 : w3.cell? ⟨gS, 6, none⟩ = some (.slice A6 r7.length c6) := (blk_cell G3.out 6).trans rfl
    have tA : ((r6.length : Int) != (t : Int)) = false := by rw [D.out.len]; exact bne_self_eq_false _
    go_wp2_with fail
    refine (script_Count.calls 100 c0 c1 c2 c3 c4 A5 c5 r6 A6 c6 r7 ((t : Int) * o) w3 (Kd.S_reads' R5.out).2.2 Y5.out (Kd.R_reads' R6.out).2.2 Y6.out D.out.count).mono ?_
    rintro e w4 ⟨rfl, B4⟩
    have G4 := Aside0.mk (blk_below G3.out B4)
    have Q4 := Aside0.mk (blk_below Q3.out B4)
    have D4 := Aside0.mk (below_step D3.out B4)
    have S5 := Aside0.mk (Kd.S_below R5.out B4)
    have S6 := Aside0.mk (Kd.R_below R6.out B4)
    clear B4 G3 R5 R6 D3 Q3 z0 z1 z2 z3 z4 z5 z6
    have z5 : w4.cell? ⟨gS, 5, none⟩ = some (.slice A5 r6.length c5) := (blk_cell G4.out 5).trans rfl
    have z6 : w4.cell? ⟨gS, 6, none⟩ = some (.slice A6 r7.length c6) := (blk_cell G4.out 6).trans rfl
    have tB : (((t : Int) * (o : Int)) != wrap64 ((t : Int) * (o : Int))) = false := by
      have hm : (t : Int) * (o : Int) ≤ 64 * 64 := Int.mul_le_mul (by have := T1.out; omega) (by have := O1.out; omega) (by omega) (by omega)
      have hm0 : 0 ≤ (t : Int) * (o : Int) := Int.mul_nonneg (by omega) (by omega)
      rw [w64 (by omega) (by omega)]
      exact bne_self_eq_false _
    have tC : ((r7.length : Int) != p) = false := by rw [D.out.picks]; exact bne_self_eq_false _
    go_wp2_with fail
    go_loopg [6, 13] t (fun kq v6 v13 w' => ∃ (i : Int), v6 = .bool false ∧ v13 = .int .i64 i ∧ Aside0 (0 ≤ i ∧ i + kq = t) ∧ w' = w4)
    case atStart => exact ⟨0, rfl, rfl, ⟨by omega⟩, rfl⟩
    case round =>
      obtain ⟨i, rfl, rfl, HI, rfl⟩ := hrel
      by_cases hi : i < (r6.length : Int)
      · have u1 : decide (i < (r6.length : Int)) = true := decide_eq_true hi
        have p0 : (0 : Int) ≤ i := HI.out.1
        have q0 : i < (r6.length : Int) := hi
        obtain ⟨ko, rfl⟩ : ∃ m, gk = m + 1 := ⟨gk - 1, by have := HI.out; have := D.out.len; omega⟩
        obtain ⟨ad, B0, d0, e0, hx, hl, hC⟩ := at_L3 (Kd.S_reads' S5.out).2.2 i p0 q0
        cases e0
        have HC := Aside0.mk hC
        have LL := Aside0.mk (D.out.lens _ (rd_mem p0 q0))
        have KY := Aside0.mk (D.out.keys _ (rd_mem p0 q0))
        clear hC hl hi
        have p0b : decide (0 ≤ i) = true := decide_eq_true p0
        have p0c := Aside0.mk p0
        have q0c := Aside0.mk q0
        replace p0 := eq_true p0
        replace q0 := eq_true q0
        go_wp2_with fail
        go_loopg [6, 14] o (fun kq v6 v14 w' => ∃ (j : Int), v6 = .bool false ∧ v14 = .int .i64 j ∧ Aside0 (0 ≤ j ∧ j + kq = o) ∧ w' = wr)
        case atStart => exact ⟨0, rfl, rfl, ⟨by omega⟩, rfl⟩
        case round =>
          obtain ⟨j, rfl, rfl, HJ, rfl⟩ := hrel
          generalize rd_L3 r6 i = row at *
          by_cases hj : j < (row.length : Int)
          · have v1 : decide (j < (row.length : Int)) = true := decide_eq_true hj
            have m0 : (0 : Int) ≤ j := HJ.out.1
            have m1 : j < (row.length : Int) := hj
            obtain ⟨kj, rfl⟩ : ∃ m, gk = m + 1 := ⟨gk - 1, by have := HJ.out; have := LL.out; omega⟩
            obtain ⟨bd, e1, g0, g1, g2, g3⟩ := at_T37 HC.out j m0 m1
            cases e1
            have hk := KY.out _ (rdT_mem m0 m1)
            have v2 : decide ((rd_T37 row j).f1 ≥ k) = false := decide_eq_false (by omega)
            have v3 : decide (k ≤ (rd_T37 row j).f1) = false := decide_eq_false (by omega)
            have ewk : IntKind.u64.wrap k = k := by rw [wrapU_mod]; have := K0.out; have := K1.out; omega
            clear hj hk
            have m0b : decide (0 ≤ j) = true := decide_eq_true m0
            have m0c := Aside0.mk m0
            have m1c := Aside0.mk m1
            have v4 : wrap64 (j + 1) = j + 1 := by have := LL.out; have := O1.out; exact w64 (by omega) (by omega)
            replace m0 := eq_true m0
            replace m1 := eq_true m1
            go_wp2_with fail
            go_roundg kj
            case rel => exact ⟨j + 1, rfl, by rw [v4], ⟨by have := HJ.out; omega⟩, rfl⟩
            case measure => exact Nat.lt_succ_self _
          · have v1 : decide (j < (row.length : Int)) = false := decide_eq_false hj
            clear hj
            have v4 : wrap64 (i + 1) = i + 1 := by have := p0c.out; have := q0c.out; have := D.out.len; have := T1.out; exact w64 (by omega) (by omega)
            go_wp2_with fail
            go_roundg ko
            case rel => exact ⟨i + 1, rfl, by rw [v4], ⟨by have := HI.out; omega⟩, rfl⟩
            case measure => exact Nat.lt_succ_self _
      · have u1 : decide (i < (r6.length : Int)) = false := decide_eq_false hi
        clear hi
        go_wp2_with fail
        have CU := Aside0.mk (blk_drew Q4.out)
        have BU := Aside0.mk (below_drew (Below.refl wr.heap.size wr))
        clear z5 z6 x0 x1 x2 x3 tA tB tC u1
        refine start_ (n := 15) (S := fun w' => w'.cell? ⟨w.heap.size, 0, none⟩ = some (.int .i64 c0) ∧ w'.cell? ⟨w.heap.size, 1, none⟩ = some (.int .i64 c1) ∧ w'.cell? ⟨w.heap.size, 2, none⟩ = some (.int .i64 c2) ∧ w'.cell? ⟨w.heap.size, 3, none⟩ = some (.int .i64 c3) ∧ w'.cell? ⟨w.heap.size, 4, none⟩ = some (.int .i64 c4)) (ds := []) #[false, false, false, false, false, false, false, false, false, false, false, false, false, false, false] (by kernel_rfl) rfl rfl ⟨(blk_cell CU.out 0).trans rfl, (blk_cell CU.out 1).trans rfl, (blk_cell CU.out 2).trans rfl, (blk_cell CU.out 3).trans rfl, (blk_cell CU.out 4).trans rfl⟩ (fun hHeld => ?_)
        refine pure_ (i := 0) (N := some 114) (v := ?_) (a' := ?_) #[true, false, false, false, false, false, false, false, false, false, false, false, false, false, false] rfl rfl (by kernel_rfl) (fun _ _ _ h => h) (Or.inl ⟨by rfl, ?_⟩) ?_ ?_
        rotate_left
        · intro w'
          go_simp
          with_reducible rfl
        rotate_left
        · simp only [Act.put, List.setIfInBounds_toArray, List.set_cons_zero, List.set_cons_succ, i64_w, i32_w]
          rfl
        refine pure_ (i := 3) (N := some 117) (v := ?_) (a' := ?_) #[true, false, false, true, false, false, false, false, false, false, false, false, false, false, false] rfl rfl (by kernel_rfl) (fun _ _ _ h => h) (Or.inl ⟨by rfl, ?_⟩) ?_ ?_
        rotate_left
        · intro w'
          go_simp
          with_reducible rfl
        rotate_left
        · simp only [Act.put, List.setIfInBounds_toArray, List.set_cons_zero, List.set_cons_succ, i64_w, i32_w]
          rfl
        refine pure_ (i := 4) (N := some 118) (v := ?_) (a' := ?_) #[true, false, false, true, true, false, false, false, false, false, false, false, false, false, false] rfl rfl (by kernel_rfl) (fun _ _ _ h => h) (Or.inl ⟨by rfl, ?_⟩) ?_ ?_
        rotate_left
        · intro w'
          go_simp
          with_reducible rfl
        rotate_left
        · simp only [Act.put, List.setIfInBounds_toArray, List.set_cons_zero, List.set_cons_succ, i64_w, i32_w]
          rfl
        refine pure_ (i := 5) (N := some 119) (v := ?_) (a' := ?_) #[true, false, false, true, true, true, false, false, false, false, false, false, false, false, false] rfl rfl (by kernel_rfl) (fun _ _ _ h => h) (Or.inl ⟨by rfl, ?_⟩) ?_ ?_
        rotate_left
        · intro w'
          go_simp
          with_reducible rfl
        rotate_left
        · simp only [Act.put, List.setIfInBounds_toArray, List.set_cons_zero, List.set_cons_succ, i64_w, i32_w]
          rfl
        refine pure_ (i := 6) (N := some 120) (v := ?_) (a' := ?_) #[true, false, false, true, true, true, true, false, false, false, false, false, false, false, false] rfl rfl (by kernel_rfl) (fun _ _ _ h => h) (Or.inl ⟨by rfl, ?_⟩) ?_ ?_
        rotate_left
        · intro w'
          go_simp
          with_reducible rfl
        rotate_left
        · simp only [Act.put, List.setIfInBounds_toArray, List.set_cons_zero, List.set_cons_succ, i64_w, i32_w]
          rfl
        refine pure_ (i := 7) (N := some 121) (v := ?_) (a' := ?_) #[true, false, false, true, true, true, true, true, false, false, false, false, false, false, false] rfl rfl (by kernel_rfl) (fun _ _ _ h => h) (Or.inl ⟨by rfl, ?_⟩) ?_ ?_
        rotate_left
        · intro w'
          go_simp
          with_reducible rfl
        rotate_left
        · simp only [Act.put, List.setIfInBounds_toArray, List.set_cons_zero, List.set_cons_succ, i64_w, i32_w]
          rfl
        refine take_ (i := 2) (N := some 116) (v := ?_) (a' := ?_) #[true, false, true, true, true, true, true, true, false, false, false, false, false, false, false] rfl rfl (by kernel_rfl) (fun _ _ _ h => h) (Or.inl ⟨by rfl, ?_⟩) hHeld ?_ ?_
        rotate_left
        · rintro w' ⟨s0, s1, s2, s3, s4⟩
          go_simp
          with_reducible rfl
        rotate_left
        · simp only [Act.put, List.setIfInBounds_toArray, List.set_cons_zero, List.set_cons_succ, i64_w, i32_w]
          rfl
        refine join_ (σ := (Option Addr × Nat) × (Option Addr × Nat) × Nat × Nat) 2 #[true, true, true, true, true, true, true, true, true, true, true, true, true, false, false] (fun s_ => [(115, .pointer (some ⟨s_.2.2.1, 0, none⟩)), (122, .tuple #[.agg #[.int .i64 c0, .int .i64 c1, .int .i64 c2, .int .i64 c3, .int .i64 c4, .slice s_.1.1 r6.length s_.1.2, .slice s_.2.1.1 q7.length s_.2.1.2], .int .i64 0]), (113, .tuple #[.agg #[.int .i64 c0, .int .i64 c1, .int .i64 c2, .int .i64 c3, .int .i64 c4, .slice s_.1.1 r6.length s_.1.2, .slice s_.2.1.1 q7.length s_.2.1.2], .int .i64 0]), (123, .agg #[.int .i64 c0, .int .i64 c1, .int .i64 c2, .int .i64 c3, .int .i64 c4, .slice s_.1.1 r6.length s_.1.2, .slice s_.2.1.1 q7.length s_.2.1.2]), (124, .int .i64 0), (15, .pointer (some ⟨s_.2.2.2, 0, none⟩))]) (fun s_ w' => (w'.cell? ⟨w.heap.size, 0, none⟩ = some (.int .i64 c0) ∧ w'.cell? ⟨w.heap.size, 1, none⟩ = some (.int .i64 c1) ∧ w'.cell? ⟨w.heap.size, 2, none⟩ = some (.int .i64 c2) ∧ w'.cell? ⟨w.heap.size, 3, none⟩ = some (.int .i64 c3) ∧ w'.cell? ⟨w.heap.size, 4, none⟩ = some (.int .i64 c4)) ∧ w'.heap[w.heap.size]? = some (.cells #[.int .i64 c0, .int .i64 c1, .int .i64 c2, .int .i64 c3, .int .i64 c4] 31 (0, 0)) ∧ w'.heap[s_.2.2.2]? = some (.cells #[.int .i64 0, .int .i64 0, .int .i64 0, .int .i64 0, .int .i64 0, .slice none 0 0, .slice none 0 0] 49 (0, 0)) ∧ wr.heap.size ≤ s_.2.2.2 ∧ Kd.S (Kd.slice 37 k37) 55 w' wr.heap.size (fun _ => True) (.slice s_.1.1 r6.length s_.1.2) r6 ∧ r6.length ≤ s_.1.2 ∧ Kd.R (Kd.int .i64) 3 w' wr.heap.size (fun _ => True) (.slice s_.2.1.1 q7.length s_.2.1.2) q7 ∧ q7.length ≤ s_.2.1.2 ∧ Below wr.heap.size wr w') ?_ ?_
        rotate_left
        · intro hCont
          refine two_ (i := 1) (j := 12) (Ni := some 115) (Nj := some 15) #[true, true, true, true, true, true, true, true, false, false, false, false, false, false, false] #[true, false, true, true, true, true, true, true, false, false, false, false, true, false, false] rfl rfl rfl rfl (by kernel_rfl) (by decide) (by decide) (fun K hK => ?_) (fun K hK => ?_)
          · skip
            refine goes_ Try.func11 (by kernel_rfl) rfl #[.int .u64 (I b)] (by rfl) rfl rfl (by simp only [List.map_toArray, List.map_cons, List.map_nil]; rfl) ?_
            with_reducible refine (mint_New.calls (I b) (I (seed0 b)) _ _ (Below.refl _ _) (new_f b)).mono ?_
            rintro e wP ⟨gN, rfl, IM, _, BM⟩
            refine ⟨_, rfl, ?_⟩
            have CUn := Aside0.mk (blk_below CU.out BM)
            have BUn := Aside0.mk (below_step BU.out BM)
            have JMu := Aside0.mk (rebase IM BU.out.size)
            have NCu := Aside0.mk (show w.heap.size ≠ gN by have := blk_lt CU.out; have := IM.ge; omega)
            clear CU BU IM BM
            have CU := CUn
            have BU := BUn
            clear CUn BUn
            refine hK.out _ _ ⟨(blk_cell CU.out 0).trans rfl, (blk_cell CU.out 1).trans rfl, (blk_cell CU.out 2).trans rfl, (blk_cell CU.out 3).trans rfl, (blk_cell CU.out 4).trans rfl⟩ (fun hHeld => ?_)
            clear hK K
            refine norm_ (a' := ?_) ?_ ?_
            rotate_left
            · show Act.put _ (some 115) _ = _
              simp only [Act.put, List.setIfInBounds_toArray, List.set_cons_zero, List.set_cons_succ, i64_w, i32_w]
              rfl
            refine two_ (i := 8) (j := 12) (Ni := some 122) (Nj := some 15) #[true, true, true, true, true, true, true, true, true, false, false, false, false, false, false] #[true, true, true, true, true, true, true, true, false, false, false, false, true, false, false] rfl rfl rfl rfl (by kernel_rfl) (by decide) (by decide) (fun K hK => ?_) (fun K hK => ?_)
            · skip
              refine goes_ Try.func20 (by kernel_rfl) rfl #[.pointer (some ⟨gN, 0, none⟩), Value.agg #[.int .i64 c0, .int .i64 c1, .int .i64 c2, .int .i64 c3, .int .i64 c4], .int .i64 t, .int .i64 o, .int .i64 k, .int .i64 (wrap64 (Int.tdiv p 2))] (by rfl) rfl rfl (by simp only [List.map_toArray, List.map_cons, List.map_nil]; rfl) ?_
              with_reducible refine (mint_Mint_Script.calls 8000 gN (I (seed0 b)) c0 c1 c2 c3 c4 t o k (wrap64 (Int.tdiv p 2)) c0 c1 c2 c3 c4 r6 q7 0 (I s2) wr _ JMu.out BU.out HU.out).mono ?_
              rintro e wT ⟨v5, v6, rfl, R5, R6, _, BS, KB⟩
              refine ⟨_, rfl, ?_⟩
              obtain ⟨E5, i5, rfl, hc5, hC5⟩ := Kd.S_reads R5
              obtain ⟨E6, i6, rfl, hc6, hC6⟩ := Kd.R_reads R6
              have U5 := Aside0.mk (Kd.S_lower R5 (show wr.heap.size ≤ _ from BU.out.size))
              have U6 := Aside0.mk (Kd.R_lower R6 (show wr.heap.size ≤ _ from BU.out.size))
              have V5 := Aside0.mk hc5
              have V6 := Aside0.mk hc6
              have CUn := Aside0.mk (KB.blk CU.out NCu.out (by simp))
              have BUn := Aside0.mk BS
              clear CU BU R5 R6 hC5 hC6 hc5 hc6 BS KB JMu
              have CU := CUn
              have BU := BUn
              clear CUn BUn
              refine hK.out _ _ ⟨(blk_cell CU.out 0).trans rfl, (blk_cell CU.out 1).trans rfl, (blk_cell CU.out 2).trans rfl, (blk_cell CU.out 3).trans rfl, (blk_cell CU.out 4).trans rfl⟩ (fun hHeld => ?_)
              clear hK K
              refine norm_ (a' := ?_) ?_ ?_
              rotate_left
              · show Act.put _ (some 122) _ = _
                simp only [Act.put, List.setIfInBounds_toArray, List.set_cons_zero, List.set_cons_succ, i64_w, i32_w]
                rfl
              refine pure_ (i := 9) (N := some 113) (v := ?_) (a' := ?_) #[true, true, true, true, true, true, true, true, true, true, false, false, false, false, false] rfl rfl (by kernel_rfl) (fun _ _ _ h => h) (Or.inl ⟨by rfl, ?_⟩) ?_ ?_
              rotate_left
              · intro w'
                go_simp
                with_reducible rfl
              rotate_left
              · simp only [Act.put, List.setIfInBounds_toArray, List.set_cons_zero, List.set_cons_succ, i64_w, i32_w]
                rfl
              refine pure_ (i := 10) (N := some 123) (v := ?_) (a' := ?_) #[true, true, true, true, true, true, true, true, true, true, true, false, false, false, false] rfl rfl (by kernel_rfl) (fun _ _ _ h => h) (Or.inl ⟨by rfl, ?_⟩) ?_ ?_
              rotate_left
              · intro w'
                go_simp
                with_reducible rfl
              rotate_left
              · simp only [Act.put, List.setIfInBounds_toArray, List.set_cons_zero, List.set_cons_succ, i64_w, i32_w]
                rfl
              refine pure_ (i := 11) (N := some 124) (v := ?_) (a' := ?_) #[true, true, true, true, true, true, true, true, true, true, true, true, false, false, false] rfl rfl (by kernel_rfl) (fun _ _ _ h => h) (Or.inl ⟨by rfl, ?_⟩) ?_ ?_
              rotate_left
              · intro w'
                go_simp
                with_reducible rfl
              rotate_left
              · simp only [Act.put, List.setIfInBounds_toArray, List.set_cons_zero, List.set_cons_succ, i64_w, i32_w]
                rfl
              refine one_ (i := 12) (N := some 15) #[true, true, true, true, true, true, true, true, true, true, true, true, true, false, false] rfl rfl (by kernel_rfl) (by decide) (fun K hK => ?_)
              refine box_step ?hg (N := 15) ?hd (cs := #[.int .i64 0, .int .i64 0, .int .i64 0, .int .i64 0, .int .i64 0, .slice none 0 0, .slice none 0 0]) (t := 49) ?hr ?_; (case hd => rfl); (case hg => rfl); (case hr => first | (go_simp; done) | (go_simp; rfl))
              intro gU hg wB hbox hb
              have CUn := Aside0.mk (blk_below CU.out hb)
              have BUn := Aside0.mk (below_step BU.out hb)
              have GWu := Aside0.mk (show wr.heap.size ≤ gU by rw [hg]; exact BU.out.size)
              have GU := Aside0.mk hbox
              have U5n := Aside0.mk (Kd.S_below U5.out hb)
              have U6n := Aside0.mk (Kd.R_below U6.out hb)
              clear U5 U6
              have U5 := U5n
              have U6 := U6n
              clear U5n U6n
              clear CU BU hg hbox hb
              have CU := CUn
              have BU := BUn
              clear CUn BUn
              refine hK.out _ _ ⟨(blk_cell CU.out 0).trans rfl, (blk_cell CU.out 1).trans rfl, (blk_cell CU.out 2).trans rfl, (blk_cell CU.out 3).trans rfl, (blk_cell CU.out 4).trans rfl⟩ (fun hHeld => ?_)
              clear hK K
              refine norm_ (a' := ?_) ?_ ?_
              rotate_left
              · show Act.put _ (some 15) _ = _
                simp only [Act.put, List.setIfInBounds_toArray, List.set_cons_zero, List.set_cons_succ, i64_w, i32_w]
                rfl
              exact norm_ (by simp only [putAll, Act.put, List.setIfInBounds_toArray, List.set_cons_zero, List.set_cons_succ]) (hCont ((E5, i5), (E6, i6), gN, gU) _ ⟨hHeld, CU.out, GU.out, GWu.out, U5.out, V5.out, U6.out, V6.out, BU.out⟩)
            · skip
              refine box_step ?hg (N := 15) ?hd (cs := #[.int .i64 0, .int .i64 0, .int .i64 0, .int .i64 0, .int .i64 0, .slice none 0 0, .slice none 0 0]) (t := 49) ?hr ?_; (case hd => rfl); (case hg => rfl); (case hr => first | (go_simp; done) | (go_simp; rfl))
              intro gU hg wB hbox hb
              have CUn := Aside0.mk (blk_below CU.out hb)
              have BUn := Aside0.mk (below_step BU.out hb)
              have GWu := Aside0.mk (show wr.heap.size ≤ gU by rw [hg]; exact BU.out.size)
              have GU := Aside0.mk hbox
              have NGu := Aside0.mk (show gU ≠ gN by rw [hg]; exact (Nat.ne_of_lt JMu.out.lt).symm)
              have JMun := Aside0.mk (JMu.out.below hb)
              clear JMu
              have JMu := JMun
              clear JMun
              clear CU BU hg hbox hb
              have CU := CUn
              have BU := BUn
              clear CUn BUn
              refine hK.out _ _ ⟨(blk_cell CU.out 0).trans rfl, (blk_cell CU.out 1).trans rfl, (blk_cell CU.out 2).trans rfl, (blk_cell CU.out 3).trans rfl, (blk_cell CU.out 4).trans rfl⟩ (fun hHeld => ?_)
              clear hK K
              refine norm_ (a' := ?_) ?_ ?_
              rotate_left
              · show Act.put _ (some 15) _ = _
                simp only [Act.put, List.setIfInBounds_toArray, List.set_cons_zero, List.set_cons_succ, i64_w, i32_w]
                rfl
              refine one_ (i := 8) (N := some 122) #[true, true, true, true, true, true, true, true, true, false, false, false, true, false, false] rfl rfl (by kernel_rfl) (by decide) (fun K hK => ?_)
              refine goes_ Try.func20 (by kernel_rfl) rfl #[.pointer (some ⟨gN, 0, none⟩), Value.agg #[.int .i64 c0, .int .i64 c1, .int .i64 c2, .int .i64 c3, .int .i64 c4], .int .i64 t, .int .i64 o, .int .i64 k, .int .i64 (wrap64 (Int.tdiv p 2))] (by rfl) rfl rfl (by simp only [List.map_toArray, List.map_cons, List.map_nil]; rfl) ?_
              with_reducible refine (mint_Mint_Script.calls 8000 gN (I (seed0 b)) c0 c1 c2 c3 c4 t o k (wrap64 (Int.tdiv p 2)) c0 c1 c2 c3 c4 r6 q7 0 (I s2) wr _ JMu.out BU.out HU.out).mono ?_
              rintro e wT ⟨v5, v6, rfl, R5, R6, _, BS, KB⟩
              refine ⟨_, rfl, ?_⟩
              obtain ⟨E5, i5, rfl, hc5, hC5⟩ := Kd.S_reads R5
              obtain ⟨E6, i6, rfl, hc6, hC6⟩ := Kd.R_reads R6
              have U5 := Aside0.mk (Kd.S_lower R5 (show wr.heap.size ≤ _ from BU.out.size))
              have U6 := Aside0.mk (Kd.R_lower R6 (show wr.heap.size ≤ _ from BU.out.size))
              have V5 := Aside0.mk hc5
              have V6 := Aside0.mk hc6
              have CUn := Aside0.mk (KB.blk CU.out NCu.out (by simp))
              have BUn := Aside0.mk BS
              have GUn := Aside0.mk (KB.blk GU.out NGu.out (by simp))
              clear GU
              have GU := GUn
              clear GUn
              clear CU BU R5 R6 hC5 hC6 hc5 hc6 BS KB JMu
              have CU := CUn
              have BU := BUn
              clear CUn BUn
              refine hK.out _ _ ⟨(blk_cell CU.out 0).trans rfl, (blk_cell CU.out 1).trans rfl, (blk_cell CU.out 2).trans rfl, (blk_cell CU.out 3).trans rfl, (blk_cell CU.out 4).trans rfl⟩ (fun hHeld => ?_)
              clear hK K
              refine norm_ (a' := ?_) ?_ ?_
              rotate_left
              · show Act.put _ (some 122) _ = _
                simp only [Act.put, List.setIfInBounds_toArray, List.set_cons_zero, List.set_cons_succ, i64_w, i32_w]
                rfl
              refine pure_ (i := 9) (N := some 113) (v := ?_) (a' := ?_) #[true, true, true, true, true, true, true, true, true, true, false, false, true, false, false] rfl rfl (by kernel_rfl) (fun _ _ _ h => h) (Or.inl ⟨by rfl, ?_⟩) ?_ ?_
              rotate_left
              · intro w'
                go_simp
                with_reducible rfl
              rotate_left
              · simp only [Act.put, List.setIfInBounds_toArray, List.set_cons_zero, List.set_cons_succ, i64_w, i32_w]
                rfl
              refine pure_ (i := 10) (N := some 123) (v := ?_) (a' := ?_) #[true, true, true, true, true, true, true, true, true, true, true, false, true, false, false] rfl rfl (by kernel_rfl) (fun _ _ _ h => h) (Or.inl ⟨by rfl, ?_⟩) ?_ ?_
              rotate_left
              · intro w'
                go_simp
                with_reducible rfl
              rotate_left
              · simp only [Act.put, List.setIfInBounds_toArray, List.set_cons_zero, List.set_cons_succ, i64_w, i32_w]
                rfl
              refine pure_ (i := 11) (N := some 124) (v := ?_) (a' := ?_) #[true, true, true, true, true, true, true, true, true, true, true, true, true, false, false] rfl rfl (by kernel_rfl) (fun _ _ _ h => h) (Or.inl ⟨by rfl, ?_⟩) ?_ ?_
              rotate_left
              · intro w'
                go_simp
                with_reducible rfl
              rotate_left
              · simp only [Act.put, List.setIfInBounds_toArray, List.set_cons_zero, List.set_cons_succ, i64_w, i32_w]
                rfl
              exact norm_ (by simp only [putAll, Act.put, List.setIfInBounds_toArray, List.set_cons_zero, List.set_cons_succ]) (hCont ((E5, i5), (E6, i6), gN, gU) _ ⟨hHeld, CU.out, GU.out, GWu.out, U5.out, V5.out, U6.out, V6.out, BU.out⟩)
          · skip
            refine box_step ?hg (N := 15) ?hd (cs := #[.int .i64 0, .int .i64 0, .int .i64 0, .int .i64 0, .int .i64 0, .slice none 0 0, .slice none 0 0]) (t := 49) ?hr ?_; (case hd => rfl); (case hg => rfl); (case hr => first | (go_simp; done) | (go_simp; rfl))
            intro gU hg wB hbox hb
            have CUn := Aside0.mk (blk_below CU.out hb)
            have BUn := Aside0.mk (below_step BU.out hb)
            have GWu := Aside0.mk (show wr.heap.size ≤ gU by rw [hg]; exact BU.out.size)
            have GU := Aside0.mk hbox
            clear CU BU hg hbox hb
            have CU := CUn
            have BU := BUn
            clear CUn BUn
            refine hK.out _ _ ⟨(blk_cell CU.out 0).trans rfl, (blk_cell CU.out 1).trans rfl, (blk_cell CU.out 2).trans rfl, (blk_cell CU.out 3).trans rfl, (blk_cell CU.out 4).trans rfl⟩ (fun hHeld => ?_)
            clear hK K
            refine norm_ (a' := ?_) ?_ ?_
            rotate_left
            · show Act.put _ (some 15) _ = _
              simp only [Act.put, List.setIfInBounds_toArray, List.set_cons_zero, List.set_cons_succ, i64_w, i32_w]
              rfl
            refine one_ (i := 1) (N := some 115) #[true, true, true, true, true, true, true, true, false, false, false, false, true, false, false] rfl rfl (by kernel_rfl) (by decide) (fun K hK => ?_)
            refine goes_ Try.func11 (by kernel_rfl) rfl #[.int .u64 (I b)] (by rfl) rfl rfl (by simp only [List.map_toArray, List.map_cons, List.map_nil]; rfl) ?_
            with_reducible refine (mint_New.calls (I b) (I (seed0 b)) _ _ (Below.refl _ _) (new_f b)).mono ?_
            rintro e wP ⟨gN, rfl, IM, _, BM⟩
            refine ⟨_, rfl, ?_⟩
            have CUn := Aside0.mk (blk_below CU.out BM)
            have BUn := Aside0.mk (below_step BU.out BM)
            have JMu := Aside0.mk (rebase IM BU.out.size)
            have NCu := Aside0.mk (show w.heap.size ≠ gN by have := blk_lt CU.out; have := IM.ge; omega)
            have GUn := Aside0.mk (blk_below GU.out BM)
            have NGu := Aside0.mk (show gU ≠ gN by have := blk_lt GU.out; have := IM.ge; omega)
            clear GU
            have GU := GUn
            clear GUn
            clear CU BU IM BM
            have CU := CUn
            have BU := BUn
            clear CUn BUn
            refine hK.out _ _ ⟨(blk_cell CU.out 0).trans rfl, (blk_cell CU.out 1).trans rfl, (blk_cell CU.out 2).trans rfl, (blk_cell CU.out 3).trans rfl, (blk_cell CU.out 4).trans rfl⟩ (fun hHeld => ?_)
            clear hK K
            refine norm_ (a' := ?_) ?_ ?_
            rotate_left
            · show Act.put _ (some 115) _ = _
              simp only [Act.put, List.setIfInBounds_toArray, List.set_cons_zero, List.set_cons_succ, i64_w, i32_w]
              rfl
            refine one_ (i := 8) (N := some 122) #[true, true, true, true, true, true, true, true, true, false, false, false, true, false, false] rfl rfl (by kernel_rfl) (by decide) (fun K hK => ?_)
            refine goes_ Try.func20 (by kernel_rfl) rfl #[.pointer (some ⟨gN, 0, none⟩), Value.agg #[.int .i64 c0, .int .i64 c1, .int .i64 c2, .int .i64 c3, .int .i64 c4], .int .i64 t, .int .i64 o, .int .i64 k, .int .i64 (wrap64 (Int.tdiv p 2))] (by rfl) rfl rfl (by simp only [List.map_toArray, List.map_cons, List.map_nil]; rfl) ?_
            with_reducible refine (mint_Mint_Script.calls 8000 gN (I (seed0 b)) c0 c1 c2 c3 c4 t o k (wrap64 (Int.tdiv p 2)) c0 c1 c2 c3 c4 r6 q7 0 (I s2) wr _ JMu.out BU.out HU.out).mono ?_
            rintro e wT ⟨v5, v6, rfl, R5, R6, _, BS, KB⟩
            refine ⟨_, rfl, ?_⟩
            obtain ⟨E5, i5, rfl, hc5, hC5⟩ := Kd.S_reads R5
            obtain ⟨E6, i6, rfl, hc6, hC6⟩ := Kd.R_reads R6
            have U5 := Aside0.mk (Kd.S_lower R5 (show wr.heap.size ≤ _ from BU.out.size))
            have U6 := Aside0.mk (Kd.R_lower R6 (show wr.heap.size ≤ _ from BU.out.size))
            have V5 := Aside0.mk hc5
            have V6 := Aside0.mk hc6
            have CUn := Aside0.mk (KB.blk CU.out NCu.out (by simp))
            have BUn := Aside0.mk BS
            have GUn := Aside0.mk (KB.blk GU.out NGu.out (by simp))
            clear GU
            have GU := GUn
            clear GUn
            clear CU BU R5 R6 hC5 hC6 hc5 hc6 BS KB JMu
            have CU := CUn
            have BU := BUn
            clear CUn BUn
            refine hK.out _ _ ⟨(blk_cell CU.out 0).trans rfl, (blk_cell CU.out 1).trans rfl, (blk_cell CU.out 2).trans rfl, (blk_cell CU.out 3).trans rfl, (blk_cell CU.out 4).trans rfl⟩ (fun hHeld => ?_)
            clear hK K
            refine norm_ (a' := ?_) ?_ ?_
            rotate_left
            · show Act.put _ (some 122) _ = _
              simp only [Act.put, List.setIfInBounds_toArray, List.set_cons_zero, List.set_cons_succ, i64_w, i32_w]
              rfl
            refine pure_ (i := 9) (N := some 113) (v := ?_) (a' := ?_) #[true, true, true, true, true, true, true, true, true, true, false, false, true, false, false] rfl rfl (by kernel_rfl) (fun _ _ _ h => h) (Or.inl ⟨by rfl, ?_⟩) ?_ ?_
            rotate_left
            · intro w'
              go_simp
              with_reducible rfl
            rotate_left
            · simp only [Act.put, List.setIfInBounds_toArray, List.set_cons_zero, List.set_cons_succ, i64_w, i32_w]
              rfl
            refine pure_ (i := 10) (N := some 123) (v := ?_) (a' := ?_) #[true, true, true, true, true, true, true, true, true, true, true, false, true, false, false] rfl rfl (by kernel_rfl) (fun _ _ _ h => h) (Or.inl ⟨by rfl, ?_⟩) ?_ ?_
            rotate_left
            · intro w'
              go_simp
              with_reducible rfl
            rotate_left
            · simp only [Act.put, List.setIfInBounds_toArray, List.set_cons_zero, List.set_cons_succ, i64_w, i32_w]
              rfl
            refine pure_ (i := 11) (N := some 124) (v := ?_) (a' := ?_) #[true, true, true, true, true, true, true, true, true, true, true, true, true, false, false] rfl rfl (by kernel_rfl) (fun _ _ _ h => h) (Or.inl ⟨by rfl, ?_⟩) ?_ ?_
            rotate_left
            · intro w'
              go_simp
              with_reducible rfl
            rotate_left
            · simp only [Act.put, List.setIfInBounds_toArray, List.set_cons_zero, List.set_cons_succ, i64_w, i32_w]
              rfl
            exact norm_ (by simp only [putAll, Act.put, List.setIfInBounds_toArray, List.set_cons_zero, List.set_cons_succ]) (hCont ((E5, i5), (E6, i6), gN, gU) _ ⟨hHeld, CU.out, GU.out, GWu.out, U5.out, V5.out, U6.out, V6.out, BU.out⟩)
        rintro ⟨⟨E5, i5⟩, ⟨E6, i6⟩, gN, gU⟩ wG ⟨hHeld, f1_, f2_, f3_, f4_, f5_, f6_, f7_, f8_⟩
        have CU := Aside0.mk f1_
        have GU := Aside0.mk (show wG.heap[gU]? = some (.cells #[.int .i64 0, .int .i64 0, .int .i64 0, .int .i64 0, .int .i64 0, .slice none 0 0, .slice none 0 0] 49 (0, 0)) from f2_)
        have GWu := Aside0.mk (show wr.heap.size ≤ gU from f3_)
        have U5 := Aside0.mk (show Kd.S (Kd.slice 37 k37) 55 wG wr.heap.size (fun _ => True) (.slice E5 r6.length i5) r6 from f4_)
        have V5 := Aside0.mk (show r6.length ≤ i5 from f5_)
        have U6 := Aside0.mk (show Kd.R (Kd.int .i64) 3 wG wr.heap.size (fun _ => True) (.slice E6 q7.length i6) q7 from f6_)
        have V6 := Aside0.mk (show q7.length ≤ i6 from f7_)
        have BU := Aside0.mk f8_
        clear f1_ f2_ f3_ f4_ f5_ f6_ f7_ f8_
        refine norm_ (a' := ?_) ?_ ?_
        rotate_left
        · simp only [putAll, Act.put, List.setIfInBounds_toArray, List.set_cons_zero, List.set_cons_succ]
          rfl
        refine one_ (i := 13) (N := none) #[true, true, true, true, true, true, true, true, true, true, true, true, true, true, false] rfl rfl (by kernel_rfl) (by decide) (fun K hK => ?_)
        have z0 : wG.cell? ⟨gU, 0, none⟩ = some (.int .i64 0) := (blk_cell GU.out 0).trans rfl
        have z1 : wG.cell? ⟨gU, 1, none⟩ = some (.int .i64 0) := (blk_cell GU.out 1).trans rfl
        have z2 : wG.cell? ⟨gU, 2, none⟩ = some (.int .i64 0) := (blk_cell GU.out 2).trans rfl
        have z3 : wG.cell? ⟨gU, 3, none⟩ = some (.int .i64 0) := (blk_cell GU.out 3).trans rfl
        have z4 : wG.cell? ⟨gU, 4, none⟩ = some (.int .i64 0) := (blk_cell GU.out 4).trans rfl
        have z5 : wG.cell? ⟨gU, 5, none⟩ = some (.slice none 0 0) := (blk_cell GU.out 5).trans rfl
        have z6 : wG.cell? ⟨gU, 6, none⟩ = some (.slice none 0 0) := (blk_cell GU.out 6).trans rfl
        have y0 : wG.frozen? ⟨gU, 0, none⟩ = false := blk_frozen GU.out 0
        have y1 : wG.frozen? ⟨gU, 1, none⟩ = false := blk_frozen GU.out 1
        have y2 : wG.frozen? ⟨gU, 2, none⟩ = false := blk_frozen GU.out 2
        have y3 : wG.frozen? ⟨gU, 3, none⟩ = false := blk_frozen GU.out 3
        have y4 : wG.frozen? ⟨gU, 4, none⟩ = false := blk_frozen GU.out 4
        have y5 : wG.frozen? ⟨gU, 5, none⟩ = false := blk_frozen GU.out 5
        have y6 : wG.frozen? ⟨gU, 6, none⟩ = false := blk_frozen GU.out 6
        refine skip_ (w1 := ?_) (by rfl) rfl ?_ ?_
        rotate_left
        · go_simp
          rfl
        clear z0 z1 z2 z3 z4 z5 z6 y0 y1 y2 y3 y4 y5 y6
        have P := put7 (.int .i64 c0) (.int .i64 c1) (.int .i64 c2) (.int .i64 c3) (.int .i64 c4) (.slice E5 r6.length i5) (.slice E6 q7.length i6) GU.out BU.out GWu.out
        have CNu := Aside0.mk (show w.heap.size ≠ gU by have := blk_lt Q4.out; have := GWu.out; omega)
        have Q := put7_far (W := wG) (R := gU) (.int .i64 c0) (.int .i64 c1) (.int .i64 c2) (.int .i64 c3) (.int .i64 c4) (.slice E5 r6.length i5) (.slice E6 q7.length i6)
        have CUn := Aside0.mk ((Q _ CNu.out).trans CU.out)
        have U5n := Aside0.mk (Kd.S_mono (Kd.S_step (Kd.S_types U5.out GU.out (fun q hq => (ops_types q hq).2)) (fun k ho _ => Q k ho.2)) (fun _ h => h.1))
        have U6n := Aside0.mk (Kd.R_mono (Kd.R_step (Kd.R_types U6.out GU.out int_types) (fun k ho _ => Q k ho.2)) (fun _ h => h.1))
        have GUn := Aside0.mk P.1
        have BUn := Aside0.mk P.2
        clear CU GU BU U5 U6 P Q
        have CU := CUn
        have GU := GUn
        have BU := BUn
        have U5 := U5n
        have U6 := U6n
        clear CUn GUn BUn U5n U6n
        skip
        refine hK.out _ _ ⟨(blk_cell CU.out 0).trans rfl, (blk_cell CU.out 1).trans rfl, (blk_cell CU.out 2).trans rfl, (blk_cell CU.out 3).trans rfl, (blk_cell CU.out 4).trans rfl⟩ (fun hHeld => ?_)
        clear hK K
        refine pure_ (i := 14) (N := some 16) (v := ?_) (a' := ?_) #[true, true, true, true, true, true, true, true, true, true, true, true, true, true, true] rfl rfl (by kernel_rfl) (fun _ _ _ h => h) (Or.inl ⟨by rfl, ?_⟩) ?_ ?_
        rotate_left
        · intro w'
          go_simp
          with_reducible rfl
        rotate_left
        · simp only [Act.put, List.setIfInBounds_toArray, List.set_cons_zero, List.set_cons_succ, i64_w, i32_w]
          rfl
        refine done_ (by kernel_rfl) ?_

        generalize (((((((wG.setCell ⟨gU, 0, none⟩ (.int .i64 c0)).setCell ⟨gU, 1, none⟩ (.int .i64 c1)).setCell ⟨gU, 2, none⟩ (.int .i64 c2)).setCell ⟨gU, 3, none⟩ (.int .i64 c3)).setCell ⟨gU, 4, none⟩ (.int .i64 c4)).setCell ⟨gU, 5, none⟩ (.slice E5 r6.length i5)).setCell ⟨gU, 6, none⟩ (.slice E6 q7.length i6)) = w5 at CU GU BU U5 U6 ⊢
        have D5 := Aside0.mk (below_step D4.out BU.out)
        have G5 := Aside0.mk (blk_below G4.out BU.out)
        have T5 := Aside0.mk (Kd.S_below S5.out BU.out)
        have T6 := Aside0.mk (Kd.R_below S6.out BU.out)
        have NU := Aside0.mk (show w.heap.size ≤ gU by have := D4.out.size; have := GWu.out; omega)
        have n1 : gS ≠ gU := by have := blk_lt G4.out; have := GWu.out; omega
        have n2 : gU ≠ gS := n1.symm
        clear D4 G4 S5 S6 BU CU Q4
        have zu6 : w5.cell? ⟨gU, 6, none⟩ = some (.slice E6 q7.length i6) := (blk_cell GU.out 6).trans rfl
        have tD : ((q7.length : Int) != wrap64 (Int.tdiv p 2)) = false := by rw [D.out.half, EW.out]; exact bne_self_eq_false _
        go_wp2_with fail
        go_loopg [6, 17] q7.length (fun kq v6 v17 w' => ∃ (i : Int), v6 = .bool false ∧ v17 = .int .i64 i ∧ Aside0 (0 ≤ i ∧ i + kq = q7.length) ∧ Aside0 (Below w5.heap.size w5 w'))
        case atStart => exact ⟨0, rfl, rfl, ⟨by omega⟩, ⟨Below.refl _ _⟩⟩
        case round =>
          clear zu6 tD
          obtain ⟨i, rfl, rfl, HJ, HW⟩ := hrel
          have GV := Aside0.mk (blk_below GU.out HW.out)
          have GT := Aside0.mk (blk_below G5.out HW.out)
          by_cases hi : i < (q7.length : Int)
          · have t1 : decide (i < (q7.length : Int)) = true := decide_eq_true hi
            have p0 : (0 : Int) ≤ i := HJ.out.1
            have q0 : i < (q7.length : Int) := hi
            have q1 : i < (r7.length : Int) := by
              have := D.out.pre.length_le
              omega
            obtain ⟨ko, rfl⟩ : ∃ m, gk = m + 1 := ⟨gk - 1, by have := HJ.out; omega⟩
            obtain ⟨ad, e0, hx0⟩ := Kd.at_int (Kd.R_reads' U6.out).2.2 i p0 q0
            obtain ⟨ad2, e1, hx1⟩ := Kd.at_int (Kd.R_reads' T6.out).2.2 i p0 q1
            cases e0
            cases e1
            rw [← rd_pre D.out.pre p0 q0] at hx1
            replace hx0 : wr.drew.cell? (ad.add i.toNat) = some (.int .i64 (rd q7 i)) := (HW.out.cell (World.block_lt_of_cell? w5 _ hx0)).trans hx0
            replace hx1 : wr.drew.cell? (ad2.add i.toNat) = some (.int .i64 (rd q7 i)) := (HW.out.cell (World.block_lt_of_cell? w5 _ hx1)).trans hx1
            have zu6 : wr.cell? ⟨gU, 6, none⟩ = some (.slice (some ad) q7.length i6) := (blk_cell GV.out 6).trans rfl
            have zs6 : wr.cell? ⟨gS, 6, none⟩ = some (.slice (some ad2) r7.length c6) := (blk_cell GT.out 6).trans rfl
            have p0b : decide (0 ≤ i) = true := decide_eq_true p0
            have hw : wrap64 (i + 1) = i + 1 := by have := D.out.half; have := EW.out; have := P0.out; have := P1.out; rw [Int.tdiv_eq_ediv_of_nonneg P0.out] at *; exact w64 (by omega) (by omega)
            replace p0 := eq_true p0
            replace q0 := eq_true q0
            replace q1 := eq_true q1
            clear hi
            go_wp2_with fail
            refine start_ (n := 11) (S := fun w' => w'.cell? ⟨gU, 6, none⟩ = some (.slice (some ad) q7.length i6) ∧ w'.cell? (ad.add i.toNat) = some (.int .i64 (rd q7 i)) ∧ w'.cell? ⟨gS, 6, none⟩ = some (.slice (some ad2) r7.length c6) ∧ w'.cell? (ad2.add i.toNat) = some (.int .i64 (rd q7 i))) (ds := []) #[false, false, false, false, false, false, false, false, false, false, false] (by kernel_rfl) rfl rfl ⟨zu6, hx0, zs6, hx1⟩ (fun hHeld => ?_)
            refine pure_ (i := 0) (N := some 142) (v := ?_) (a' := ?_) #[true, false, false, false, false, false, false, false, false, false, false] rfl rfl (by kernel_rfl) (fun _ _ _ h => h) (Or.inl ⟨by rfl, ?_⟩) ?_ ?_
            rotate_left
            · intro w'
              go_simp
              with_reducible rfl
            rotate_left
            · simp only [Act.put, List.setIfInBounds_toArray, List.set_cons_zero, List.set_cons_succ, i64_w, i32_w]
              rfl
            refine pure_ (i := 2) (N := some 144) (v := ?_) (a' := ?_) #[true, false, true, false, false, false, false, false, false, false, false] rfl rfl (by kernel_rfl) (fun _ _ _ h => h) (Or.inl ⟨by rfl, ?_⟩) ?_ ?_
            rotate_left
            · intro w'
              go_simp
              with_reducible rfl
            rotate_left
            · simp only [Act.put, List.setIfInBounds_toArray, List.set_cons_zero, List.set_cons_succ, i64_w, i32_w]
              rfl
            refine pure_ (i := 5) (N := some 147) (v := ?_) (a' := ?_) #[true, false, true, false, false, true, false, false, false, false, false] rfl rfl (by kernel_rfl) (fun _ _ _ h => h) (Or.inl ⟨by rfl, ?_⟩) ?_ ?_
            rotate_left
            · intro w'
              go_simp
              with_reducible rfl
            rotate_left
            · simp only [Act.put, List.setIfInBounds_toArray, List.set_cons_zero, List.set_cons_succ, i64_w, i32_w]
              rfl
            refine pure_ (i := 7) (N := some 149) (v := ?_) (a' := ?_) #[true, false, true, false, false, true, false, true, false, false, false] rfl rfl (by kernel_rfl) (fun _ _ _ h => h) (Or.inl ⟨by rfl, ?_⟩) ?_ ?_
            rotate_left
            · intro w'
              go_simp
              with_reducible rfl
            rotate_left
            · simp only [Act.put, List.setIfInBounds_toArray, List.set_cons_zero, List.set_cons_succ, i64_w, i32_w]
              rfl
            refine take_ (i := 1) (N := some 143) (v := ?_) (a' := ?_) #[true, true, true, false, false, true, false, true, false, false, false] rfl rfl (by kernel_rfl) (fun _ _ _ h => h) (Or.inl ⟨by rfl, ?_⟩) hHeld ?_ ?_
            rotate_left
            · rintro w' ⟨s0, s1, s2, s3⟩
              go_simp
              with_reducible rfl
            rotate_left
            · simp only [Act.put, List.setIfInBounds_toArray, List.set_cons_zero, List.set_cons_succ, i64_w, i32_w]
              rfl
            refine pure_ (i := 3) (N := some 145) (v := ?_) (a' := ?_) #[true, true, true, true, false, true, false, true, false, false, false] rfl rfl (by kernel_rfl) (fun _ _ _ h => h) (Or.inl ⟨by rfl, ?_⟩) ?_ ?_
            rotate_left
            · intro w'
              go_simp
              with_reducible rfl
            rotate_left
            · simp only [Act.put, List.setIfInBounds_toArray, List.set_cons_zero, List.set_cons_succ, i64_w, i32_w]
              rfl
            refine take_ (i := 4) (N := some 146) (v := ?_) (a' := ?_) #[true, true, true, true, true, true, false, true, false, false, false] rfl rfl (by kernel_rfl) (fun _ _ _ h => h) (Or.inl ⟨by rfl, ?_⟩) hHeld ?_ ?_
            rotate_left
            · rintro w' ⟨s0, s1, s2, s3⟩
              go_simp
              with_reducible rfl
            rotate_left
            · simp only [Act.put, List.setIfInBounds_toArray, List.set_cons_zero, List.set_cons_succ, i64_w, i32_w]
              rfl
            refine take_ (i := 6) (N := some 148) (v := ?_) (a' := ?_) #[true, true, true, true, true, true, true, true, false, false, false] rfl rfl (by kernel_rfl) (fun _ _ _ h => h) (Or.inl ⟨by rfl, ?_⟩) hHeld ?_ ?_
            rotate_left
            · rintro w' ⟨s0, s1, s2, s3⟩
              go_simp
              with_reducible rfl
            rotate_left
            · simp only [Act.put, List.setIfInBounds_toArray, List.set_cons_zero, List.set_cons_succ, i64_w, i32_w]
              rfl
            refine pure_ (i := 8) (N := some 150) (v := ?_) (a' := ?_) #[true, true, true, true, true, true, true, true, true, false, false] rfl rfl (by kernel_rfl) (fun _ _ _ h => h) (Or.inl ⟨by rfl, ?_⟩) ?_ ?_
            rotate_left
            · intro w'
              go_simp
              with_reducible rfl
            rotate_left
            · simp only [Act.put, List.setIfInBounds_toArray, List.set_cons_zero, List.set_cons_succ, i64_w, i32_w]
              rfl
            refine take_ (i := 9) (N := some 151) (v := ?_) (a' := ?_) #[true, true, true, true, true, true, true, true, true, true, false] rfl rfl (by kernel_rfl) (fun _ _ _ h => h) (Or.inl ⟨by rfl, ?_⟩) hHeld ?_ ?_
            rotate_left
            · rintro w' ⟨s0, s1, s2, s3⟩
              go_simp
              with_reducible rfl
            rotate_left
            · simp only [Act.put, List.setIfInBounds_toArray, List.set_cons_zero, List.set_cons_succ, i64_w, i32_w]
              rfl
            refine pure_ (i := 10) (N := some 152) (v := ?_) (a' := ?_) #[true, true, true, true, true, true, true, true, true, true, true] rfl rfl (by kernel_rfl) (fun _ _ _ h => h) (Or.inl ⟨by rfl, ?_⟩) ?_ ?_
            rotate_left
            · intro w'
              go_simp
              with_reducible rfl
            rotate_left
            · simp only [Act.put, List.setIfInBounds_toArray, List.set_cons_zero, List.set_cons_succ, i64_w, i32_w]
              rfl
            refine done_ (by kernel_rfl) ?_

            go_wp2_with fail
            go_roundg ko
            case rel => exact ⟨i + 1, rfl, by rw [hw], ⟨by have := HJ.out; omega⟩, ⟨below_drew HW.out⟩⟩
            case measure => exact Nat.lt_succ_self _
          · have t1 : decide (i < (q7.length : Int)) = false := decide_eq_false hi
            clear hi
            have za0 : wr.cell? ⟨gU, 0, none⟩ = some (.int .i64 c0) := (blk_cell GV.out 0).trans rfl
            have za1 : wr.cell? ⟨gU, 1, none⟩ = some (.int .i64 c1) := (blk_cell GV.out 1).trans rfl
            have za2 : wr.cell? ⟨gU, 2, none⟩ = some (.int .i64 c2) := (blk_cell GV.out 2).trans rfl
            have za3 : wr.cell? ⟨gU, 3, none⟩ = some (.int .i64 c3) := (blk_cell GV.out 3).trans rfl
            have za4 : wr.cell? ⟨gU, 4, none⟩ = some (.int .i64 c4) := (blk_cell GV.out 4).trans rfl
            have za5 : wr.cell? ⟨gU, 5, none⟩ = some (.slice E5 r6.length i5) := (blk_cell GV.out 5).trans rfl
            have za6 : wr.cell? ⟨gU, 6, none⟩ = some (.slice E6 q7.length i6) := (blk_cell GV.out 6).trans rfl
            have zb0 : wr.cell? ⟨gS, 0, none⟩ = some (.int .i64 c0) := (blk_cell GT.out 0).trans rfl
            have zb1 : wr.cell? ⟨gS, 1, none⟩ = some (.int .i64 c1) := (blk_cell GT.out 1).trans rfl
            have zb2 : wr.cell? ⟨gS, 2, none⟩ = some (.int .i64 c2) := (blk_cell GT.out 2).trans rfl
            have zb3 : wr.cell? ⟨gS, 3, none⟩ = some (.int .i64 c3) := (blk_cell GT.out 3).trans rfl
            have zb4 : wr.cell? ⟨gS, 4, none⟩ = some (.int .i64 c4) := (blk_cell GT.out 4).trans rfl
            have zb5 : wr.cell? ⟨gS, 5, none⟩ = some (.slice A5 r6.length c5) := (blk_cell GT.out 5).trans rfl
            have zb6 : wr.cell? ⟨gS, 6, none⟩ = some (.slice A6 r7.length c6) := (blk_cell GT.out 6).trans rfl
            have hfz := blk_frozen GV.out 6
            go_wp2_with fail
            refine (same_T c0 c1 c2 c3 c4 E5 i5 r6 A6 c6 r7 c0 c1 c2 c3 c4 A5 c5 r6 A6 c6 r7 _ (Kd.S_reads' (Kd.S_set (Kd.S_below U5.out HW.out) GV.out (fun q hq => (ops_types q hq).2) 6 _)).2.2 (Kd.R_reads' (Kd.R_set (Kd.R_below T6.out HW.out) GV.out int_types 6 _)).2.2 Y6.out (Kd.S_reads' (Kd.S_set (Kd.S_below T5.out HW.out) GV.out (fun q hq => (ops_types q hq).2) 6 _)).2.2 (Kd.R_reads' (Kd.R_set (Kd.R_below T6.out HW.out) GV.out int_types 6 _)).2.2 Y6.out).mono ?_
            rintro e w6 ⟨rfl, B6⟩
            go_wp2_with fail
            go_ret
            exact ⟨by simp, below_step (below_set (below_step D5.out HW.out) NU.out) B6⟩
end Go.Proofs.Ytcphmelmieedfaa.PMintCan

