/-
Net; a tally in the document's form.
-/
import Derived.Deep.MidRow
import Derived.Test.YtcncndhoeiaoeaaDoorTalB
namespace Go.Proofs.YtcncndhoeiaoeaaDoor.PTallyExact
open Go Go.RowKit Go.Proofs.YtcncndhoeiaoeaaDoorW.PrintWords Go.Proofs.YtcncndhoeiaoeaaDoorW.PrintLast Go.Proofs.YtcncndhoeiaoeaaDoorW.PrintMore
attribute [local go_sem] max2_int min2_int max_two min_two max_three min_three max_four min_four
set_option linter.unusedVariables false
set_option linter.unusedSimpArgs false
theorem info56 (l : List Int) (h : l.length = 64) : (Tryd.prog.info? 56).map (·.size) = some (TV l).size := by rw [TV_size, h]; kernel_rfl
theorem tot56 (l : List Int) (h : l.length = 64) : (Tryd.prog.info? 56).map (·.size) = some (TV l).toList.length := by rw [Array.length_toList, TV_size, h]; kernel_rfl
def seven (l : List Int) (o : Nat) : List Int := (List.range 7).map (fun j => l.getD (o + j) 0)
theorem seven_x (l : List Int) (o : Nat) : ∃ x0 x1 x2 x3 x4 x5 x6, seven l o = [x0, x1, x2, x3, x4, x5, x6] := ⟨_, _, _, _, _, _, _, rfl⟩
theorem seven_take {l : List Int} {o : Nat} (h : o + 7 ≤ l.length) : l.take (o + 7) = l.take o ++ seven l o := by
  rw [List.take_add]
  congr 1
  apply List.ext_getElem
  · simp [seven]; omega
  · intro j h1 h2
    simp [seven, List.getD_eq_getElem?_getD] at h1 h2 ⊢
    rw [List.getElem?_eq_getElem (by omega)]
    rfl
theorem seven_range {W : World} {g e o : Nat} {l : List Int} (hh : W.heap[g]? = some (.cells (TV l) e (0, 0))) (h : o + 7 ≤ l.length) : W.rangeAt g o ((seven l o).map (fun x => Value.int .i64 x)) := by
  intro j v hv
  rw [List.getElem?_map] at hv
  obtain ⟨x, hx, rfl⟩ := Option.map_eq_some_iff.1 hv
  obtain ⟨hlt, e1⟩ := List.getElem?_eq_some_iff.1 hx
  have hj : j < 7 := by simpa [seven] using hlt
  rw [blk_cell hh, TV_get l (o + j) (by omega), ← e1]
  simp [seven]
def formN (l : List Int) (k : Nat) : List Int := l.take (1 + k * 7) ++ List.replicate (63 - k * 7) 0
theorem formN_len {l : List Int} (hl : l.length = 64) (k : Nat) (hk : k ≤ 9) : (formN l k).length = 64 := by simp [formN, hl]; omega
theorem formN_9 {l : List Int} (hl : l.length = 64) : formN l 9 = l := by unfold formN; rw [List.take_of_length_le (by omega)]; simp
theorem formN_step {l : List Int} (hl : l.length = 64) (k : Nat) (hk : k < 9) : (formN l k).take (1 + k * 7) ++ seven l (1 + k * 7) ++ (formN l k).drop (1 + k * 7 + 7) = formN l (k + 1) := by
  have h1 : (l.take (1 + k * 7)).length = 1 + k * 7 := by rw [List.length_take]; omega
  have h2 := seven_take (l := l) (o := 1 + k * 7) (by omega)
  unfold formN
  rw [List.take_append_of_le_length (by omega), List.take_of_length_le (by omega), List.drop_append, List.drop_eq_nil_of_le (by omega), List.nil_append, List.drop_replicate, h1,
    show 1 + (k + 1) * 7 = 1 + k * 7 + 7 by omega, h2, show 63 - k * 7 - (1 + k * 7 + 7 - (1 + k * 7)) = 63 - (k + 1) * 7 by omega]
theorem store_seven {P : Program} {ops : Array Oper} {rest : List Oper} {o : Oper} {a : Act} {Q : Exit → Act → World → Prop} {w W : World} (hN : o.dst = none) (hgd : o.guard = none) (t : TypeId) (p x : Operand) (ho : o.op = .store t p x) {g e off : Nat} (m vs : List Int) (haddr : a.eval p = .pointer (some ⟨g, off, none⟩)) (u : Value) (hx : a.eval x = u)
    (hu : u.cells.toList = (TV vs).toList) (ht : (P.info? t).map (·.size) = some vs.length) (hh : W.heap[g]? = some (.cells (TV m) e (0, 0))) (hf : off + vs.length ≤ m.length) (hg : w.heap.size ≤ g) (HB : Below w.heap.size w W)
    (h : ∀ w1, w1.heap[g]? = some (.cells (TV (m.take off ++ vs ++ m.drop (off + vs.length))) e (0, 0)) → Below w.heap.size w w1 → (∀ k, k ≠ g → w1.heap[k]? = W.heap[k]?) → wpList P ops Q rest a w1) : wpList P ops Q (o :: rest) a W := by
  have hlen : (TV vs).toList.length = vs.length := by rw [Array.length_toList, TV_size]
  have hrun : (Instr.storeAt t (.pointer (some ⟨g, off, none⟩)) u).run P W = .ok () (W.setCells g off (TV vs).toList) := run_store_run t u (TV vs).toList hh hu (by rw [hlen]; exact ht) (by rw [hlen, TV_size]; exact hf) (TV_one vs)
  obtain ⟨cur', hc1, hc2, hc3⟩ := setCells_row (TV vs).toList off W (TV m) hh (by rw [hlen, TV_size]; exact hf)
  have hcc : cur' = TV (m.take off ++ vs ++ m.drop (off + vs.length)) := by
    apply Array.ext'
    rw [hc3, hlen]
    simp [TV, List.map_take, List.map_drop]
  rw [hcc] at hc1
  obtain ⟨s1, s2, s3, s4⟩ := setCells_same g (TV vs).toList off W
  have hB : Below w.heap.size w (W.setCells g off (TV vs).toList) := HB.trans ⟨s1, s2, s3, by omega, fun k hk => setCells_far (TV vs).toList off k (by omega)⟩
  refine wpList_plain hgd fun K hK => ?_
  unfold Oper.wp execOp
  simp only [ho, haddr, hx, Sem.run_bind, Sem.run_pure, Result.andThen_ok, hrun]
  show K (a.put o.dst undef) _
  rw [hN]
  exact hK a _ (h _ hc1 hB (fun k hk => setCells_far (TV vs).toList off k hk))
/-- How many keys came, less how many went. -/
def netV (l : List Int) : Int := wrap64 (wrap64 (wrap64 (wrap64 (l.getD 11 0 + l.getD 39 0) + l.getD 33 0) - l.getD 18 0) - l.getD 46 0)
set_option maxHeartbeats 4000000 in
set_option maxRecDepth 100000 in
theorem net_T (l : List Int) (w : World) (hl : l.length = 64) : Calls Tryd.prog 32 #[.agg (TV l)] w fun e w' => e = .returned (.int .i64 (netV l)) ∧ Below w.heap.size w w' := by
  have hu51 := Tryd.underlying51
  have hu49 := Tryd.underlying49
  have hu48 := Tryd.underlying48
  have g11 := TV_get l 11 (by omega)
  obtain ⟨x11, e11⟩ : ∃ x, l.getD 11 0 = x := ⟨_, rfl⟩
  rw [e11] at g11
  have g39 := TV_get l 39 (by omega)
  obtain ⟨x39, e39⟩ : ∃ x, l.getD 39 0 = x := ⟨_, rfl⟩
  rw [e39] at g39
  have g33 := TV_get l 33 (by omega)
  obtain ⟨x33, e33⟩ : ∃ x, l.getD 33 0 = x := ⟨_, rfl⟩
  rw [e33] at g33
  have g18 := TV_get l 18 (by omega)
  obtain ⟨x18, e18⟩ : ∃ x, l.getD 18 0 = x := ⟨_, rfl⟩
  rw [e18] at g18
  have g46 := TV_get l 46 (by omega)
  obtain ⟨x46, e46⟩ : ∃ x, l.getD 46 0 = x := ⟨_, rfl⟩
  rw [e46] at g46
  rw [show netV l = wrap64 (wrap64 (wrap64 (wrap64 (x11 + x39) + x33) - x18) - x46) from by unfold netV; rw [e11, e39, e33, e18, e46]]
  clear e11 e39 e33 e18 e46
  have L_A := Aside0.mk (show w.heap.size ≤ w.heap.size from Nat.le_refl _)
  have A_1 := Aside0.mk (blk_new (w) (.cells (TV l) 51))
  have B2 := Aside0.mk (below_alloc (Below.refl w.heap.size w) (.cells (TV l) 51))
  go_enter Tryd.func32, Tryd.ntmps32
  go_wp2_with fail
  refine start_ (n := 30) (S := fun w' => w'.cell? ⟨w.heap.size, 11, none⟩ = some (.int .i64 x11) ∧ w'.cell? ⟨w.heap.size, 39, none⟩ = some (.int .i64 x39) ∧ w'.cell? ⟨w.heap.size, 33, none⟩ = some (.int .i64 x33) ∧ w'.cell? ⟨w.heap.size, 18, none⟩ = some (.int .i64 x18) ∧ w'.cell? ⟨w.heap.size, 46, none⟩ = some (.int .i64 x46)) (ds := []) #[false, false, false, false, false, false, false, false, false, false, false, false, false, false, false, false, false, false, false, false, false, false, false, false, false, false, false, false, false, false] (by kernel_rfl) rfl rfl ⟨(blk_cell (blk_drew A_1.out) 11).trans g11, (blk_cell (blk_drew A_1.out) 39).trans g39, (blk_cell (blk_drew A_1.out) 33).trans g33, (blk_cell (blk_drew A_1.out) 18).trans g18, (blk_cell (blk_drew A_1.out) 46).trans g46⟩ (fun hHeld => ?_)
  refine pure_ (i := 0) (N := some 5) (v := ?_) (a' := ?_) #[true, false, false, false, false, false, false, false, false, false, false, false, false, false, false, false, false, false, false, false, false, false, false, false, false, false, false, false, false, false] rfl rfl (by kernel_rfl) (fun _ _ _ h => h) (Or.inl ⟨by rfl, ?_⟩) ?_ ?_
  rotate_left
  · intro w'
    go_simp
    with_reducible rfl
  rotate_left
  · simp only [Act.put, List.setIfInBounds_toArray, List.set_cons_zero, List.set_cons_succ, i64_w, i32_w]
    rfl
  refine pure_ (i := 1) (N := some 6) (v := ?_) (a' := ?_) #[true, true, false, false, false, false, false, false, false, false, false, false, false, false, false, false, false, false, false, false, false, false, false, false, false, false, false, false, false, false] rfl rfl (by kernel_rfl) (fun _ _ _ h => h) (Or.inl ⟨by rfl, ?_⟩) ?_ ?_
  rotate_left
  · intro w'
    go_simp
    with_reducible rfl
  rotate_left
  · simp only [Act.put, List.setIfInBounds_toArray, List.set_cons_zero, List.set_cons_succ, i64_w, i32_w]
    rfl
  refine pure_ (i := 2) (N := some 7) (v := ?_) (a' := ?_) #[true, true, true, false, false, false, false, false, false, false, false, false, false, false, false, false, false, false, false, false, false, false, false, false, false, false, false, false, false, false] rfl rfl (by kernel_rfl) (fun _ _ _ h => h) (Or.inl ⟨by rfl, ?_⟩) ?_ ?_
  rotate_left
  · intro w'
    go_simp
    with_reducible rfl
  rotate_left
  · simp only [Act.put, List.setIfInBounds_toArray, List.set_cons_zero, List.set_cons_succ, i64_w, i32_w]
    rfl
  refine pure_ (i := 3) (N := some 8) (v := ?_) (a' := ?_) #[true, true, true, true, false, false, false, false, false, false, false, false, false, false, false, false, false, false, false, false, false, false, false, false, false, false, false, false, false, false] rfl rfl (by kernel_rfl) (fun _ _ _ h => h) (Or.inl ⟨by rfl, ?_⟩) ?_ ?_
  rotate_left
  · intro w'
    go_simp
    with_reducible rfl
  rotate_left
  · simp only [Act.put, List.setIfInBounds_toArray, List.set_cons_zero, List.set_cons_succ, i64_w, i32_w]
    rfl
  refine pure_ (i := 5) (N := some 10) (v := ?_) (a' := ?_) #[true, true, true, true, false, true, false, false, false, false, false, false, false, false, false, false, false, false, false, false, false, false, false, false, false, false, false, false, false, false] rfl rfl (by kernel_rfl) (fun _ _ _ h => h) (Or.inl ⟨by rfl, ?_⟩) ?_ ?_
  rotate_left
  · intro w'
    go_simp
    with_reducible rfl
  rotate_left
  · simp only [Act.put, List.setIfInBounds_toArray, List.set_cons_zero, List.set_cons_succ, i64_w, i32_w]
    rfl
  refine pure_ (i := 6) (N := some 11) (v := ?_) (a' := ?_) #[true, true, true, true, false, true, true, false, false, false, false, false, false, false, false, false, false, false, false, false, false, false, false, false, false, false, false, false, false, false] rfl rfl (by kernel_rfl) (fun _ _ _ h => h) (Or.inl ⟨by rfl, ?_⟩) ?_ ?_
  rotate_left
  · intro w'
    go_simp
    with_reducible rfl
  rotate_left
  · simp only [Act.put, List.setIfInBounds_toArray, List.set_cons_zero, List.set_cons_succ, i64_w, i32_w]
    rfl
  refine pure_ (i := 7) (N := some 12) (v := ?_) (a' := ?_) #[true, true, true, true, false, true, true, true, false, false, false, false, false, false, false, false, false, false, false, false, false, false, false, false, false, false, false, false, false, false] rfl rfl (by kernel_rfl) (fun _ _ _ h => h) (Or.inl ⟨by rfl, ?_⟩) ?_ ?_
  rotate_left
  · intro w'
    go_simp
    with_reducible rfl
  rotate_left
  · simp only [Act.put, List.setIfInBounds_toArray, List.set_cons_zero, List.set_cons_succ, i64_w, i32_w]
    rfl
  refine pure_ (i := 8) (N := some 13) (v := ?_) (a' := ?_) #[true, true, true, true, false, true, true, true, true, false, false, false, false, false, false, false, false, false, false, false, false, false, false, false, false, false, false, false, false, false] rfl rfl (by kernel_rfl) (fun _ _ _ h => h) (Or.inl ⟨by rfl, ?_⟩) ?_ ?_
  rotate_left
  · intro w'
    go_simp
    with_reducible rfl
  rotate_left
  · simp only [Act.put, List.setIfInBounds_toArray, List.set_cons_zero, List.set_cons_succ, i64_w, i32_w]
    rfl
  refine pure_ (i := 11) (N := some 16) (v := ?_) (a' := ?_) #[true, true, true, true, false, true, true, true, true, false, false, true, false, false, false, false, false, false, false, false, false, false, false, false, false, false, false, false, false, false] rfl rfl (by kernel_rfl) (fun _ _ _ h => h) (Or.inl ⟨by rfl, ?_⟩) ?_ ?_
  rotate_left
  · intro w'
    go_simp
    with_reducible rfl
  rotate_left
  · simp only [Act.put, List.setIfInBounds_toArray, List.set_cons_zero, List.set_cons_succ, i64_w, i32_w]
    rfl
  refine pure_ (i := 12) (N := some 17) (v := ?_) (a' := ?_) #[true, true, true, true, false, true, true, true, true, false, false, true, true, false, false, false, false, false, false, false, false, false, false, false, false, false, false, false, false, false] rfl rfl (by kernel_rfl) (fun _ _ _ h => h) (Or.inl ⟨by rfl, ?_⟩) ?_ ?_
  rotate_left
  · intro w'
    go_simp
    with_reducible rfl
  rotate_left
  · simp only [Act.put, List.setIfInBounds_toArray, List.set_cons_zero, List.set_cons_succ, i64_w, i32_w]
    rfl
  refine pure_ (i := 13) (N := some 18) (v := ?_) (a' := ?_) #[true, true, true, true, false, true, true, true, true, false, false, true, true, true, false, false, false, false, false, false, false, false, false, false, false, false, false, false, false, false] rfl rfl (by kernel_rfl) (fun _ _ _ h => h) (Or.inl ⟨by rfl, ?_⟩) ?_ ?_
  rotate_left
  · intro w'
    go_simp
    with_reducible rfl
  rotate_left
  · simp only [Act.put, List.setIfInBounds_toArray, List.set_cons_zero, List.set_cons_succ, i64_w, i32_w]
    rfl
  refine pure_ (i := 14) (N := some 19) (v := ?_) (a' := ?_) #[true, true, true, true, false, true, true, true, true, false, false, true, true, true, true, false, false, false, false, false, false, false, false, false, false, false, false, false, false, false] rfl rfl (by kernel_rfl) (fun _ _ _ h => h) (Or.inl ⟨by rfl, ?_⟩) ?_ ?_
  rotate_left
  · intro w'
    go_simp
    with_reducible rfl
  rotate_left
  · simp only [Act.put, List.setIfInBounds_toArray, List.set_cons_zero, List.set_cons_succ, i64_w, i32_w]
    rfl
  refine pure_ (i := 17) (N := some 22) (v := ?_) (a' := ?_) #[true, true, true, true, false, true, true, true, true, false, false, true, true, true, true, false, false, true, false, false, false, false, false, false, false, false, false, false, false, false] rfl rfl (by kernel_rfl) (fun _ _ _ h => h) (Or.inl ⟨by rfl, ?_⟩) ?_ ?_
  rotate_left
  · intro w'
    go_simp
    with_reducible rfl
  rotate_left
  · simp only [Act.put, List.setIfInBounds_toArray, List.set_cons_zero, List.set_cons_succ, i64_w, i32_w]
    rfl
  refine pure_ (i := 18) (N := some 23) (v := ?_) (a' := ?_) #[true, true, true, true, false, true, true, true, true, false, false, true, true, true, true, false, false, true, true, false, false, false, false, false, false, false, false, false, false, false] rfl rfl (by kernel_rfl) (fun _ _ _ h => h) (Or.inl ⟨by rfl, ?_⟩) ?_ ?_
  rotate_left
  · intro w'
    go_simp
    with_reducible rfl
  rotate_left
  · simp only [Act.put, List.setIfInBounds_toArray, List.set_cons_zero, List.set_cons_succ, i64_w, i32_w]
    rfl
  refine pure_ (i := 19) (N := some 24) (v := ?_) (a' := ?_) #[true, true, true, true, false, true, true, true, true, false, false, true, true, true, true, false, false, true, true, true, false, false, false, false, false, false, false, false, false, false] rfl rfl (by kernel_rfl) (fun _ _ _ h => h) (Or.inl ⟨by rfl, ?_⟩) ?_ ?_
  rotate_left
  · intro w'
    go_simp
    with_reducible rfl
  rotate_left
  · simp only [Act.put, List.setIfInBounds_toArray, List.set_cons_zero, List.set_cons_succ, i64_w, i32_w]
    rfl
  refine pure_ (i := 20) (N := some 25) (v := ?_) (a' := ?_) #[true, true, true, true, false, true, true, true, true, false, false, true, true, true, true, false, false, true, true, true, true, false, false, false, false, false, false, false, false, false] rfl rfl (by kernel_rfl) (fun _ _ _ h => h) (Or.inl ⟨by rfl, ?_⟩) ?_ ?_
  rotate_left
  · intro w'
    go_simp
    with_reducible rfl
  rotate_left
  · simp only [Act.put, List.setIfInBounds_toArray, List.set_cons_zero, List.set_cons_succ, i64_w, i32_w]
    rfl
  refine pure_ (i := 23) (N := some 28) (v := ?_) (a' := ?_) #[true, true, true, true, false, true, true, true, true, false, false, true, true, true, true, false, false, true, true, true, true, false, false, true, false, false, false, false, false, false] rfl rfl (by kernel_rfl) (fun _ _ _ h => h) (Or.inl ⟨by rfl, ?_⟩) ?_ ?_
  rotate_left
  · intro w'
    go_simp
    with_reducible rfl
  rotate_left
  · simp only [Act.put, List.setIfInBounds_toArray, List.set_cons_zero, List.set_cons_succ, i64_w, i32_w]
    rfl
  refine pure_ (i := 24) (N := some 29) (v := ?_) (a' := ?_) #[true, true, true, true, false, true, true, true, true, false, false, true, true, true, true, false, false, true, true, true, true, false, false, true, true, false, false, false, false, false] rfl rfl (by kernel_rfl) (fun _ _ _ h => h) (Or.inl ⟨by rfl, ?_⟩) ?_ ?_
  rotate_left
  · intro w'
    go_simp
    with_reducible rfl
  rotate_left
  · simp only [Act.put, List.setIfInBounds_toArray, List.set_cons_zero, List.set_cons_succ, i64_w, i32_w]
    rfl
  refine pure_ (i := 25) (N := some 30) (v := ?_) (a' := ?_) #[true, true, true, true, false, true, true, true, true, false, false, true, true, true, true, false, false, true, true, true, true, false, false, true, true, true, false, false, false, false] rfl rfl (by kernel_rfl) (fun _ _ _ h => h) (Or.inl ⟨by rfl, ?_⟩) ?_ ?_
  rotate_left
  · intro w'
    go_simp
    with_reducible rfl
  rotate_left
  · simp only [Act.put, List.setIfInBounds_toArray, List.set_cons_zero, List.set_cons_succ, i64_w, i32_w]
    rfl
  refine pure_ (i := 26) (N := some 31) (v := ?_) (a' := ?_) #[true, true, true, true, false, true, true, true, true, false, false, true, true, true, true, false, false, true, true, true, true, false, false, true, true, true, true, false, false, false] rfl rfl (by kernel_rfl) (fun _ _ _ h => h) (Or.inl ⟨by rfl, ?_⟩) ?_ ?_
  rotate_left
  · intro w'
    go_simp
    with_reducible rfl
  rotate_left
  · simp only [Act.put, List.setIfInBounds_toArray, List.set_cons_zero, List.set_cons_succ, i64_w, i32_w]
    rfl
  refine take_ (i := 4) (N := some 9) (v := ?_) (a' := ?_) #[true, true, true, true, true, true, true, true, true, false, false, true, true, true, true, false, false, true, true, true, true, false, false, true, true, true, true, false, false, false] rfl rfl (by kernel_rfl) (fun _ _ _ h => h) (Or.inl ⟨by rfl, ?_⟩) hHeld ?_ ?_
  rotate_left
  · rintro w' ⟨s0, s1, s2, s3, s4⟩
    go_simp
    with_reducible rfl
  rotate_left
  · simp only [Act.put, List.setIfInBounds_toArray, List.set_cons_zero, List.set_cons_succ, i64_w, i32_w]
    rfl
  refine take_ (i := 9) (N := some 14) (v := ?_) (a' := ?_) #[true, true, true, true, true, true, true, true, true, true, false, true, true, true, true, false, false, true, true, true, true, false, false, true, true, true, true, false, false, false] rfl rfl (by kernel_rfl) (fun _ _ _ h => h) (Or.inl ⟨by rfl, ?_⟩) hHeld ?_ ?_
  rotate_left
  · rintro w' ⟨s0, s1, s2, s3, s4⟩
    go_simp
    with_reducible rfl
  rotate_left
  · simp only [Act.put, List.setIfInBounds_toArray, List.set_cons_zero, List.set_cons_succ, i64_w, i32_w]
    rfl
  refine pure_ (i := 10) (N := some 15) (v := ?_) (a' := ?_) #[true, true, true, true, true, true, true, true, true, true, true, true, true, true, true, false, false, true, true, true, true, false, false, true, true, true, true, false, false, false] rfl rfl (by kernel_rfl) (fun _ _ _ h => h) (Or.inl ⟨by rfl, ?_⟩) ?_ ?_
  rotate_left
  · intro w'
    go_simp
    with_reducible rfl
  rotate_left
  · simp only [Act.put, List.setIfInBounds_toArray, List.set_cons_zero, List.set_cons_succ, i64_w, i32_w]
    rfl
  refine take_ (i := 15) (N := some 20) (v := ?_) (a' := ?_) #[true, true, true, true, true, true, true, true, true, true, true, true, true, true, true, true, false, true, true, true, true, false, false, true, true, true, true, false, false, false] rfl rfl (by kernel_rfl) (fun _ _ _ h => h) (Or.inl ⟨by rfl, ?_⟩) hHeld ?_ ?_
  rotate_left
  · rintro w' ⟨s0, s1, s2, s3, s4⟩
    go_simp
    with_reducible rfl
  rotate_left
  · simp only [Act.put, List.setIfInBounds_toArray, List.set_cons_zero, List.set_cons_succ, i64_w, i32_w]
    rfl
  refine pure_ (i := 16) (N := some 21) (v := ?_) (a' := ?_) #[true, true, true, true, true, true, true, true, true, true, true, true, true, true, true, true, true, true, true, true, true, false, false, true, true, true, true, false, false, false] rfl rfl (by kernel_rfl) (fun _ _ _ h => h) (Or.inl ⟨by rfl, ?_⟩) ?_ ?_
  rotate_left
  · intro w'
    go_simp
    with_reducible rfl
  rotate_left
  · simp only [Act.put, List.setIfInBounds_toArray, List.set_cons_zero, List.set_cons_succ, i64_w, i32_w]
    rfl
  refine take_ (i := 21) (N := some 26) (v := ?_) (a' := ?_) #[true, true, true, true, true, true, true, true, true, true, true, true, true, true, true, true, true, true, true, true, true, true, false, true, true, true, true, false, false, false] rfl rfl (by kernel_rfl) (fun _ _ _ h => h) (Or.inl ⟨by rfl, ?_⟩) hHeld ?_ ?_
  rotate_left
  · rintro w' ⟨s0, s1, s2, s3, s4⟩
    go_simp
    with_reducible rfl
  rotate_left
  · simp only [Act.put, List.setIfInBounds_toArray, List.set_cons_zero, List.set_cons_succ, i64_w, i32_w]
    rfl
  refine pure_ (i := 22) (N := some 27) (v := ?_) (a' := ?_) #[true, true, true, true, true, true, true, true, true, true, true, true, true, true, true, true, true, true, true, true, true, true, true, true, true, true, true, false, false, false] rfl rfl (by kernel_rfl) (fun _ _ _ h => h) (Or.inl ⟨by rfl, ?_⟩) ?_ ?_
  rotate_left
  · intro w'
    go_simp
    with_reducible rfl
  rotate_left
  · simp only [Act.put, List.setIfInBounds_toArray, List.set_cons_zero, List.set_cons_succ, i64_w, i32_w]
    rfl
  refine take_ (i := 27) (N := some 32) (v := ?_) (a' := ?_) #[true, true, true, true, true, true, true, true, true, true, true, true, true, true, true, true, true, true, true, true, true, true, true, true, true, true, true, true, false, false] rfl rfl (by kernel_rfl) (fun _ _ _ h => h) (Or.inl ⟨by rfl, ?_⟩) hHeld ?_ ?_
  rotate_left
  · rintro w' ⟨s0, s1, s2, s3, s4⟩
    go_simp
    with_reducible rfl
  rotate_left
  · simp only [Act.put, List.setIfInBounds_toArray, List.set_cons_zero, List.set_cons_succ, i64_w, i32_w]
    rfl
  refine pure_ (i := 28) (N := some 33) (v := ?_) (a' := ?_) #[true, true, true, true, true, true, true, true, true, true, true, true, true, true, true, true, true, true, true, true, true, true, true, true, true, true, true, true, true, false] rfl rfl (by kernel_rfl) (fun _ _ _ h => h) (Or.inl ⟨by rfl, ?_⟩) ?_ ?_
  rotate_left
  · intro w'
    go_simp
    with_reducible rfl
  rotate_left
  · simp only [Act.put, List.setIfInBounds_toArray, List.set_cons_zero, List.set_cons_succ, i64_w, i32_w]
    rfl
  refine pure_ (i := 29) (N := some 2) (v := ?_) (a' := ?_) #[true, true, true, true, true, true, true, true, true, true, true, true, true, true, true, true, true, true, true, true, true, true, true, true, true, true, true, true, true, true] rfl rfl (by kernel_rfl) (fun _ _ _ h => h) (Or.inl ⟨by rfl, ?_⟩) ?_ ?_
  rotate_left
  · intro w'
    go_simp
    with_reducible rfl
  rotate_left
  · simp only [Act.put, List.setIfInBounds_toArray, List.set_cons_zero, List.set_cons_succ, i64_w, i32_w]
    rfl
  refine done_ (by kernel_rfl) ?_
  go_wp2_with fail
  go_ret
  exact ⟨rfl, below_drew B2.out⟩
set_option maxHeartbeats 16000000 in
set_option maxRecDepth 100000 in
theorem form_T (l : List Int) (w : World) (hl : l.length = 64) : Calls Tryd.prog 31 #[.agg (TV l)] w fun e w' => e = .returned (.agg (TV l)) ∧ Below w.heap.size w w' := by
  have hu51 := Tryd.underlying51
  have hu49 := Tryd.underlying49
  have hu48 := Tryd.underlying48
  have hu56 := Tryd.underlying56
  have hu54 := Tryd.underlying54
  have HL := Aside0.mk hl
  have g0 := TV_get l 0 (by omega)
  have hf0 : formN l 0 = l.getD 0 0 :: List.replicate 63 0 := by
    unfold formN
    cases l with
    | nil => cases hl
    | cons x r => simp
  have HF0 := Aside0.mk hf0
  clear hf0 hl
  have L_T := Aside0.mk (show w.heap.size ≤ w.heap.size from Nat.le_refl _)
  have L_X := Aside0.mk (show w.heap.size ≤ w.heap.size + 1 from by have := L_T.out; omega)
  have NE_T_X := Aside0.mk (show w.heap.size ≠ w.heap.size + 1 by omega)
  have L_U := Aside0.mk (show w.heap.size ≤ w.heap.size + 1 + 1 from by have := L_T.out; omega)
  have NE_T_U := Aside0.mk (show w.heap.size ≠ w.heap.size + 1 + 1 by omega)
  have NE_X_U := Aside0.mk (show w.heap.size + 1 ≠ w.heap.size + 1 + 1 by omega)
  have T_1 := Aside0.mk (blk_alloc (blk_alloc (blk_new (w) (.cells (TV l) 51)) (.cells #[.int .i64 0, .int .i64 0, .int .i64 0, .int .i64 0, .int .i64 0, .int .i64 0, .int .i64 0, .int .i64 0, .int .i64 0, .int .i64 0, .int .i64 0, .int .i64 0, .int .i64 0, .int .i64 0, .int .i64 0, .int .i64 0, .int .i64 0, .int .i64 0, .int .i64 0, .int .i64 0, .int .i64 0, .int .i64 0, .int .i64 0, .int .i64 0, .int .i64 0, .int .i64 0, .int .i64 0, .int .i64 0, .int .i64 0, .int .i64 0, .int .i64 0, .int .i64 0, .int .i64 0, .int .i64 0, .int .i64 0, .int .i64 0, .int .i64 0, .int .i64 0, .int .i64 0, .int .i64 0, .int .i64 0, .int .i64 0, .int .i64 0, .int .i64 0, .int .i64 0, .int .i64 0, .int .i64 0, .int .i64 0, .int .i64 0, .int .i64 0, .int .i64 0, .int .i64 0, .int .i64 0, .int .i64 0, .int .i64 0, .int .i64 0, .int .i64 0, .int .i64 0, .int .i64 0, .int .i64 0, .int .i64 0, .int .i64 0, .int .i64 0, .int .i64 0] 56)) (.cells #[.int .i64 0, .int .i64 0, .int .i64 0, .int .i64 0, .int .i64 0, .int .i64 0, .int .i64 0, .int .i64 0, .int .i64 0, .int .i64 0, .int .i64 0, .int .i64 0, .int .i64 0, .int .i64 0, .int .i64 0, .int .i64 0, .int .i64 0, .int .i64 0, .int .i64 0, .int .i64 0, .int .i64 0, .int .i64 0, .int .i64 0, .int .i64 0, .int .i64 0, .int .i64 0, .int .i64 0, .int .i64 0, .int .i64 0, .int .i64 0, .int .i64 0, .int .i64 0, .int .i64 0, .int .i64 0, .int .i64 0, .int .i64 0, .int .i64 0, .int .i64 0, .int .i64 0, .int .i64 0, .int .i64 0, .int .i64 0, .int .i64 0, .int .i64 0, .int .i64 0, .int .i64 0, .int .i64 0, .int .i64 0, .int .i64 0, .int .i64 0, .int .i64 0, .int .i64 0, .int .i64 0, .int .i64 0, .int .i64 0, .int .i64 0, .int .i64 0, .int .i64 0, .int .i64 0, .int .i64 0, .int .i64 0, .int .i64 0, .int .i64 0, .int .i64 0] 56))
  have X_2 := Aside0.mk (blk_alloc (blk_new2 (w) (.cells (TV l) 51) (.cells #[.int .i64 0, .int .i64 0, .int .i64 0, .int .i64 0, .int .i64 0, .int .i64 0, .int .i64 0, .int .i64 0, .int .i64 0, .int .i64 0, .int .i64 0, .int .i64 0, .int .i64 0, .int .i64 0, .int .i64 0, .int .i64 0, .int .i64 0, .int .i64 0, .int .i64 0, .int .i64 0, .int .i64 0, .int .i64 0, .int .i64 0, .int .i64 0, .int .i64 0, .int .i64 0, .int .i64 0, .int .i64 0, .int .i64 0, .int .i64 0, .int .i64 0, .int .i64 0, .int .i64 0, .int .i64 0, .int .i64 0, .int .i64 0, .int .i64 0, .int .i64 0, .int .i64 0, .int .i64 0, .int .i64 0, .int .i64 0, .int .i64 0, .int .i64 0, .int .i64 0, .int .i64 0, .int .i64 0, .int .i64 0, .int .i64 0, .int .i64 0, .int .i64 0, .int .i64 0, .int .i64 0, .int .i64 0, .int .i64 0, .int .i64 0, .int .i64 0, .int .i64 0, .int .i64 0, .int .i64 0, .int .i64 0, .int .i64 0, .int .i64 0, .int .i64 0] 56)) (.cells #[.int .i64 0, .int .i64 0, .int .i64 0, .int .i64 0, .int .i64 0, .int .i64 0, .int .i64 0, .int .i64 0, .int .i64 0, .int .i64 0, .int .i64 0, .int .i64 0, .int .i64 0, .int .i64 0, .int .i64 0, .int .i64 0, .int .i64 0, .int .i64 0, .int .i64 0, .int .i64 0, .int .i64 0, .int .i64 0, .int .i64 0, .int .i64 0, .int .i64 0, .int .i64 0, .int .i64 0, .int .i64 0, .int .i64 0, .int .i64 0, .int .i64 0, .int .i64 0, .int .i64 0, .int .i64 0, .int .i64 0, .int .i64 0, .int .i64 0, .int .i64 0, .int .i64 0, .int .i64 0, .int .i64 0, .int .i64 0, .int .i64 0, .int .i64 0, .int .i64 0, .int .i64 0, .int .i64 0, .int .i64 0, .int .i64 0, .int .i64 0, .int .i64 0, .int .i64 0, .int .i64 0, .int .i64 0, .int .i64 0, .int .i64 0, .int .i64 0, .int .i64 0, .int .i64 0, .int .i64 0, .int .i64 0, .int .i64 0, .int .i64 0, .int .i64 0] 56))
  have U_3 := Aside0.mk (blk_new3 (w) (.cells (TV l) 51) (.cells #[.int .i64 0, .int .i64 0, .int .i64 0, .int .i64 0, .int .i64 0, .int .i64 0, .int .i64 0, .int .i64 0, .int .i64 0, .int .i64 0, .int .i64 0, .int .i64 0, .int .i64 0, .int .i64 0, .int .i64 0, .int .i64 0, .int .i64 0, .int .i64 0, .int .i64 0, .int .i64 0, .int .i64 0, .int .i64 0, .int .i64 0, .int .i64 0, .int .i64 0, .int .i64 0, .int .i64 0, .int .i64 0, .int .i64 0, .int .i64 0, .int .i64 0, .int .i64 0, .int .i64 0, .int .i64 0, .int .i64 0, .int .i64 0, .int .i64 0, .int .i64 0, .int .i64 0, .int .i64 0, .int .i64 0, .int .i64 0, .int .i64 0, .int .i64 0, .int .i64 0, .int .i64 0, .int .i64 0, .int .i64 0, .int .i64 0, .int .i64 0, .int .i64 0, .int .i64 0, .int .i64 0, .int .i64 0, .int .i64 0, .int .i64 0, .int .i64 0, .int .i64 0, .int .i64 0, .int .i64 0, .int .i64 0, .int .i64 0, .int .i64 0, .int .i64 0] 56) (.cells #[.int .i64 0, .int .i64 0, .int .i64 0, .int .i64 0, .int .i64 0, .int .i64 0, .int .i64 0, .int .i64 0, .int .i64 0, .int .i64 0, .int .i64 0, .int .i64 0, .int .i64 0, .int .i64 0, .int .i64 0, .int .i64 0, .int .i64 0, .int .i64 0, .int .i64 0, .int .i64 0, .int .i64 0, .int .i64 0, .int .i64 0, .int .i64 0, .int .i64 0, .int .i64 0, .int .i64 0, .int .i64 0, .int .i64 0, .int .i64 0, .int .i64 0, .int .i64 0, .int .i64 0, .int .i64 0, .int .i64 0, .int .i64 0, .int .i64 0, .int .i64 0, .int .i64 0, .int .i64 0, .int .i64 0, .int .i64 0, .int .i64 0, .int .i64 0, .int .i64 0, .int .i64 0, .int .i64 0, .int .i64 0, .int .i64 0, .int .i64 0, .int .i64 0, .int .i64 0, .int .i64 0, .int .i64 0, .int .i64 0, .int .i64 0, .int .i64 0, .int .i64 0, .int .i64 0, .int .i64 0, .int .i64 0, .int .i64 0, .int .i64 0, .int .i64 0] 56))
  have B4 := Aside0.mk (below_alloc (below_alloc (below_alloc (Below.refl w.heap.size w) (.cells (TV l) 51)) (.cells #[.int .i64 0, .int .i64 0, .int .i64 0, .int .i64 0, .int .i64 0, .int .i64 0, .int .i64 0, .int .i64 0, .int .i64 0, .int .i64 0, .int .i64 0, .int .i64 0, .int .i64 0, .int .i64 0, .int .i64 0, .int .i64 0, .int .i64 0, .int .i64 0, .int .i64 0, .int .i64 0, .int .i64 0, .int .i64 0, .int .i64 0, .int .i64 0, .int .i64 0, .int .i64 0, .int .i64 0, .int .i64 0, .int .i64 0, .int .i64 0, .int .i64 0, .int .i64 0, .int .i64 0, .int .i64 0, .int .i64 0, .int .i64 0, .int .i64 0, .int .i64 0, .int .i64 0, .int .i64 0, .int .i64 0, .int .i64 0, .int .i64 0, .int .i64 0, .int .i64 0, .int .i64 0, .int .i64 0, .int .i64 0, .int .i64 0, .int .i64 0, .int .i64 0, .int .i64 0, .int .i64 0, .int .i64 0, .int .i64 0, .int .i64 0, .int .i64 0, .int .i64 0, .int .i64 0, .int .i64 0, .int .i64 0, .int .i64 0, .int .i64 0, .int .i64 0] 56)) (.cells #[.int .i64 0, .int .i64 0, .int .i64 0, .int .i64 0, .int .i64 0, .int .i64 0, .int .i64 0, .int .i64 0, .int .i64 0, .int .i64 0, .int .i64 0, .int .i64 0, .int .i64 0, .int .i64 0, .int .i64 0, .int .i64 0, .int .i64 0, .int .i64 0, .int .i64 0, .int .i64 0, .int .i64 0, .int .i64 0, .int .i64 0, .int .i64 0, .int .i64 0, .int .i64 0, .int .i64 0, .int .i64 0, .int .i64 0, .int .i64 0, .int .i64 0, .int .i64 0, .int .i64 0, .int .i64 0, .int .i64 0, .int .i64 0, .int .i64 0, .int .i64 0, .int .i64 0, .int .i64 0, .int .i64 0, .int .i64 0, .int .i64 0, .int .i64 0, .int .i64 0, .int .i64 0, .int .i64 0, .int .i64 0, .int .i64 0, .int .i64 0, .int .i64 0, .int .i64 0, .int .i64 0, .int .i64 0, .int .i64 0, .int .i64 0, .int .i64 0, .int .i64 0, .int .i64 0, .int .i64 0, .int .i64 0, .int .i64 0, .int .i64 0, .int .i64 0] 56))
  go_enter Tryd.func31, Tryd.ntmps31
  generalize l.getD 0 0 = z at *
  go_wp2_with (first
    | ((with_reducible refine wpSt 56 (.tmp 3) (.tmp 8) ?_); refine store_whole (w := w) (B := w.heap.size) rfl rfl 56 (.tmp 3) (.tmp 8) rfl (g := w.heap.size + 1 + 1) (cs := TV (z :: List.replicate 63 0)) rfl _ rfl rfl (tot56 _ (by first | assumption | (simp [zero64]; done))) (TV_one _) U_3.out (by first | (simp [TV_size, zero64]; done) | (simp [TV_size, zero64]; omega) | (rw [TV_size, TV_size]; simp [zero64]; omega)) L_U.out B4.out ?_; intro w_5 h1 h2 h3 h4; have T_6 := Aside0.mk ((h3 _ NE_T_U.out).trans T_1.out); have X_7 := Aside0.mk ((h3 _ NE_X_U.out).trans X_2.out); have U_8 := Aside0.mk (h1); have B9 := Aside0.mk (h2); clear h1 h2 h3 h4 T_1 X_2 U_3 B4))
  go_loopg [4] 9 (fun kq v4 w' => ∃ (k : Nat), v4 = .int .i64 (k : Int) ∧ Aside0 (k + kq = 9) ∧ Aside0 (Below w.heap.size w w') ∧ Aside0 (w'.heap[w.heap.size]? = some (.cells (TV l) 51 (0, 0))) ∧ Aside0 (w'.heap[w.heap.size + 1]? = some (.cells #[.int .i64 0, .int .i64 0, .int .i64 0, .int .i64 0, .int .i64 0, .int .i64 0, .int .i64 0, .int .i64 0, .int .i64 0, .int .i64 0, .int .i64 0, .int .i64 0, .int .i64 0, .int .i64 0, .int .i64 0, .int .i64 0, .int .i64 0, .int .i64 0, .int .i64 0, .int .i64 0, .int .i64 0, .int .i64 0, .int .i64 0, .int .i64 0, .int .i64 0, .int .i64 0, .int .i64 0, .int .i64 0, .int .i64 0, .int .i64 0, .int .i64 0, .int .i64 0, .int .i64 0, .int .i64 0, .int .i64 0, .int .i64 0, .int .i64 0, .int .i64 0, .int .i64 0, .int .i64 0, .int .i64 0, .int .i64 0, .int .i64 0, .int .i64 0, .int .i64 0, .int .i64 0, .int .i64 0, .int .i64 0, .int .i64 0, .int .i64 0, .int .i64 0, .int .i64 0, .int .i64 0, .int .i64 0, .int .i64 0, .int .i64 0, .int .i64 0, .int .i64 0, .int .i64 0, .int .i64 0, .int .i64 0, .int .i64 0, .int .i64 0, .int .i64 0] 56 (0, 0))) ∧ Aside0 (w'.heap[w.heap.size + 1 + 1]? = some (.cells (TV (formN l k)) 56 (0, 0))))
  case atStart => exact ⟨0, rfl, ⟨rfl⟩, ⟨B9.out⟩, ⟨T_6.out⟩, ⟨X_7.out⟩, ⟨by rw [HF0.out]; exact U_8.out⟩⟩
  case round =>
    clear B9 T_6 X_7 U_8
    obtain ⟨k, rfl, HK, B900, T_900, X_900, U_900⟩ := hrel
    by_cases hi : k < 9
    · have d1 : decide ((k : Int) < 9) = true := decide_eq_true (by omega)
      have p0 := eq_true (show (0 : Int) ≤ (k : Int) by omega)
      have p1 := eq_true (show (k : Int) < 9 by omega)
      have p2 := eq_true hi
      have q1 := Aside0.mk hi
      have wi : wrap64 ((k : Int) + 1) = ((k + 1 : Nat) : Int) := by unfold wrap64; omega
      obtain ⟨ko, rfl⟩ : ∃ m, gk = m + 1 := ⟨gk - 1, by have := HK.out; omega⟩
      obtain ⟨x0, x1, x2, x3, x4, x5, x6, hsv⟩ := seven_x l (1 + k * 7)
      have hst := formN_step HL.out k hi
      have hrg := seven_range (o := 1 + k * 7) T_900.out (by have := HL.out; omega)
      rw [hsv] at hst hrg
      have HST := Aside0.mk hst
      have HRG := Aside0.mk hrg
      clear hst hrg hsv hi
      have L_C := Aside0.mk (show w.heap.size ≤ wr.heap.size from B900.out.size)
      have NE_T_C := Aside0.mk (show w.heap.size ≠ wr.heap.size by have := blk_lt T_900.out; omega)
      have NE_X_C := Aside0.mk (show w.heap.size + 1 ≠ wr.heap.size by have := blk_lt X_900.out; omega)
      have NE_U_C := Aside0.mk (show w.heap.size + 1 + 1 ≠ wr.heap.size by have := blk_lt U_900.out; omega)
      have T_901 := Aside0.mk (blk_alloc T_900.out (.cells #[.int .i64 0, .int .i64 0, .int .i64 0, .int .i64 0, .int .i64 0, .int .i64 0, .int .i64 0] 48))
      have X_902 := Aside0.mk (blk_alloc X_900.out (.cells #[.int .i64 0, .int .i64 0, .int .i64 0, .int .i64 0, .int .i64 0, .int .i64 0, .int .i64 0] 48))
      have U_903 := Aside0.mk (blk_alloc U_900.out (.cells #[.int .i64 0, .int .i64 0, .int .i64 0, .int .i64 0, .int .i64 0, .int .i64 0, .int .i64 0] 48))
      have C_904 := Aside0.mk (blk_new (wr) (.cells #[.int .i64 0, .int .i64 0, .int .i64 0, .int .i64 0, .int .i64 0, .int .i64 0, .int .i64 0] 48))
      have B905 := Aside0.mk (below_alloc B900.out (.cells #[.int .i64 0, .int .i64 0, .int .i64 0, .int .i64 0, .int .i64 0, .int .i64 0, .int .i64 0] 48))
      clear T_900 X_900 U_900 B900
      go_wp2_with (first
        | ((with_reducible refine wpLd 48 (.tmp 15) ?_); refine wpList_load_mid rfl 48 (.tmp 15) rfl (w.heap.size) (1 + k * 7) rfl [.int .i64 x0, .int .i64 x1, .int .i64 x2, .int .i64 x3, .int .i64 x4, .int .i64 x5, .int .i64 x6] _ HRG.out Tryd.underlying48 rfl (by kernel_rfl) ?_)
        | ((with_reducible refine wpSt 48 (.tmp 5) (.tmp 16) ?_); refine store_whole (w := w) (B := w.heap.size) rfl rfl 48 (.tmp 5) (.tmp 16) rfl (g := wr.heap.size) (cs := TV ([x0, x1, x2, x3, x4, x5, x6])) rfl _ rfl rfl (by kernel_rfl) (TV_one _) C_904.out (rfl) L_C.out B905.out ?_; intro w_906 h1 h2 h3 h4; have T_907 := Aside0.mk ((h3 _ NE_T_C.out).trans T_901.out); have X_908 := Aside0.mk ((h3 _ NE_X_C.out).trans X_902.out); have U_909 := Aside0.mk ((h3 _ NE_U_C.out).trans U_903.out); have C_910 := Aside0.mk (h1); have B911 := Aside0.mk (h2); clear h1 h2 h3 h4 T_901 X_902 U_903 C_904 B905; have c0 : w_906.cell? ⟨wr.heap.size, 0, none⟩ = some (.int .i64 x0) := (blk_cell C_910.out 0).trans rfl; have c1 : w_906.cell? ⟨wr.heap.size, 1, none⟩ = some (.int .i64 x1) := (blk_cell C_910.out 1).trans rfl; have c2 : w_906.cell? ⟨wr.heap.size, 2, none⟩ = some (.int .i64 x2) := (blk_cell C_910.out 2).trans rfl; have c3 : w_906.cell? ⟨wr.heap.size, 3, none⟩ = some (.int .i64 x3) := (blk_cell C_910.out 3).trans rfl; have c4 : w_906.cell? ⟨wr.heap.size, 4, none⟩ = some (.int .i64 x4) := (blk_cell C_910.out 4).trans rfl; have c5 : w_906.cell? ⟨wr.heap.size, 5, none⟩ = some (.int .i64 x5) := (blk_cell C_910.out 5).trans rfl; have c6 : w_906.cell? ⟨wr.heap.size, 6, none⟩ = some (.int .i64 x6) := (blk_cell C_910.out 6).trans rfl)
        | ((with_reducible refine wpSt 53 (.tmp 34) (.tmp 32) ?_); refine store_seven (w := w) rfl rfl 53 (.tmp 34) (.tmp 32) rfl (g := w.heap.size + 1 + 1) (off := 1 + k * 7) (formN l k) [x0, x1, x2, x3, x4, x5, x6] rfl _ rfl rfl (by kernel_rfl) U_909.out (by have h1 := formN_len HL.out k (by have := q1.out; omega); have := q1.out; rw [h1]; show 1 + k * 7 + 7 ≤ 64; omega) L_U.out B911.out ?_; intro wz h1 h2 h3; have T_2000 := Aside0.mk ((h3 _ NE_T_U.out).trans T_907.out); have X_2000 := Aside0.mk ((h3 _ NE_X_U.out).trans X_908.out); have U_2000 := Aside0.mk (show wz.heap[w.heap.size + 1 + 1]? = some (.cells (TV (formN l (k + 1))) 56 (0, 0)) from by have h9 := HST.out; rw [h1]; exact congrArg (fun m => some (Obj.cells (TV m) 56 (0, 0))) h9); have B2000 := Aside0.mk h2; clear h1 h2 h3))
      go_roundg ko
      case rel => exact ⟨k + 1, by first | rfl | rw [wi], ⟨by have := HK.out; omega⟩, B2000, T_2000, X_2000, U_2000⟩
      case measure => exact Nat.lt_succ_self _
    · have d1 : decide ((k : Int) < 9) = false := decide_eq_false (by omega)
      have p2 := eq_false (show ¬ k < 9 from hi)
      obtain rfl : k = 9 := by have := HK.out; omega
      have U_901 := Aside0.mk (show wr.heap[w.heap.size + 1 + 1]? = some (.cells (TV l) 56 (0, 0)) from by have := U_900.out; rw [formN_9 HL.out] at this; exact this)
      have HLN := HL.out
      clear hi HK U_900
      go_wp2_with (first
        | ((with_reducible refine wpLd 56 (.tmp 3) ?_); refine wpList_load_row_g (by rfl) 56 (.tmp 3) rfl (w.heap.size + 1 + 1) rfl 56 (TV l) (0, 0) _ U_901.out Tryd.underlying56 rfl (info56 _ (by first | assumption | (simp; done))) ?_)
        | ((with_reducible refine wpSt 56 (.tmp 2) (.tmp 35) ?_); refine store_whole (w := w) (B := w.heap.size) rfl rfl 56 (.tmp 2) (.tmp 35) rfl (g := w.heap.size + 1) (cs := TV l) rfl _ rfl rfl (tot56 _ (by first | assumption | (simp [zero64]; done))) (TV_one _) X_900.out (by first | (simp [TV_size, zero64]; done) | (simp [TV_size, zero64]; omega) | (rw [TV_size, TV_size]; simp [zero64]; omega)) L_X.out B900.out ?_; intro w_902 h1 h2 h3 h4; have T_903 := Aside0.mk ((h3 _ NE_T_X.out).trans T_900.out); have X_904 := Aside0.mk (h1); have U_905 := Aside0.mk ((h3 _ (Ne.symm NE_X_U.out)).trans U_901.out); have B906 := Aside0.mk (h2); clear h1 h2 h3 h4 T_900 X_900 U_901 B900))
      exact bodyPost_ret (results_cell_row (P := Tryd.prog) rfl _ _ (w.heap.size + 1) 56 (TV l) (0, 0) _ rfl X_904.out Tryd.underlying56 rfl (info56 _ HL.out)) rfl ⟨rfl, B906.out⟩
end Go.Proofs.YtcncndhoeiaoeaaDoor.PTallyExact

