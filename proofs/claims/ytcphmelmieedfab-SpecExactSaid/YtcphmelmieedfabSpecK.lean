/-
The reference's Do, where the state stays.
-/
import Derived.Test.YtcphmelmieedfabSpecJ
namespace Go.Proofs.Ytcphmelmieedfab.PSpecExact
open Go Go.RowKit Go.Proofs.YtcphmelmieedfabW.PrintWords Go.Proofs.YtcphmelmieedfabW.PrintLast Go.Proofs.YtcphmelmieedfabW.PrintMore
attribute [local go_sem] max2_int min2_int max_two min_two max_three min_three max_four min_four
set_option linter.unusedVariables false
set_option linter.unusedSimpArgs false
set_option maxHeartbeats 8000000 in
set_option maxRecDepth 100000 in
theorem rdo3_T (u : List S57) (A : Option Addr) (c : Nat) (k v z g : Int) (b : Bool) (K : Nat) (w : World) (hC : Kd.C k57 w A u.length u) (hc : u.length ≤ c) (hG : revenantref21_State_Get.f K u k = some (g, b)) (hl : u.length ≤ 16) :
    Calls Try.prog 10 #[.agg #[.slice A u.length c], .agg #[.int .i64 3, .int .u64 k, .int .u64 v, .int .i64 z]] w fun e w' => e = .returned (.tuple #[.agg #[.slice A u.length c], .agg #[.int .i64 0, .bool b, .int .u64 0], .int .i64 0]) ∧ Below w.heap.size w w' := by
  have hu32 := Try.underlying32
  have hu39 := Try.underlying39
  have hu35 := Try.underlying35
  have HC := Aside0.mk hC
  have HCC := Aside0.mk hc
  have HG := Aside0.mk hG
  have t1 : decide ((16 : Int) < (u.length : Int)) = false := decide_eq_false (by omega)
  have t2 := eq_false (show ¬ (16 : Int) < (u.length : Int) by omega)
  clear hC hc hG hl
  have L_U := Aside0.mk (show w.heap.size ≤ w.heap.size from Nat.le_refl _)
  have L_O := Aside0.mk (show w.heap.size ≤ w.heap.size + 1 from by have := L_U.out; omega)
  have NE_U_O := Aside0.mk (show w.heap.size ≠ w.heap.size + 1 by omega)
  have L_R := Aside0.mk (show w.heap.size ≤ w.heap.size + 1 + 1 from by have := L_U.out; omega)
  have NE_U_R := Aside0.mk (show w.heap.size ≠ w.heap.size + 1 + 1 by omega)
  have NE_O_R := Aside0.mk (show w.heap.size + 1 ≠ w.heap.size + 1 + 1 by omega)
  have L_Y := Aside0.mk (show w.heap.size ≤ w.heap.size + 1 + 1 + 1 from by have := L_U.out; omega)
  have NE_U_Y := Aside0.mk (show w.heap.size ≠ w.heap.size + 1 + 1 + 1 by omega)
  have NE_O_Y := Aside0.mk (show w.heap.size + 1 ≠ w.heap.size + 1 + 1 + 1 by omega)
  have NE_R_Y := Aside0.mk (show w.heap.size + 1 + 1 ≠ w.heap.size + 1 + 1 + 1 by omega)
  have U_1 := Aside0.mk (blk_alloc (blk_alloc (blk_alloc (blk_new (w) (.cells (#[.slice A u.length c]) 32)) (.cells (#[.int .i64 3, .int .u64 k, .int .u64 v, .int .i64 z]) 39)) (.cells #[.slice none 0 0] 32)) (.cells #[.int .i64 0, .bool false, .int .u64 0] 35))
  have O_2 := Aside0.mk (blk_alloc (blk_alloc (blk_new2 (w) (.cells (#[.slice A u.length c]) 32) (.cells (#[.int .i64 3, .int .u64 k, .int .u64 v, .int .i64 z]) 39)) (.cells #[.slice none 0 0] 32)) (.cells #[.int .i64 0, .bool false, .int .u64 0] 35))
  have R_3 := Aside0.mk (blk_alloc (blk_new3 (w) (.cells (#[.slice A u.length c]) 32) (.cells (#[.int .i64 3, .int .u64 k, .int .u64 v, .int .i64 z]) 39) (.cells #[.slice none 0 0] 32)) (.cells #[.int .i64 0, .bool false, .int .u64 0] 35))
  have Y_4 := Aside0.mk (blk_new4 (w) (.cells (#[.slice A u.length c]) 32) (.cells (#[.int .i64 3, .int .u64 k, .int .u64 v, .int .i64 z]) 39) (.cells #[.slice none 0 0] 32) (.cells #[.int .i64 0, .bool false, .int .u64 0] 35))
  have B5 := Aside0.mk (below_alloc (below_alloc (below_alloc (below_alloc (Below.refl w.heap.size w) (.cells (#[.slice A u.length c]) 32)) (.cells (#[.int .i64 3, .int .u64 k, .int .u64 v, .int .i64 z]) 39)) (.cells #[.slice none 0 0] 32)) (.cells #[.int .i64 0, .bool false, .int .u64 0] 35))
  go_enter Try.func10, Try.ntmps10
  go_wp2_with (first
    | (refine wpList_load_row_g (by rfl) 32 (.tmp 2) rfl (w.heap.size) rfl 32 (#[.slice A u.length c]) (0, 0) _ U_1.out Try.underlying32 rfl (by kernel_rfl) ?_))
  refine (revenantref21_State_Get.calls K A c u k g b _ (Kd.C_below HC.out B5.out) HCC.out HG.out).mono ?_
  rintro e_ w2 ⟨rfl, hb⟩
  have U_6 := Aside0.mk (blk_below U_1.out hb)
  have O_7 := Aside0.mk (blk_below O_2.out hb)
  have R_8 := Aside0.mk (blk_below R_3.out hb)
  have Y_9 := Aside0.mk (blk_below Y_4.out hb)
  have B10 := Aside0.mk (below_step B5.out hb)
  clear hb U_1 O_2 R_3 Y_4 B5
  have UL := Aside0.mk (U_6.out)
  have L_N := Aside0.mk (show w.heap.size ≤ w2.heap.size from B10.out.size)
  have NE_U_N := Aside0.mk (show w.heap.size ≠ w2.heap.size by have := blk_lt U_6.out; omega)
  have NE_O_N := Aside0.mk (show w.heap.size + 1 ≠ w2.heap.size by have := blk_lt O_7.out; omega)
  have NE_R_N := Aside0.mk (show w.heap.size + 1 + 1 ≠ w2.heap.size by have := blk_lt R_8.out; omega)
  have NE_Y_N := Aside0.mk (show w.heap.size + 1 + 1 + 1 ≠ w2.heap.size by have := blk_lt Y_9.out; omega)
  have U_11 := Aside0.mk (blk_alloc U_6.out (.cells #[.slice none 0 0] 32))
  have O_12 := Aside0.mk (blk_alloc O_7.out (.cells #[.slice none 0 0] 32))
  have R_13 := Aside0.mk (blk_alloc R_8.out (.cells #[.slice none 0 0] 32))
  have Y_14 := Aside0.mk (blk_alloc Y_9.out (.cells #[.slice none 0 0] 32))
  have N_15 := Aside0.mk (blk_new (w2) (.cells #[.slice none 0 0] 32))
  have B16 := Aside0.mk (below_alloc B10.out (.cells #[.slice none 0 0] 32))
  clear U_6 O_7 R_8 Y_9 B10
  go_wp2_with (first
    | (refine wpList_load_row_g (by rfl) 32 (.tmp 2) rfl (w.heap.size) rfl 32 (#[.slice A u.length c]) (0, 0) _ UL.out Try.underlying32 rfl (by kernel_rfl) ?_)
    | (refine store_whole (w := w) (B := w.heap.size) rfl rfl 32 (.tmp 9) (.tmp 18) rfl (g := w2.heap.size) (cs := #[.slice A u.length c]) rfl _ rfl rfl (by kernel_rfl) (by simp [Value.oneCell']) N_15.out (rfl) L_N.out B16.out ?_; intro w_17 h1 h2 h3 h4; have U_18 := Aside0.mk ((h3 _ NE_U_N.out).trans U_11.out); have O_19 := Aside0.mk ((h3 _ NE_O_N.out).trans O_12.out); have R_20 := Aside0.mk ((h3 _ NE_R_N.out).trans R_13.out); have Y_21 := Aside0.mk ((h3 _ NE_Y_N.out).trans Y_14.out); have N_22 := Aside0.mk (h1); have B23 := Aside0.mk (h2); clear h1 h2 h3 h4 U_11 O_12 R_13 Y_14 N_15 B16; have L_Q := Aside0.mk (show w.heap.size ≤ w_17.heap.size from B23.out.size); have NE_U_Q := Aside0.mk (show w.heap.size ≠ w_17.heap.size by have := blk_lt U_18.out; omega); have NE_O_Q := Aside0.mk (show w.heap.size + 1 ≠ w_17.heap.size by have := blk_lt O_19.out; omega); have NE_R_Q := Aside0.mk (show w.heap.size + 1 + 1 ≠ w_17.heap.size by have := blk_lt R_20.out; omega); have NE_Y_Q := Aside0.mk (show w.heap.size + 1 + 1 + 1 ≠ w_17.heap.size by have := blk_lt Y_21.out; omega); have NE_N_Q := Aside0.mk (show w2.heap.size ≠ w_17.heap.size by have := blk_lt N_22.out; omega); have U_24 := Aside0.mk (blk_alloc U_18.out (.cells #[.int .i64 0, .bool false, .int .u64 0] 35)); have O_25 := Aside0.mk (blk_alloc O_19.out (.cells #[.int .i64 0, .bool false, .int .u64 0] 35)); have R_26 := Aside0.mk (blk_alloc R_20.out (.cells #[.int .i64 0, .bool false, .int .u64 0] 35)); have Y_27 := Aside0.mk (blk_alloc Y_21.out (.cells #[.int .i64 0, .bool false, .int .u64 0] 35)); have N_28 := Aside0.mk (blk_alloc N_22.out (.cells #[.int .i64 0, .bool false, .int .u64 0] 35)); have Q_29 := Aside0.mk (blk_new (w_17) (.cells #[.int .i64 0, .bool false, .int .u64 0] 35)); have B30 := Aside0.mk (below_alloc B23.out (.cells #[.int .i64 0, .bool false, .int .u64 0] 35)); clear U_18 O_19 R_20 Y_21 N_22 B23)
    | (refine store_whole (w := w) (B := w.heap.size) rfl rfl 35 (.tmp 10) (.tmp 19) rfl (g := w_17.heap.size) (cs := #[.int .i64 0, .bool false, .int .u64 0]) rfl _ rfl rfl (by kernel_rfl) (by simp [Value.oneCell']) Q_29.out (rfl) L_Q.out B30.out ?_; intro w_31 h1 h2 h3 h4; have U_32 := Aside0.mk ((h3 _ NE_U_Q.out).trans U_24.out); have O_33 := Aside0.mk ((h3 _ NE_O_Q.out).trans O_25.out); have R_34 := Aside0.mk ((h3 _ NE_R_Q.out).trans R_26.out); have Y_35 := Aside0.mk ((h3 _ NE_Y_Q.out).trans Y_27.out); have N_36 := Aside0.mk ((h3 _ NE_N_Q.out).trans N_28.out); have Q_37 := Aside0.mk (h1); have B38 := Aside0.mk (h2); clear h1 h2 h3 h4 U_24 O_25 R_26 Y_27 N_28 Q_29 B30; have o0 : w_31.cell? ⟨w.heap.size + 1, 0, none⟩ = some (.int .i64 3) := (blk_cell O_33.out 0).trans rfl; have q0 : w_31.cell? ⟨w_17.heap.size, 0, none⟩ = some (.int .i64 0) := (blk_cell Q_37.out 0).trans rfl; have p0 := blk_frozen Q_37.out 0; have q1 : w_31.cell? ⟨w_17.heap.size, 1, none⟩ = some (.bool false) := (blk_cell Q_37.out 1).trans rfl; have p1 := blk_frozen Q_37.out 1; have q2 : w_31.cell? ⟨w_17.heap.size, 2, none⟩ = some (.int .u64 0) := (blk_cell Q_37.out 2).trans rfl; have p2 := blk_frozen Q_37.out 2; have U_39 := Aside0.mk (blk_far (U_32.out) (p := ⟨w_17.heap.size, 1, none⟩) NE_U_Q.out (.bool b)); have O_40 := Aside0.mk (blk_far (O_33.out) (p := ⟨w_17.heap.size, 1, none⟩) NE_O_Q.out (.bool b)); have R_41 := Aside0.mk (blk_far (R_34.out) (p := ⟨w_17.heap.size, 1, none⟩) NE_R_Q.out (.bool b)); have Y_42 := Aside0.mk (blk_far (Y_35.out) (p := ⟨w_17.heap.size, 1, none⟩) NE_Y_Q.out (.bool b)); have N_43 := Aside0.mk (blk_far (N_36.out) (p := ⟨w_17.heap.size, 1, none⟩) NE_N_Q.out (.bool b)); have Q_44 := Aside0.mk (blk_put (Q_37.out) 1 (.bool b) (cs' := #[.int .i64 0, .bool b, .int .u64 0]) rfl); have B45 := Aside0.mk (below_set (B38.out) (g := w_17.heap.size) (j := 1) (v := .bool b) L_Q.out); clear U_32 O_33 R_34 Y_35 N_36 Q_37 B38; have n0 : (w_31.setCell ⟨w_17.heap.size, 1, none⟩ (.bool b)).cell? ⟨w2.heap.size, 0, none⟩ = some (.slice A u.length c) := (blk_cell N_43.out 0).trans rfl))
  refine start_ (n := 5) (S := fun w' => w'.heap[w2.heap.size]? = some (.cells #[.slice A u.length c] 32 (0, 0)) ∧ w'.heap[w_17.heap.size]? = some (.cells #[.int .i64 0, .bool b, .int .u64 0] 35 (0, 0))) (ds := [3]) #[false, false, false, false, false] (by kernel_rfl) rfl rfl ⟨N_43.out, Q_44.out⟩ (fun hHeld => ?_)
  refine take_ (i := 0) (N := some 102) (v := ?_) (a' := ?_) #[true, false, false, false, false] rfl rfl (by kernel_rfl) (fun _ _ _ h => h) (Or.inl ⟨by rfl, ?_⟩) hHeld ?_ ?_
  rotate_left
  · rintro w' ⟨s0, s1⟩
    refine exec_load_row 32 (.tmp 9) ?_ _ ?_ 32 #[.slice A u.length c] (0, 0) _ s0 Try.underlying32 rfl (by kernel_rfl) <;> rfl
  rotate_left
  · simp only [Act.put, List.setIfInBounds_toArray, List.set_cons_zero, List.set_cons_succ, i64_w, i32_w]
    rfl
  refine take_ (i := 1) (N := some 103) (v := ?_) (a' := ?_) #[true, true, false, false, false] rfl rfl (by kernel_rfl) (fun _ _ _ h => h) (Or.inl ⟨by rfl, ?_⟩) hHeld ?_ ?_
  rotate_left
  · rintro w' ⟨s0, s1⟩
    refine exec_load_row 35 (.tmp 10) ?_ _ ?_ 35 #[.int .i64 0, .bool b, .int .u64 0] (0, 0) _ s1 Try.underlying35 rfl (by kernel_rfl) <;> rfl
  rotate_left
  · simp only [Act.put, List.setIfInBounds_toArray, List.set_cons_zero, List.set_cons_succ, i64_w, i32_w]
    rfl
  refine one_ (i := 2) (N := none) #[true, true, true, false, false] rfl rfl (by kernel_rfl) (by decide) (fun K hK => ?_)
  refine skip_whole (w := w) (B := w.heap.size) 32 (.tmp 4) (.tmp 102) (by rfl) rfl rfl (g := w.heap.size + 1 + 1) (cs := #[.slice A u.length c]) ?_ (.agg (#[.slice A u.length c])) ?_ rfl (by kernel_rfl) (by simp [Value.oneCell']) (blk_drew R_41.out) rfl L_R.out (below_drew B45.out) ?_
  · rfl
  · rfl
  intro w8 h1 h2 h3 h4
  have U_46 := Aside0.mk ((h3 _ NE_U_R.out).trans (blk_drew U_39.out))
  have O_47 := Aside0.mk ((h3 _ NE_O_R.out).trans (blk_drew O_40.out))
  have R_48 := Aside0.mk (h1)
  have Y_49 := Aside0.mk ((h3 _ (Ne.symm NE_R_Y.out)).trans (blk_drew Y_42.out))
  have N_50 := Aside0.mk ((h3 _ (Ne.symm NE_R_N.out)).trans (blk_drew N_43.out))
  have Q_51 := Aside0.mk ((h3 _ (Ne.symm NE_R_Q.out)).trans (blk_drew Q_44.out))
  have B52 := Aside0.mk (h2)
  clear h1 h2 h3 h4
  refine hK.out _ _ ⟨N_50.out, Q_51.out⟩ (fun hHeld => ?_)
  clear hK K
  refine last_ (i := 3) (N := none) #[true, true, true, true, false] rfl rfl (by kernel_rfl) (by decide) (fun K hK => ?_)
  refine skip_whole (w := w) (B := w.heap.size) 35 (.tmp 5) (.tmp 103) (by rfl) rfl rfl (g := w.heap.size + 1 + 1 + 1) (cs := #[.int .i64 0, .bool b, .int .u64 0]) ?_ (.agg (#[.int .i64 0, .bool b, .int .u64 0])) ?_ rfl (by kernel_rfl) (by simp [Value.oneCell']) (Y_49.out) rfl L_Y.out (B52.out) ?_
  · rfl
  · rfl
  intro w9 h1 h2 h3 h4
  have U_53 := Aside0.mk ((h3 _ NE_U_Y.out).trans (U_46.out))
  have O_54 := Aside0.mk ((h3 _ NE_O_Y.out).trans (O_47.out))
  have R_55 := Aside0.mk ((h3 _ NE_R_Y.out).trans (R_48.out))
  have Y_56 := Aside0.mk (h1)
  have N_57 := Aside0.mk ((h3 _ (Ne.symm NE_Y_N.out)).trans (N_50.out))
  have Q_58 := Aside0.mk ((h3 _ (Ne.symm NE_Y_Q.out)).trans (Q_51.out))
  have B59 := Aside0.mk (h2)
  clear h1 h2 h3 h4
  refine hK.out _ _ ?_
  clear hK K
  refine pure_ (i := 4) (N := some 6) (v := ?_) (a' := ?_) #[true, true, true, true, true] rfl rfl (by kernel_rfl) (fun _ _ _ h => h) (Or.inl ⟨by rfl, ?_⟩) ?_ ?_
  rotate_left
  · intro w'
    go_simp
    with_reducible rfl
  rotate_left
  · simp only [Act.put, List.setIfInBounds_toArray, List.set_cons_zero, List.set_cons_succ, i64_w, i32_w]
    rfl
  refine done_ (by kernel_rfl) ?_
  go_wp2_with fail
  exact bodyPost_ret (results_cell3 (P := Try.prog) rfl _ _ (w.heap.size + 1 + 1) (w.heap.size + 1 + 1 + 1) 32 35 #[.slice A u.length c] #[.int .i64 0, .bool b, .int .u64 0] (0, 0) (0, 0) _ _ rfl R_55.out Try.underlying32 rfl (by kernel_rfl) rfl Y_56.out Try.underlying35 rfl (by kernel_rfl) rfl) rfl ⟨rfl, B59.out⟩
set_option maxHeartbeats 8000000 in
set_option maxRecDepth 100000 in
theorem rdo7_T (u : List S57) (A : Option Addr) (c : Nat) (k v z g : Int) (b : Bool) (K : Nat) (w : World) (hC : Kd.C k57 w A u.length u) (hc : u.length ≤ c) (hG : revenantref21_State_Get.f K u k = some (g, b)) (hl : u.length ≤ 16) :
    Calls Try.prog 10 #[.agg #[.slice A u.length c], .agg #[.int .i64 7, .int .u64 k, .int .u64 v, .int .i64 z]] w fun e w' => e = .returned (.tuple #[.agg #[.slice A u.length c], .agg #[.int .i64 0, .bool b, .int .u64 g], .int .i64 0]) ∧ Below w.heap.size w w' := by
  have hu32 := Try.underlying32
  have hu39 := Try.underlying39
  have hu35 := Try.underlying35
  have HC := Aside0.mk hC
  have HCC := Aside0.mk hc
  have HG := Aside0.mk hG
  have t1 : decide ((16 : Int) < (u.length : Int)) = false := decide_eq_false (by omega)
  have t2 := eq_false (show ¬ (16 : Int) < (u.length : Int) by omega)
  clear hC hc hG hl
  have L_U := Aside0.mk (show w.heap.size ≤ w.heap.size from Nat.le_refl _)
  have L_O := Aside0.mk (show w.heap.size ≤ w.heap.size + 1 from by have := L_U.out; omega)
  have NE_U_O := Aside0.mk (show w.heap.size ≠ w.heap.size + 1 by omega)
  have L_R := Aside0.mk (show w.heap.size ≤ w.heap.size + 1 + 1 from by have := L_U.out; omega)
  have NE_U_R := Aside0.mk (show w.heap.size ≠ w.heap.size + 1 + 1 by omega)
  have NE_O_R := Aside0.mk (show w.heap.size + 1 ≠ w.heap.size + 1 + 1 by omega)
  have L_Y := Aside0.mk (show w.heap.size ≤ w.heap.size + 1 + 1 + 1 from by have := L_U.out; omega)
  have NE_U_Y := Aside0.mk (show w.heap.size ≠ w.heap.size + 1 + 1 + 1 by omega)
  have NE_O_Y := Aside0.mk (show w.heap.size + 1 ≠ w.heap.size + 1 + 1 + 1 by omega)
  have NE_R_Y := Aside0.mk (show w.heap.size + 1 + 1 ≠ w.heap.size + 1 + 1 + 1 by omega)
  have U_1 := Aside0.mk (blk_alloc (blk_alloc (blk_alloc (blk_new (w) (.cells (#[.slice A u.length c]) 32)) (.cells (#[.int .i64 7, .int .u64 k, .int .u64 v, .int .i64 z]) 39)) (.cells #[.slice none 0 0] 32)) (.cells #[.int .i64 0, .bool false, .int .u64 0] 35))
  have O_2 := Aside0.mk (blk_alloc (blk_alloc (blk_new2 (w) (.cells (#[.slice A u.length c]) 32) (.cells (#[.int .i64 7, .int .u64 k, .int .u64 v, .int .i64 z]) 39)) (.cells #[.slice none 0 0] 32)) (.cells #[.int .i64 0, .bool false, .int .u64 0] 35))
  have R_3 := Aside0.mk (blk_alloc (blk_new3 (w) (.cells (#[.slice A u.length c]) 32) (.cells (#[.int .i64 7, .int .u64 k, .int .u64 v, .int .i64 z]) 39) (.cells #[.slice none 0 0] 32)) (.cells #[.int .i64 0, .bool false, .int .u64 0] 35))
  have Y_4 := Aside0.mk (blk_new4 (w) (.cells (#[.slice A u.length c]) 32) (.cells (#[.int .i64 7, .int .u64 k, .int .u64 v, .int .i64 z]) 39) (.cells #[.slice none 0 0] 32) (.cells #[.int .i64 0, .bool false, .int .u64 0] 35))
  have B5 := Aside0.mk (below_alloc (below_alloc (below_alloc (below_alloc (Below.refl w.heap.size w) (.cells (#[.slice A u.length c]) 32)) (.cells (#[.int .i64 7, .int .u64 k, .int .u64 v, .int .i64 z]) 39)) (.cells #[.slice none 0 0] 32)) (.cells #[.int .i64 0, .bool false, .int .u64 0] 35))
  go_enter Try.func10, Try.ntmps10
  go_wp2_with (first
    | (refine wpList_load_row_g (by rfl) 32 (.tmp 2) rfl (w.heap.size) rfl 32 (#[.slice A u.length c]) (0, 0) _ U_1.out Try.underlying32 rfl (by kernel_rfl) ?_))
  refine (revenantref21_State_Get.calls K A c u k g b _ (Kd.C_below HC.out B5.out) HCC.out HG.out).mono ?_
  rintro e_ w2 ⟨rfl, hb⟩
  have U_6 := Aside0.mk (blk_below U_1.out hb)
  have O_7 := Aside0.mk (blk_below O_2.out hb)
  have R_8 := Aside0.mk (blk_below R_3.out hb)
  have Y_9 := Aside0.mk (blk_below Y_4.out hb)
  have B10 := Aside0.mk (below_step B5.out hb)
  clear hb U_1 O_2 R_3 Y_4 B5
  have UL := Aside0.mk (U_6.out)
  have L_N := Aside0.mk (show w.heap.size ≤ w2.heap.size from B10.out.size)
  have NE_U_N := Aside0.mk (show w.heap.size ≠ w2.heap.size by have := blk_lt U_6.out; omega)
  have NE_O_N := Aside0.mk (show w.heap.size + 1 ≠ w2.heap.size by have := blk_lt O_7.out; omega)
  have NE_R_N := Aside0.mk (show w.heap.size + 1 + 1 ≠ w2.heap.size by have := blk_lt R_8.out; omega)
  have NE_Y_N := Aside0.mk (show w.heap.size + 1 + 1 + 1 ≠ w2.heap.size by have := blk_lt Y_9.out; omega)
  have U_11 := Aside0.mk (blk_alloc U_6.out (.cells #[.slice none 0 0] 32))
  have O_12 := Aside0.mk (blk_alloc O_7.out (.cells #[.slice none 0 0] 32))
  have R_13 := Aside0.mk (blk_alloc R_8.out (.cells #[.slice none 0 0] 32))
  have Y_14 := Aside0.mk (blk_alloc Y_9.out (.cells #[.slice none 0 0] 32))
  have N_15 := Aside0.mk (blk_new (w2) (.cells #[.slice none 0 0] 32))
  have B16 := Aside0.mk (below_alloc B10.out (.cells #[.slice none 0 0] 32))
  clear U_6 O_7 R_8 Y_9 B10
  go_wp2_with (first
    | (refine wpList_load_row_g (by rfl) 32 (.tmp 2) rfl (w.heap.size) rfl 32 (#[.slice A u.length c]) (0, 0) _ UL.out Try.underlying32 rfl (by kernel_rfl) ?_)
    | (refine store_whole (w := w) (B := w.heap.size) rfl rfl 32 (.tmp 9) (.tmp 18) rfl (g := w2.heap.size) (cs := #[.slice A u.length c]) rfl _ rfl rfl (by kernel_rfl) (by simp [Value.oneCell']) N_15.out (rfl) L_N.out B16.out ?_; intro w_17 h1 h2 h3 h4; have U_18 := Aside0.mk ((h3 _ NE_U_N.out).trans U_11.out); have O_19 := Aside0.mk ((h3 _ NE_O_N.out).trans O_12.out); have R_20 := Aside0.mk ((h3 _ NE_R_N.out).trans R_13.out); have Y_21 := Aside0.mk ((h3 _ NE_Y_N.out).trans Y_14.out); have N_22 := Aside0.mk (h1); have B23 := Aside0.mk (h2); clear h1 h2 h3 h4 U_11 O_12 R_13 Y_14 N_15 B16; have L_Q := Aside0.mk (show w.heap.size ≤ w_17.heap.size from B23.out.size); have NE_U_Q := Aside0.mk (show w.heap.size ≠ w_17.heap.size by have := blk_lt U_18.out; omega); have NE_O_Q := Aside0.mk (show w.heap.size + 1 ≠ w_17.heap.size by have := blk_lt O_19.out; omega); have NE_R_Q := Aside0.mk (show w.heap.size + 1 + 1 ≠ w_17.heap.size by have := blk_lt R_20.out; omega); have NE_Y_Q := Aside0.mk (show w.heap.size + 1 + 1 + 1 ≠ w_17.heap.size by have := blk_lt Y_21.out; omega); have NE_N_Q := Aside0.mk (show w2.heap.size ≠ w_17.heap.size by have := blk_lt N_22.out; omega); have U_24 := Aside0.mk (blk_alloc U_18.out (.cells #[.int .i64 0, .bool false, .int .u64 0] 35)); have O_25 := Aside0.mk (blk_alloc O_19.out (.cells #[.int .i64 0, .bool false, .int .u64 0] 35)); have R_26 := Aside0.mk (blk_alloc R_20.out (.cells #[.int .i64 0, .bool false, .int .u64 0] 35)); have Y_27 := Aside0.mk (blk_alloc Y_21.out (.cells #[.int .i64 0, .bool false, .int .u64 0] 35)); have N_28 := Aside0.mk (blk_alloc N_22.out (.cells #[.int .i64 0, .bool false, .int .u64 0] 35)); have Q_29 := Aside0.mk (blk_new (w_17) (.cells #[.int .i64 0, .bool false, .int .u64 0] 35)); have B30 := Aside0.mk (below_alloc B23.out (.cells #[.int .i64 0, .bool false, .int .u64 0] 35)); clear U_18 O_19 R_20 Y_21 N_22 B23)
    | (refine store_whole (w := w) (B := w.heap.size) rfl rfl 35 (.tmp 10) (.tmp 19) rfl (g := w_17.heap.size) (cs := #[.int .i64 0, .bool false, .int .u64 0]) rfl _ rfl rfl (by kernel_rfl) (by simp [Value.oneCell']) Q_29.out (rfl) L_Q.out B30.out ?_; intro w_31 h1 h2 h3 h4; have U_32 := Aside0.mk ((h3 _ NE_U_Q.out).trans U_24.out); have O_33 := Aside0.mk ((h3 _ NE_O_Q.out).trans O_25.out); have R_34 := Aside0.mk ((h3 _ NE_R_Q.out).trans R_26.out); have Y_35 := Aside0.mk ((h3 _ NE_Y_Q.out).trans Y_27.out); have N_36 := Aside0.mk ((h3 _ NE_N_Q.out).trans N_28.out); have Q_37 := Aside0.mk (h1); have B38 := Aside0.mk (h2); clear h1 h2 h3 h4 U_24 O_25 R_26 Y_27 N_28 Q_29 B30; have o0 : w_31.cell? ⟨w.heap.size + 1, 0, none⟩ = some (.int .i64 7) := (blk_cell O_33.out 0).trans rfl; have q0 : w_31.cell? ⟨w_17.heap.size, 0, none⟩ = some (.int .i64 0) := (blk_cell Q_37.out 0).trans rfl; have p0 := blk_frozen Q_37.out 0; have q1 : w_31.cell? ⟨w_17.heap.size, 1, none⟩ = some (.bool false) := (blk_cell Q_37.out 1).trans rfl; have p1 := blk_frozen Q_37.out 1; have q2 : w_31.cell? ⟨w_17.heap.size, 2, none⟩ = some (.int .u64 0) := (blk_cell Q_37.out 2).trans rfl; have p2 := blk_frozen Q_37.out 2; have U_39 := Aside0.mk (blk_far (blk_far (U_32.out) (p := ⟨w_17.heap.size, 1, none⟩) NE_U_Q.out (.bool b)) (p := ⟨w_17.heap.size, 2, none⟩) NE_U_Q.out (.int .u64 g)); have O_40 := Aside0.mk (blk_far (blk_far (O_33.out) (p := ⟨w_17.heap.size, 1, none⟩) NE_O_Q.out (.bool b)) (p := ⟨w_17.heap.size, 2, none⟩) NE_O_Q.out (.int .u64 g)); have R_41 := Aside0.mk (blk_far (blk_far (R_34.out) (p := ⟨w_17.heap.size, 1, none⟩) NE_R_Q.out (.bool b)) (p := ⟨w_17.heap.size, 2, none⟩) NE_R_Q.out (.int .u64 g)); have Y_42 := Aside0.mk (blk_far (blk_far (Y_35.out) (p := ⟨w_17.heap.size, 1, none⟩) NE_Y_Q.out (.bool b)) (p := ⟨w_17.heap.size, 2, none⟩) NE_Y_Q.out (.int .u64 g)); have N_43 := Aside0.mk (blk_far (blk_far (N_36.out) (p := ⟨w_17.heap.size, 1, none⟩) NE_N_Q.out (.bool b)) (p := ⟨w_17.heap.size, 2, none⟩) NE_N_Q.out (.int .u64 g)); have Q_44 := Aside0.mk (blk_put (blk_set (Q_37.out) 1 (.bool b)) 2 (.int .u64 g) (cs' := #[.int .i64 0, .bool b, .int .u64 g]) rfl); have B45 := Aside0.mk (below_set (below_set (B38.out) (g := w_17.heap.size) (j := 1) (v := .bool b) L_Q.out) (g := w_17.heap.size) (j := 2) (v := .int .u64 g) L_Q.out); clear U_32 O_33 R_34 Y_35 N_36 Q_37 B38; have n0 : ((w_31.setCell ⟨w_17.heap.size, 1, none⟩ (.bool b)).setCell ⟨w_17.heap.size, 2, none⟩ (.int .u64 g)).cell? ⟨w2.heap.size, 0, none⟩ = some (.slice A u.length c) := (blk_cell N_43.out 0).trans rfl))
  refine start_ (n := 5) (S := fun w' => w'.heap[w2.heap.size]? = some (.cells #[.slice A u.length c] 32 (0, 0)) ∧ w'.heap[w_17.heap.size]? = some (.cells #[.int .i64 0, .bool b, .int .u64 g] 35 (0, 0))) (ds := [3]) #[false, false, false, false, false] (by kernel_rfl) rfl rfl ⟨N_43.out, Q_44.out⟩ (fun hHeld => ?_)
  refine take_ (i := 0) (N := some 102) (v := ?_) (a' := ?_) #[true, false, false, false, false] rfl rfl (by kernel_rfl) (fun _ _ _ h => h) (Or.inl ⟨by rfl, ?_⟩) hHeld ?_ ?_
  rotate_left
  · rintro w' ⟨s0, s1⟩
    refine exec_load_row 32 (.tmp 9) ?_ _ ?_ 32 #[.slice A u.length c] (0, 0) _ s0 Try.underlying32 rfl (by kernel_rfl) <;> rfl
  rotate_left
  · simp only [Act.put, List.setIfInBounds_toArray, List.set_cons_zero, List.set_cons_succ, i64_w, i32_w]
    rfl
  refine take_ (i := 1) (N := some 103) (v := ?_) (a' := ?_) #[true, true, false, false, false] rfl rfl (by kernel_rfl) (fun _ _ _ h => h) (Or.inl ⟨by rfl, ?_⟩) hHeld ?_ ?_
  rotate_left
  · rintro w' ⟨s0, s1⟩
    refine exec_load_row 35 (.tmp 10) ?_ _ ?_ 35 #[.int .i64 0, .bool b, .int .u64 g] (0, 0) _ s1 Try.underlying35 rfl (by kernel_rfl) <;> rfl
  rotate_left
  · simp only [Act.put, List.setIfInBounds_toArray, List.set_cons_zero, List.set_cons_succ, i64_w, i32_w]
    rfl
  refine one_ (i := 2) (N := none) #[true, true, true, false, false] rfl rfl (by kernel_rfl) (by decide) (fun K hK => ?_)
  refine skip_whole (w := w) (B := w.heap.size) 32 (.tmp 4) (.tmp 102) (by rfl) rfl rfl (g := w.heap.size + 1 + 1) (cs := #[.slice A u.length c]) ?_ (.agg (#[.slice A u.length c])) ?_ rfl (by kernel_rfl) (by simp [Value.oneCell']) (blk_drew R_41.out) rfl L_R.out (below_drew B45.out) ?_
  · rfl
  · rfl
  intro w8 h1 h2 h3 h4
  have U_46 := Aside0.mk ((h3 _ NE_U_R.out).trans (blk_drew U_39.out))
  have O_47 := Aside0.mk ((h3 _ NE_O_R.out).trans (blk_drew O_40.out))
  have R_48 := Aside0.mk (h1)
  have Y_49 := Aside0.mk ((h3 _ (Ne.symm NE_R_Y.out)).trans (blk_drew Y_42.out))
  have N_50 := Aside0.mk ((h3 _ (Ne.symm NE_R_N.out)).trans (blk_drew N_43.out))
  have Q_51 := Aside0.mk ((h3 _ (Ne.symm NE_R_Q.out)).trans (blk_drew Q_44.out))
  have B52 := Aside0.mk (h2)
  clear h1 h2 h3 h4
  refine hK.out _ _ ⟨N_50.out, Q_51.out⟩ (fun hHeld => ?_)
  clear hK K
  refine last_ (i := 3) (N := none) #[true, true, true, true, false] rfl rfl (by kernel_rfl) (by decide) (fun K hK => ?_)
  refine skip_whole (w := w) (B := w.heap.size) 35 (.tmp 5) (.tmp 103) (by rfl) rfl rfl (g := w.heap.size + 1 + 1 + 1) (cs := #[.int .i64 0, .bool b, .int .u64 g]) ?_ (.agg (#[.int .i64 0, .bool b, .int .u64 g])) ?_ rfl (by kernel_rfl) (by simp [Value.oneCell']) (Y_49.out) rfl L_Y.out (B52.out) ?_
  · rfl
  · rfl
  intro w9 h1 h2 h3 h4
  have U_53 := Aside0.mk ((h3 _ NE_U_Y.out).trans (U_46.out))
  have O_54 := Aside0.mk ((h3 _ NE_O_Y.out).trans (O_47.out))
  have R_55 := Aside0.mk ((h3 _ NE_R_Y.out).trans (R_48.out))
  have Y_56 := Aside0.mk (h1)
  have N_57 := Aside0.mk ((h3 _ (Ne.symm NE_Y_N.out)).trans (N_50.out))
  have Q_58 := Aside0.mk ((h3 _ (Ne.symm NE_Y_Q.out)).trans (Q_51.out))
  have B59 := Aside0.mk (h2)
  clear h1 h2 h3 h4
  refine hK.out _ _ ?_
  clear hK K
  refine pure_ (i := 4) (N := some 6) (v := ?_) (a' := ?_) #[true, true, true, true, true] rfl rfl (by kernel_rfl) (fun _ _ _ h => h) (Or.inl ⟨by rfl, ?_⟩) ?_ ?_
  rotate_left
  · intro w'
    go_simp
    with_reducible rfl
  rotate_left
  · simp only [Act.put, List.setIfInBounds_toArray, List.set_cons_zero, List.set_cons_succ, i64_w, i32_w]
    rfl
  refine done_ (by kernel_rfl) ?_
  go_wp2_with fail
  exact bodyPost_ret (results_cell3 (P := Try.prog) rfl _ _ (w.heap.size + 1 + 1) (w.heap.size + 1 + 1 + 1) 32 35 #[.slice A u.length c] #[.int .i64 0, .bool b, .int .u64 g] (0, 0) (0, 0) _ _ rfl R_55.out Try.underlying32 rfl (by kernel_rfl) rfl Y_56.out Try.underlying35 rfl (by kernel_rfl) rfl) rfl ⟨rfl, B59.out⟩
set_option maxHeartbeats 8000000 in
set_option maxRecDepth 100000 in
theorem rdo8_T (u : List S57) (A : Option Addr) (c : Nat) (k v z g : Int) (b : Bool) (K : Nat) (w : World) (hC : Kd.C k57 w A u.length u) (hc : u.length ≤ c) (hG : revenantref21_State_Get.f K u k = some (g, b)) (hl : u.length ≤ 16) :
    Calls Try.prog 10 #[.agg #[.slice A u.length c], .agg #[.int .i64 8, .int .u64 k, .int .u64 v, .int .i64 z]] w fun e w' => e = .returned (.tuple #[.agg #[.slice A u.length c], .agg #[.int .i64 0, .bool true, .int .u64 0], .int .i64 0]) ∧ Below w.heap.size w w' := by
  have hu32 := Try.underlying32
  have hu39 := Try.underlying39
  have hu35 := Try.underlying35
  have HC := Aside0.mk hC
  have HCC := Aside0.mk hc
  have HG := Aside0.mk hG
  have t1 : decide ((16 : Int) < (u.length : Int)) = false := decide_eq_false (by omega)
  have t2 := eq_false (show ¬ (16 : Int) < (u.length : Int) by omega)
  clear hC hc hG hl
  have L_U := Aside0.mk (show w.heap.size ≤ w.heap.size from Nat.le_refl _)
  have L_O := Aside0.mk (show w.heap.size ≤ w.heap.size + 1 from by have := L_U.out; omega)
  have NE_U_O := Aside0.mk (show w.heap.size ≠ w.heap.size + 1 by omega)
  have L_R := Aside0.mk (show w.heap.size ≤ w.heap.size + 1 + 1 from by have := L_U.out; omega)
  have NE_U_R := Aside0.mk (show w.heap.size ≠ w.heap.size + 1 + 1 by omega)
  have NE_O_R := Aside0.mk (show w.heap.size + 1 ≠ w.heap.size + 1 + 1 by omega)
  have L_Y := Aside0.mk (show w.heap.size ≤ w.heap.size + 1 + 1 + 1 from by have := L_U.out; omega)
  have NE_U_Y := Aside0.mk (show w.heap.size ≠ w.heap.size + 1 + 1 + 1 by omega)
  have NE_O_Y := Aside0.mk (show w.heap.size + 1 ≠ w.heap.size + 1 + 1 + 1 by omega)
  have NE_R_Y := Aside0.mk (show w.heap.size + 1 + 1 ≠ w.heap.size + 1 + 1 + 1 by omega)
  have U_1 := Aside0.mk (blk_alloc (blk_alloc (blk_alloc (blk_new (w) (.cells (#[.slice A u.length c]) 32)) (.cells (#[.int .i64 8, .int .u64 k, .int .u64 v, .int .i64 z]) 39)) (.cells #[.slice none 0 0] 32)) (.cells #[.int .i64 0, .bool false, .int .u64 0] 35))
  have O_2 := Aside0.mk (blk_alloc (blk_alloc (blk_new2 (w) (.cells (#[.slice A u.length c]) 32) (.cells (#[.int .i64 8, .int .u64 k, .int .u64 v, .int .i64 z]) 39)) (.cells #[.slice none 0 0] 32)) (.cells #[.int .i64 0, .bool false, .int .u64 0] 35))
  have R_3 := Aside0.mk (blk_alloc (blk_new3 (w) (.cells (#[.slice A u.length c]) 32) (.cells (#[.int .i64 8, .int .u64 k, .int .u64 v, .int .i64 z]) 39) (.cells #[.slice none 0 0] 32)) (.cells #[.int .i64 0, .bool false, .int .u64 0] 35))
  have Y_4 := Aside0.mk (blk_new4 (w) (.cells (#[.slice A u.length c]) 32) (.cells (#[.int .i64 8, .int .u64 k, .int .u64 v, .int .i64 z]) 39) (.cells #[.slice none 0 0] 32) (.cells #[.int .i64 0, .bool false, .int .u64 0] 35))
  have B5 := Aside0.mk (below_alloc (below_alloc (below_alloc (below_alloc (Below.refl w.heap.size w) (.cells (#[.slice A u.length c]) 32)) (.cells (#[.int .i64 8, .int .u64 k, .int .u64 v, .int .i64 z]) 39)) (.cells #[.slice none 0 0] 32)) (.cells #[.int .i64 0, .bool false, .int .u64 0] 35))
  go_enter Try.func10, Try.ntmps10
  go_wp2_with (first
    | (refine wpList_load_row_g (by rfl) 32 (.tmp 2) rfl (w.heap.size) rfl 32 (#[.slice A u.length c]) (0, 0) _ U_1.out Try.underlying32 rfl (by kernel_rfl) ?_))
  refine (revenantref21_State_Get.calls K A c u k g b _ (Kd.C_below HC.out B5.out) HCC.out HG.out).mono ?_
  rintro e_ w2 ⟨rfl, hb⟩
  have U_6 := Aside0.mk (blk_below U_1.out hb)
  have O_7 := Aside0.mk (blk_below O_2.out hb)
  have R_8 := Aside0.mk (blk_below R_3.out hb)
  have Y_9 := Aside0.mk (blk_below Y_4.out hb)
  have B10 := Aside0.mk (below_step B5.out hb)
  clear hb U_1 O_2 R_3 Y_4 B5
  have UL := Aside0.mk (U_6.out)
  have L_N := Aside0.mk (show w.heap.size ≤ w2.heap.size from B10.out.size)
  have NE_U_N := Aside0.mk (show w.heap.size ≠ w2.heap.size by have := blk_lt U_6.out; omega)
  have NE_O_N := Aside0.mk (show w.heap.size + 1 ≠ w2.heap.size by have := blk_lt O_7.out; omega)
  have NE_R_N := Aside0.mk (show w.heap.size + 1 + 1 ≠ w2.heap.size by have := blk_lt R_8.out; omega)
  have NE_Y_N := Aside0.mk (show w.heap.size + 1 + 1 + 1 ≠ w2.heap.size by have := blk_lt Y_9.out; omega)
  have U_11 := Aside0.mk (blk_alloc U_6.out (.cells #[.slice none 0 0] 32))
  have O_12 := Aside0.mk (blk_alloc O_7.out (.cells #[.slice none 0 0] 32))
  have R_13 := Aside0.mk (blk_alloc R_8.out (.cells #[.slice none 0 0] 32))
  have Y_14 := Aside0.mk (blk_alloc Y_9.out (.cells #[.slice none 0 0] 32))
  have N_15 := Aside0.mk (blk_new (w2) (.cells #[.slice none 0 0] 32))
  have B16 := Aside0.mk (below_alloc B10.out (.cells #[.slice none 0 0] 32))
  clear U_6 O_7 R_8 Y_9 B10
  go_wp2_with (first
    | (refine wpList_load_row_g (by rfl) 32 (.tmp 2) rfl (w.heap.size) rfl 32 (#[.slice A u.length c]) (0, 0) _ UL.out Try.underlying32 rfl (by kernel_rfl) ?_)
    | (refine store_whole (w := w) (B := w.heap.size) rfl rfl 32 (.tmp 9) (.tmp 18) rfl (g := w2.heap.size) (cs := #[.slice A u.length c]) rfl _ rfl rfl (by kernel_rfl) (by simp [Value.oneCell']) N_15.out (rfl) L_N.out B16.out ?_; intro w_17 h1 h2 h3 h4; have U_18 := Aside0.mk ((h3 _ NE_U_N.out).trans U_11.out); have O_19 := Aside0.mk ((h3 _ NE_O_N.out).trans O_12.out); have R_20 := Aside0.mk ((h3 _ NE_R_N.out).trans R_13.out); have Y_21 := Aside0.mk ((h3 _ NE_Y_N.out).trans Y_14.out); have N_22 := Aside0.mk (h1); have B23 := Aside0.mk (h2); clear h1 h2 h3 h4 U_11 O_12 R_13 Y_14 N_15 B16; have L_Q := Aside0.mk (show w.heap.size ≤ w_17.heap.size from B23.out.size); have NE_U_Q := Aside0.mk (show w.heap.size ≠ w_17.heap.size by have := blk_lt U_18.out; omega); have NE_O_Q := Aside0.mk (show w.heap.size + 1 ≠ w_17.heap.size by have := blk_lt O_19.out; omega); have NE_R_Q := Aside0.mk (show w.heap.size + 1 + 1 ≠ w_17.heap.size by have := blk_lt R_20.out; omega); have NE_Y_Q := Aside0.mk (show w.heap.size + 1 + 1 + 1 ≠ w_17.heap.size by have := blk_lt Y_21.out; omega); have NE_N_Q := Aside0.mk (show w2.heap.size ≠ w_17.heap.size by have := blk_lt N_22.out; omega); have U_24 := Aside0.mk (blk_alloc U_18.out (.cells #[.int .i64 0, .bool false, .int .u64 0] 35)); have O_25 := Aside0.mk (blk_alloc O_19.out (.cells #[.int .i64 0, .bool false, .int .u64 0] 35)); have R_26 := Aside0.mk (blk_alloc R_20.out (.cells #[.int .i64 0, .bool false, .int .u64 0] 35)); have Y_27 := Aside0.mk (blk_alloc Y_21.out (.cells #[.int .i64 0, .bool false, .int .u64 0] 35)); have N_28 := Aside0.mk (blk_alloc N_22.out (.cells #[.int .i64 0, .bool false, .int .u64 0] 35)); have Q_29 := Aside0.mk (blk_new (w_17) (.cells #[.int .i64 0, .bool false, .int .u64 0] 35)); have B30 := Aside0.mk (below_alloc B23.out (.cells #[.int .i64 0, .bool false, .int .u64 0] 35)); clear U_18 O_19 R_20 Y_21 N_22 B23)
    | (refine store_whole (w := w) (B := w.heap.size) rfl rfl 35 (.tmp 10) (.tmp 19) rfl (g := w_17.heap.size) (cs := #[.int .i64 0, .bool false, .int .u64 0]) rfl _ rfl rfl (by kernel_rfl) (by simp [Value.oneCell']) Q_29.out (rfl) L_Q.out B30.out ?_; intro w_31 h1 h2 h3 h4; have U_32 := Aside0.mk ((h3 _ NE_U_Q.out).trans U_24.out); have O_33 := Aside0.mk ((h3 _ NE_O_Q.out).trans O_25.out); have R_34 := Aside0.mk ((h3 _ NE_R_Q.out).trans R_26.out); have Y_35 := Aside0.mk ((h3 _ NE_Y_Q.out).trans Y_27.out); have N_36 := Aside0.mk ((h3 _ NE_N_Q.out).trans N_28.out); have Q_37 := Aside0.mk (h1); have B38 := Aside0.mk (h2); clear h1 h2 h3 h4 U_24 O_25 R_26 Y_27 N_28 Q_29 B30; have o0 : w_31.cell? ⟨w.heap.size + 1, 0, none⟩ = some (.int .i64 8) := (blk_cell O_33.out 0).trans rfl; have q0 : w_31.cell? ⟨w_17.heap.size, 0, none⟩ = some (.int .i64 0) := (blk_cell Q_37.out 0).trans rfl; have p0 := blk_frozen Q_37.out 0; have q1 : w_31.cell? ⟨w_17.heap.size, 1, none⟩ = some (.bool false) := (blk_cell Q_37.out 1).trans rfl; have p1 := blk_frozen Q_37.out 1; have q2 : w_31.cell? ⟨w_17.heap.size, 2, none⟩ = some (.int .u64 0) := (blk_cell Q_37.out 2).trans rfl; have p2 := blk_frozen Q_37.out 2; have U_39 := Aside0.mk (blk_far (U_32.out) (p := ⟨w_17.heap.size, 1, none⟩) NE_U_Q.out (.bool true)); have O_40 := Aside0.mk (blk_far (O_33.out) (p := ⟨w_17.heap.size, 1, none⟩) NE_O_Q.out (.bool true)); have R_41 := Aside0.mk (blk_far (R_34.out) (p := ⟨w_17.heap.size, 1, none⟩) NE_R_Q.out (.bool true)); have Y_42 := Aside0.mk (blk_far (Y_35.out) (p := ⟨w_17.heap.size, 1, none⟩) NE_Y_Q.out (.bool true)); have N_43 := Aside0.mk (blk_far (N_36.out) (p := ⟨w_17.heap.size, 1, none⟩) NE_N_Q.out (.bool true)); have Q_44 := Aside0.mk (blk_put (Q_37.out) 1 (.bool true) (cs' := #[.int .i64 0, .bool true, .int .u64 0]) rfl); have B45 := Aside0.mk (below_set (B38.out) (g := w_17.heap.size) (j := 1) (v := .bool true) L_Q.out); clear U_32 O_33 R_34 Y_35 N_36 Q_37 B38; have n0 : (w_31.setCell ⟨w_17.heap.size, 1, none⟩ (.bool true)).cell? ⟨w2.heap.size, 0, none⟩ = some (.slice A u.length c) := (blk_cell N_43.out 0).trans rfl))
  refine start_ (n := 5) (S := fun w' => w'.heap[w2.heap.size]? = some (.cells #[.slice A u.length c] 32 (0, 0)) ∧ w'.heap[w_17.heap.size]? = some (.cells #[.int .i64 0, .bool true, .int .u64 0] 35 (0, 0))) (ds := [3]) #[false, false, false, false, false] (by kernel_rfl) rfl rfl ⟨N_43.out, Q_44.out⟩ (fun hHeld => ?_)
  refine take_ (i := 0) (N := some 102) (v := ?_) (a' := ?_) #[true, false, false, false, false] rfl rfl (by kernel_rfl) (fun _ _ _ h => h) (Or.inl ⟨by rfl, ?_⟩) hHeld ?_ ?_
  rotate_left
  · rintro w' ⟨s0, s1⟩
    refine exec_load_row 32 (.tmp 9) ?_ _ ?_ 32 #[.slice A u.length c] (0, 0) _ s0 Try.underlying32 rfl (by kernel_rfl) <;> rfl
  rotate_left
  · simp only [Act.put, List.setIfInBounds_toArray, List.set_cons_zero, List.set_cons_succ, i64_w, i32_w]
    rfl
  refine take_ (i := 1) (N := some 103) (v := ?_) (a' := ?_) #[true, true, false, false, false] rfl rfl (by kernel_rfl) (fun _ _ _ h => h) (Or.inl ⟨by rfl, ?_⟩) hHeld ?_ ?_
  rotate_left
  · rintro w' ⟨s0, s1⟩
    refine exec_load_row 35 (.tmp 10) ?_ _ ?_ 35 #[.int .i64 0, .bool true, .int .u64 0] (0, 0) _ s1 Try.underlying35 rfl (by kernel_rfl) <;> rfl
  rotate_left
  · simp only [Act.put, List.setIfInBounds_toArray, List.set_cons_zero, List.set_cons_succ, i64_w, i32_w]
    rfl
  refine one_ (i := 2) (N := none) #[true, true, true, false, false] rfl rfl (by kernel_rfl) (by decide) (fun K hK => ?_)
  refine skip_whole (w := w) (B := w.heap.size) 32 (.tmp 4) (.tmp 102) (by rfl) rfl rfl (g := w.heap.size + 1 + 1) (cs := #[.slice A u.length c]) ?_ (.agg (#[.slice A u.length c])) ?_ rfl (by kernel_rfl) (by simp [Value.oneCell']) (blk_drew R_41.out) rfl L_R.out (below_drew B45.out) ?_
  · rfl
  · rfl
  intro w8 h1 h2 h3 h4
  have U_46 := Aside0.mk ((h3 _ NE_U_R.out).trans (blk_drew U_39.out))
  have O_47 := Aside0.mk ((h3 _ NE_O_R.out).trans (blk_drew O_40.out))
  have R_48 := Aside0.mk (h1)
  have Y_49 := Aside0.mk ((h3 _ (Ne.symm NE_R_Y.out)).trans (blk_drew Y_42.out))
  have N_50 := Aside0.mk ((h3 _ (Ne.symm NE_R_N.out)).trans (blk_drew N_43.out))
  have Q_51 := Aside0.mk ((h3 _ (Ne.symm NE_R_Q.out)).trans (blk_drew Q_44.out))
  have B52 := Aside0.mk (h2)
  clear h1 h2 h3 h4
  refine hK.out _ _ ⟨N_50.out, Q_51.out⟩ (fun hHeld => ?_)
  clear hK K
  refine last_ (i := 3) (N := none) #[true, true, true, true, false] rfl rfl (by kernel_rfl) (by decide) (fun K hK => ?_)
  refine skip_whole (w := w) (B := w.heap.size) 35 (.tmp 5) (.tmp 103) (by rfl) rfl rfl (g := w.heap.size + 1 + 1 + 1) (cs := #[.int .i64 0, .bool true, .int .u64 0]) ?_ (.agg (#[.int .i64 0, .bool true, .int .u64 0])) ?_ rfl (by kernel_rfl) (by simp [Value.oneCell']) (Y_49.out) rfl L_Y.out (B52.out) ?_
  · rfl
  · rfl
  intro w9 h1 h2 h3 h4
  have U_53 := Aside0.mk ((h3 _ NE_U_Y.out).trans (U_46.out))
  have O_54 := Aside0.mk ((h3 _ NE_O_Y.out).trans (O_47.out))
  have R_55 := Aside0.mk ((h3 _ NE_R_Y.out).trans (R_48.out))
  have Y_56 := Aside0.mk (h1)
  have N_57 := Aside0.mk ((h3 _ (Ne.symm NE_Y_N.out)).trans (N_50.out))
  have Q_58 := Aside0.mk ((h3 _ (Ne.symm NE_Y_Q.out)).trans (Q_51.out))
  have B59 := Aside0.mk (h2)
  clear h1 h2 h3 h4
  refine hK.out _ _ ?_
  clear hK K
  refine pure_ (i := 4) (N := some 6) (v := ?_) (a' := ?_) #[true, true, true, true, true] rfl rfl (by kernel_rfl) (fun _ _ _ h => h) (Or.inl ⟨by rfl, ?_⟩) ?_ ?_
  rotate_left
  · intro w'
    go_simp
    with_reducible rfl
  rotate_left
  · simp only [Act.put, List.setIfInBounds_toArray, List.set_cons_zero, List.set_cons_succ, i64_w, i32_w]
    rfl
  refine done_ (by kernel_rfl) ?_
  go_wp2_with fail
  exact bodyPost_ret (results_cell3 (P := Try.prog) rfl _ _ (w.heap.size + 1 + 1) (w.heap.size + 1 + 1 + 1) 32 35 #[.slice A u.length c] #[.int .i64 0, .bool true, .int .u64 0] (0, 0) (0, 0) _ _ rfl R_55.out Try.underlying32 rfl (by kernel_rfl) rfl Y_56.out Try.underlying35 rfl (by kernel_rfl) rfl) rfl ⟨rfl, B59.out⟩
set_option maxHeartbeats 8000000 in
set_option maxRecDepth 100000 in
theorem rdo1t_T (u : List S57) (A : Option Addr) (c : Nat) (k v z g : Int) (K : Nat) (w : World) (hC : Kd.C k57 w A u.length u) (hc : u.length ≤ c) (hG : revenantref21_State_Get.f K u k = some (g, true)) (hl : u.length ≤ 16) :
    Calls Try.prog 10 #[.agg #[.slice A u.length c], .agg #[.int .i64 1, .int .u64 k, .int .u64 v, .int .i64 z]] w fun e w' => e = .returned (.tuple #[.agg #[.slice A u.length c], .agg #[.int .i64 0, .bool false, .int .u64 0], .int .i64 0]) ∧ Below w.heap.size w w' := by
  have hu32 := Try.underlying32
  have hu39 := Try.underlying39
  have hu35 := Try.underlying35
  have HC := Aside0.mk hC
  have HCC := Aside0.mk hc
  have HG := Aside0.mk hG
  have t1 : decide ((16 : Int) < (u.length : Int)) = false := decide_eq_false (by omega)
  have t2 := eq_false (show ¬ (16 : Int) < (u.length : Int) by omega)
  clear hC hc hG hl
  have L_U := Aside0.mk (show w.heap.size ≤ w.heap.size from Nat.le_refl _)
  have L_O := Aside0.mk (show w.heap.size ≤ w.heap.size + 1 from by have := L_U.out; omega)
  have NE_U_O := Aside0.mk (show w.heap.size ≠ w.heap.size + 1 by omega)
  have L_R := Aside0.mk (show w.heap.size ≤ w.heap.size + 1 + 1 from by have := L_U.out; omega)
  have NE_U_R := Aside0.mk (show w.heap.size ≠ w.heap.size + 1 + 1 by omega)
  have NE_O_R := Aside0.mk (show w.heap.size + 1 ≠ w.heap.size + 1 + 1 by omega)
  have L_Y := Aside0.mk (show w.heap.size ≤ w.heap.size + 1 + 1 + 1 from by have := L_U.out; omega)
  have NE_U_Y := Aside0.mk (show w.heap.size ≠ w.heap.size + 1 + 1 + 1 by omega)
  have NE_O_Y := Aside0.mk (show w.heap.size + 1 ≠ w.heap.size + 1 + 1 + 1 by omega)
  have NE_R_Y := Aside0.mk (show w.heap.size + 1 + 1 ≠ w.heap.size + 1 + 1 + 1 by omega)
  have U_1 := Aside0.mk (blk_alloc (blk_alloc (blk_alloc (blk_new (w) (.cells (#[.slice A u.length c]) 32)) (.cells (#[.int .i64 1, .int .u64 k, .int .u64 v, .int .i64 z]) 39)) (.cells #[.slice none 0 0] 32)) (.cells #[.int .i64 0, .bool false, .int .u64 0] 35))
  have O_2 := Aside0.mk (blk_alloc (blk_alloc (blk_new2 (w) (.cells (#[.slice A u.length c]) 32) (.cells (#[.int .i64 1, .int .u64 k, .int .u64 v, .int .i64 z]) 39)) (.cells #[.slice none 0 0] 32)) (.cells #[.int .i64 0, .bool false, .int .u64 0] 35))
  have R_3 := Aside0.mk (blk_alloc (blk_new3 (w) (.cells (#[.slice A u.length c]) 32) (.cells (#[.int .i64 1, .int .u64 k, .int .u64 v, .int .i64 z]) 39) (.cells #[.slice none 0 0] 32)) (.cells #[.int .i64 0, .bool false, .int .u64 0] 35))
  have Y_4 := Aside0.mk (blk_new4 (w) (.cells (#[.slice A u.length c]) 32) (.cells (#[.int .i64 1, .int .u64 k, .int .u64 v, .int .i64 z]) 39) (.cells #[.slice none 0 0] 32) (.cells #[.int .i64 0, .bool false, .int .u64 0] 35))
  have B5 := Aside0.mk (below_alloc (below_alloc (below_alloc (below_alloc (Below.refl w.heap.size w) (.cells (#[.slice A u.length c]) 32)) (.cells (#[.int .i64 1, .int .u64 k, .int .u64 v, .int .i64 z]) 39)) (.cells #[.slice none 0 0] 32)) (.cells #[.int .i64 0, .bool false, .int .u64 0] 35))
  go_enter Try.func10, Try.ntmps10
  go_wp2_with (first
    | (refine wpList_load_row_g (by rfl) 32 (.tmp 2) rfl (w.heap.size) rfl 32 (#[.slice A u.length c]) (0, 0) _ U_1.out Try.underlying32 rfl (by kernel_rfl) ?_))
  refine (revenantref21_State_Get.calls K A c u k g true _ (Kd.C_below HC.out B5.out) HCC.out HG.out).mono ?_
  rintro e_ w2 ⟨rfl, hb⟩
  have U_6 := Aside0.mk (blk_below U_1.out hb)
  have O_7 := Aside0.mk (blk_below O_2.out hb)
  have R_8 := Aside0.mk (blk_below R_3.out hb)
  have Y_9 := Aside0.mk (blk_below Y_4.out hb)
  have B10 := Aside0.mk (below_step B5.out hb)
  clear hb U_1 O_2 R_3 Y_4 B5
  have UL := Aside0.mk (U_6.out)
  have L_N := Aside0.mk (show w.heap.size ≤ w2.heap.size from B10.out.size)
  have NE_U_N := Aside0.mk (show w.heap.size ≠ w2.heap.size by have := blk_lt U_6.out; omega)
  have NE_O_N := Aside0.mk (show w.heap.size + 1 ≠ w2.heap.size by have := blk_lt O_7.out; omega)
  have NE_R_N := Aside0.mk (show w.heap.size + 1 + 1 ≠ w2.heap.size by have := blk_lt R_8.out; omega)
  have NE_Y_N := Aside0.mk (show w.heap.size + 1 + 1 + 1 ≠ w2.heap.size by have := blk_lt Y_9.out; omega)
  have U_11 := Aside0.mk (blk_alloc U_6.out (.cells #[.slice none 0 0] 32))
  have O_12 := Aside0.mk (blk_alloc O_7.out (.cells #[.slice none 0 0] 32))
  have R_13 := Aside0.mk (blk_alloc R_8.out (.cells #[.slice none 0 0] 32))
  have Y_14 := Aside0.mk (blk_alloc Y_9.out (.cells #[.slice none 0 0] 32))
  have N_15 := Aside0.mk (blk_new (w2) (.cells #[.slice none 0 0] 32))
  have B16 := Aside0.mk (below_alloc B10.out (.cells #[.slice none 0 0] 32))
  clear U_6 O_7 R_8 Y_9 B10
  go_wp2_with (first
    | (refine wpList_load_row_g (by rfl) 32 (.tmp 2) rfl (w.heap.size) rfl 32 (#[.slice A u.length c]) (0, 0) _ UL.out Try.underlying32 rfl (by kernel_rfl) ?_)
    | (refine store_whole (w := w) (B := w.heap.size) rfl rfl 32 (.tmp 9) (.tmp 18) rfl (g := w2.heap.size) (cs := #[.slice A u.length c]) rfl _ rfl rfl (by kernel_rfl) (by simp [Value.oneCell']) N_15.out (rfl) L_N.out B16.out ?_; intro w_17 h1 h2 h3 h4; have U_18 := Aside0.mk ((h3 _ NE_U_N.out).trans U_11.out); have O_19 := Aside0.mk ((h3 _ NE_O_N.out).trans O_12.out); have R_20 := Aside0.mk ((h3 _ NE_R_N.out).trans R_13.out); have Y_21 := Aside0.mk ((h3 _ NE_Y_N.out).trans Y_14.out); have N_22 := Aside0.mk (h1); have B23 := Aside0.mk (h2); clear h1 h2 h3 h4 U_11 O_12 R_13 Y_14 N_15 B16; have L_Q := Aside0.mk (show w.heap.size ≤ w_17.heap.size from B23.out.size); have NE_U_Q := Aside0.mk (show w.heap.size ≠ w_17.heap.size by have := blk_lt U_18.out; omega); have NE_O_Q := Aside0.mk (show w.heap.size + 1 ≠ w_17.heap.size by have := blk_lt O_19.out; omega); have NE_R_Q := Aside0.mk (show w.heap.size + 1 + 1 ≠ w_17.heap.size by have := blk_lt R_20.out; omega); have NE_Y_Q := Aside0.mk (show w.heap.size + 1 + 1 + 1 ≠ w_17.heap.size by have := blk_lt Y_21.out; omega); have NE_N_Q := Aside0.mk (show w2.heap.size ≠ w_17.heap.size by have := blk_lt N_22.out; omega); have U_24 := Aside0.mk (blk_alloc U_18.out (.cells #[.int .i64 0, .bool false, .int .u64 0] 35)); have O_25 := Aside0.mk (blk_alloc O_19.out (.cells #[.int .i64 0, .bool false, .int .u64 0] 35)); have R_26 := Aside0.mk (blk_alloc R_20.out (.cells #[.int .i64 0, .bool false, .int .u64 0] 35)); have Y_27 := Aside0.mk (blk_alloc Y_21.out (.cells #[.int .i64 0, .bool false, .int .u64 0] 35)); have N_28 := Aside0.mk (blk_alloc N_22.out (.cells #[.int .i64 0, .bool false, .int .u64 0] 35)); have Q_29 := Aside0.mk (blk_new (w_17) (.cells #[.int .i64 0, .bool false, .int .u64 0] 35)); have B30 := Aside0.mk (below_alloc B23.out (.cells #[.int .i64 0, .bool false, .int .u64 0] 35)); clear U_18 O_19 R_20 Y_21 N_22 B23)
    | (refine store_whole (w := w) (B := w.heap.size) rfl rfl 35 (.tmp 10) (.tmp 19) rfl (g := w_17.heap.size) (cs := #[.int .i64 0, .bool false, .int .u64 0]) rfl _ rfl rfl (by kernel_rfl) (by simp [Value.oneCell']) Q_29.out (rfl) L_Q.out B30.out ?_; intro w_31 h1 h2 h3 h4; have U_32 := Aside0.mk ((h3 _ NE_U_Q.out).trans U_24.out); have O_33 := Aside0.mk ((h3 _ NE_O_Q.out).trans O_25.out); have R_34 := Aside0.mk ((h3 _ NE_R_Q.out).trans R_26.out); have Y_35 := Aside0.mk ((h3 _ NE_Y_Q.out).trans Y_27.out); have N_36 := Aside0.mk ((h3 _ NE_N_Q.out).trans N_28.out); have Q_37 := Aside0.mk (h1); have B38 := Aside0.mk (h2); clear h1 h2 h3 h4 U_24 O_25 R_26 Y_27 N_28 Q_29 B30; have o0 : w_31.cell? ⟨w.heap.size + 1, 0, none⟩ = some (.int .i64 1) := (blk_cell O_33.out 0).trans rfl; have q0 : w_31.cell? ⟨w_17.heap.size, 0, none⟩ = some (.int .i64 0) := (blk_cell Q_37.out 0).trans rfl; have p0 := blk_frozen Q_37.out 0; have q1 : w_31.cell? ⟨w_17.heap.size, 1, none⟩ = some (.bool false) := (blk_cell Q_37.out 1).trans rfl; have p1 := blk_frozen Q_37.out 1; have q2 : w_31.cell? ⟨w_17.heap.size, 2, none⟩ = some (.int .u64 0) := (blk_cell Q_37.out 2).trans rfl; have p2 := blk_frozen Q_37.out 2; have U_39 := Aside0.mk (blk_far (U_32.out) (p := ⟨w_17.heap.size, 1, none⟩) NE_U_Q.out (.bool false)); have O_40 := Aside0.mk (blk_far (O_33.out) (p := ⟨w_17.heap.size, 1, none⟩) NE_O_Q.out (.bool false)); have R_41 := Aside0.mk (blk_far (R_34.out) (p := ⟨w_17.heap.size, 1, none⟩) NE_R_Q.out (.bool false)); have Y_42 := Aside0.mk (blk_far (Y_35.out) (p := ⟨w_17.heap.size, 1, none⟩) NE_Y_Q.out (.bool false)); have N_43 := Aside0.mk (blk_far (N_36.out) (p := ⟨w_17.heap.size, 1, none⟩) NE_N_Q.out (.bool false)); have Q_44 := Aside0.mk (blk_put (Q_37.out) 1 (.bool false) (cs' := #[.int .i64 0, .bool false, .int .u64 0]) rfl); have B45 := Aside0.mk (below_set (B38.out) (g := w_17.heap.size) (j := 1) (v := .bool false) L_Q.out); clear U_32 O_33 R_34 Y_35 N_36 Q_37 B38; have n0 : (w_31.setCell ⟨w_17.heap.size, 1, none⟩ (.bool false)).cell? ⟨w2.heap.size, 0, none⟩ = some (.slice A u.length c) := (blk_cell N_43.out 0).trans rfl))
  refine start_ (n := 5) (S := fun w' => w'.heap[w2.heap.size]? = some (.cells #[.slice A u.length c] 32 (0, 0)) ∧ w'.heap[w_17.heap.size]? = some (.cells #[.int .i64 0, .bool false, .int .u64 0] 35 (0, 0))) (ds := [3]) #[false, false, false, false, false] (by kernel_rfl) rfl rfl ⟨N_43.out, Q_44.out⟩ (fun hHeld => ?_)
  refine take_ (i := 0) (N := some 102) (v := ?_) (a' := ?_) #[true, false, false, false, false] rfl rfl (by kernel_rfl) (fun _ _ _ h => h) (Or.inl ⟨by rfl, ?_⟩) hHeld ?_ ?_
  rotate_left
  · rintro w' ⟨s0, s1⟩
    refine exec_load_row 32 (.tmp 9) ?_ _ ?_ 32 #[.slice A u.length c] (0, 0) _ s0 Try.underlying32 rfl (by kernel_rfl) <;> rfl
  rotate_left
  · simp only [Act.put, List.setIfInBounds_toArray, List.set_cons_zero, List.set_cons_succ, i64_w, i32_w]
    rfl
  refine take_ (i := 1) (N := some 103) (v := ?_) (a' := ?_) #[true, true, false, false, false] rfl rfl (by kernel_rfl) (fun _ _ _ h => h) (Or.inl ⟨by rfl, ?_⟩) hHeld ?_ ?_
  rotate_left
  · rintro w' ⟨s0, s1⟩
    refine exec_load_row 35 (.tmp 10) ?_ _ ?_ 35 #[.int .i64 0, .bool false, .int .u64 0] (0, 0) _ s1 Try.underlying35 rfl (by kernel_rfl) <;> rfl
  rotate_left
  · simp only [Act.put, List.setIfInBounds_toArray, List.set_cons_zero, List.set_cons_succ, i64_w, i32_w]
    rfl
  refine one_ (i := 2) (N := none) #[true, true, true, false, false] rfl rfl (by kernel_rfl) (by decide) (fun K hK => ?_)
  refine skip_whole (w := w) (B := w.heap.size) 32 (.tmp 4) (.tmp 102) (by rfl) rfl rfl (g := w.heap.size + 1 + 1) (cs := #[.slice A u.length c]) ?_ (.agg (#[.slice A u.length c])) ?_ rfl (by kernel_rfl) (by simp [Value.oneCell']) (blk_drew R_41.out) rfl L_R.out (below_drew B45.out) ?_
  · rfl
  · rfl
  intro w8 h1 h2 h3 h4
  have U_46 := Aside0.mk ((h3 _ NE_U_R.out).trans (blk_drew U_39.out))
  have O_47 := Aside0.mk ((h3 _ NE_O_R.out).trans (blk_drew O_40.out))
  have R_48 := Aside0.mk (h1)
  have Y_49 := Aside0.mk ((h3 _ (Ne.symm NE_R_Y.out)).trans (blk_drew Y_42.out))
  have N_50 := Aside0.mk ((h3 _ (Ne.symm NE_R_N.out)).trans (blk_drew N_43.out))
  have Q_51 := Aside0.mk ((h3 _ (Ne.symm NE_R_Q.out)).trans (blk_drew Q_44.out))
  have B52 := Aside0.mk (h2)
  clear h1 h2 h3 h4
  refine hK.out _ _ ⟨N_50.out, Q_51.out⟩ (fun hHeld => ?_)
  clear hK K
  refine last_ (i := 3) (N := none) #[true, true, true, true, false] rfl rfl (by kernel_rfl) (by decide) (fun K hK => ?_)
  refine skip_whole (w := w) (B := w.heap.size) 35 (.tmp 5) (.tmp 103) (by rfl) rfl rfl (g := w.heap.size + 1 + 1 + 1) (cs := #[.int .i64 0, .bool false, .int .u64 0]) ?_ (.agg (#[.int .i64 0, .bool false, .int .u64 0])) ?_ rfl (by kernel_rfl) (by simp [Value.oneCell']) (Y_49.out) rfl L_Y.out (B52.out) ?_
  · rfl
  · rfl
  intro w9 h1 h2 h3 h4
  have U_53 := Aside0.mk ((h3 _ NE_U_Y.out).trans (U_46.out))
  have O_54 := Aside0.mk ((h3 _ NE_O_Y.out).trans (O_47.out))
  have R_55 := Aside0.mk ((h3 _ NE_R_Y.out).trans (R_48.out))
  have Y_56 := Aside0.mk (h1)
  have N_57 := Aside0.mk ((h3 _ (Ne.symm NE_Y_N.out)).trans (N_50.out))
  have Q_58 := Aside0.mk ((h3 _ (Ne.symm NE_Y_Q.out)).trans (Q_51.out))
  have B59 := Aside0.mk (h2)
  clear h1 h2 h3 h4
  refine hK.out _ _ ?_
  clear hK K
  refine pure_ (i := 4) (N := some 6) (v := ?_) (a' := ?_) #[true, true, true, true, true] rfl rfl (by kernel_rfl) (fun _ _ _ h => h) (Or.inl ⟨by rfl, ?_⟩) ?_ ?_
  rotate_left
  · intro w'
    go_simp
    with_reducible rfl
  rotate_left
  · simp only [Act.put, List.setIfInBounds_toArray, List.set_cons_zero, List.set_cons_succ, i64_w, i32_w]
    rfl
  refine done_ (by kernel_rfl) ?_
  go_wp2_with fail
  exact bodyPost_ret (results_cell3 (P := Try.prog) rfl _ _ (w.heap.size + 1 + 1) (w.heap.size + 1 + 1 + 1) 32 35 #[.slice A u.length c] #[.int .i64 0, .bool false, .int .u64 0] (0, 0) (0, 0) _ _ rfl R_55.out Try.underlying32 rfl (by kernel_rfl) rfl Y_56.out Try.underlying35 rfl (by kernel_rfl) rfl) rfl ⟨rfl, B59.out⟩
set_option maxHeartbeats 8000000 in
set_option maxRecDepth 100000 in
theorem rdo5t_T (u : List S57) (A : Option Addr) (c : Nat) (k v z g : Int) (K : Nat) (w : World) (hC : Kd.C k57 w A u.length u) (hc : u.length ≤ c) (hG : revenantref21_State_Get.f K u k = some (g, true)) (hl : u.length ≤ 16) :
    Calls Try.prog 10 #[.agg #[.slice A u.length c], .agg #[.int .i64 5, .int .u64 k, .int .u64 v, .int .i64 z]] w fun e w' => e = .returned (.tuple #[.agg #[.slice A u.length c], .agg #[.int .i64 0, .bool false, .int .u64 g], .int .i64 0]) ∧ Below w.heap.size w w' := by
  have hu32 := Try.underlying32
  have hu39 := Try.underlying39
  have hu35 := Try.underlying35
  have HC := Aside0.mk hC
  have HCC := Aside0.mk hc
  have HG := Aside0.mk hG
  have t1 : decide ((16 : Int) < (u.length : Int)) = false := decide_eq_false (by omega)
  have t2 := eq_false (show ¬ (16 : Int) < (u.length : Int) by omega)
  clear hC hc hG hl
  have L_U := Aside0.mk (show w.heap.size ≤ w.heap.size from Nat.le_refl _)
  have L_O := Aside0.mk (show w.heap.size ≤ w.heap.size + 1 from by have := L_U.out; omega)
  have NE_U_O := Aside0.mk (show w.heap.size ≠ w.heap.size + 1 by omega)
  have L_R := Aside0.mk (show w.heap.size ≤ w.heap.size + 1 + 1 from by have := L_U.out; omega)
  have NE_U_R := Aside0.mk (show w.heap.size ≠ w.heap.size + 1 + 1 by omega)
  have NE_O_R := Aside0.mk (show w.heap.size + 1 ≠ w.heap.size + 1 + 1 by omega)
  have L_Y := Aside0.mk (show w.heap.size ≤ w.heap.size + 1 + 1 + 1 from by have := L_U.out; omega)
  have NE_U_Y := Aside0.mk (show w.heap.size ≠ w.heap.size + 1 + 1 + 1 by omega)
  have NE_O_Y := Aside0.mk (show w.heap.size + 1 ≠ w.heap.size + 1 + 1 + 1 by omega)
  have NE_R_Y := Aside0.mk (show w.heap.size + 1 + 1 ≠ w.heap.size + 1 + 1 + 1 by omega)
  have U_1 := Aside0.mk (blk_alloc (blk_alloc (blk_alloc (blk_new (w) (.cells (#[.slice A u.length c]) 32)) (.cells (#[.int .i64 5, .int .u64 k, .int .u64 v, .int .i64 z]) 39)) (.cells #[.slice none 0 0] 32)) (.cells #[.int .i64 0, .bool false, .int .u64 0] 35))
  have O_2 := Aside0.mk (blk_alloc (blk_alloc (blk_new2 (w) (.cells (#[.slice A u.length c]) 32) (.cells (#[.int .i64 5, .int .u64 k, .int .u64 v, .int .i64 z]) 39)) (.cells #[.slice none 0 0] 32)) (.cells #[.int .i64 0, .bool false, .int .u64 0] 35))
  have R_3 := Aside0.mk (blk_alloc (blk_new3 (w) (.cells (#[.slice A u.length c]) 32) (.cells (#[.int .i64 5, .int .u64 k, .int .u64 v, .int .i64 z]) 39) (.cells #[.slice none 0 0] 32)) (.cells #[.int .i64 0, .bool false, .int .u64 0] 35))
  have Y_4 := Aside0.mk (blk_new4 (w) (.cells (#[.slice A u.length c]) 32) (.cells (#[.int .i64 5, .int .u64 k, .int .u64 v, .int .i64 z]) 39) (.cells #[.slice none 0 0] 32) (.cells #[.int .i64 0, .bool false, .int .u64 0] 35))
  have B5 := Aside0.mk (below_alloc (below_alloc (below_alloc (below_alloc (Below.refl w.heap.size w) (.cells (#[.slice A u.length c]) 32)) (.cells (#[.int .i64 5, .int .u64 k, .int .u64 v, .int .i64 z]) 39)) (.cells #[.slice none 0 0] 32)) (.cells #[.int .i64 0, .bool false, .int .u64 0] 35))
  go_enter Try.func10, Try.ntmps10
  go_wp2_with (first
    | (refine wpList_load_row_g (by rfl) 32 (.tmp 2) rfl (w.heap.size) rfl 32 (#[.slice A u.length c]) (0, 0) _ U_1.out Try.underlying32 rfl (by kernel_rfl) ?_))
  refine (revenantref21_State_Get.calls K A c u k g true _ (Kd.C_below HC.out B5.out) HCC.out HG.out).mono ?_
  rintro e_ w2 ⟨rfl, hb⟩
  have U_6 := Aside0.mk (blk_below U_1.out hb)
  have O_7 := Aside0.mk (blk_below O_2.out hb)
  have R_8 := Aside0.mk (blk_below R_3.out hb)
  have Y_9 := Aside0.mk (blk_below Y_4.out hb)
  have B10 := Aside0.mk (below_step B5.out hb)
  clear hb U_1 O_2 R_3 Y_4 B5
  have UL := Aside0.mk (U_6.out)
  have L_N := Aside0.mk (show w.heap.size ≤ w2.heap.size from B10.out.size)
  have NE_U_N := Aside0.mk (show w.heap.size ≠ w2.heap.size by have := blk_lt U_6.out; omega)
  have NE_O_N := Aside0.mk (show w.heap.size + 1 ≠ w2.heap.size by have := blk_lt O_7.out; omega)
  have NE_R_N := Aside0.mk (show w.heap.size + 1 + 1 ≠ w2.heap.size by have := blk_lt R_8.out; omega)
  have NE_Y_N := Aside0.mk (show w.heap.size + 1 + 1 + 1 ≠ w2.heap.size by have := blk_lt Y_9.out; omega)
  have U_11 := Aside0.mk (blk_alloc U_6.out (.cells #[.slice none 0 0] 32))
  have O_12 := Aside0.mk (blk_alloc O_7.out (.cells #[.slice none 0 0] 32))
  have R_13 := Aside0.mk (blk_alloc R_8.out (.cells #[.slice none 0 0] 32))
  have Y_14 := Aside0.mk (blk_alloc Y_9.out (.cells #[.slice none 0 0] 32))
  have N_15 := Aside0.mk (blk_new (w2) (.cells #[.slice none 0 0] 32))
  have B16 := Aside0.mk (below_alloc B10.out (.cells #[.slice none 0 0] 32))
  clear U_6 O_7 R_8 Y_9 B10
  go_wp2_with (first
    | (refine wpList_load_row_g (by rfl) 32 (.tmp 2) rfl (w.heap.size) rfl 32 (#[.slice A u.length c]) (0, 0) _ UL.out Try.underlying32 rfl (by kernel_rfl) ?_)
    | (refine store_whole (w := w) (B := w.heap.size) rfl rfl 32 (.tmp 9) (.tmp 18) rfl (g := w2.heap.size) (cs := #[.slice A u.length c]) rfl _ rfl rfl (by kernel_rfl) (by simp [Value.oneCell']) N_15.out (rfl) L_N.out B16.out ?_; intro w_17 h1 h2 h3 h4; have U_18 := Aside0.mk ((h3 _ NE_U_N.out).trans U_11.out); have O_19 := Aside0.mk ((h3 _ NE_O_N.out).trans O_12.out); have R_20 := Aside0.mk ((h3 _ NE_R_N.out).trans R_13.out); have Y_21 := Aside0.mk ((h3 _ NE_Y_N.out).trans Y_14.out); have N_22 := Aside0.mk (h1); have B23 := Aside0.mk (h2); clear h1 h2 h3 h4 U_11 O_12 R_13 Y_14 N_15 B16; have L_Q := Aside0.mk (show w.heap.size ≤ w_17.heap.size from B23.out.size); have NE_U_Q := Aside0.mk (show w.heap.size ≠ w_17.heap.size by have := blk_lt U_18.out; omega); have NE_O_Q := Aside0.mk (show w.heap.size + 1 ≠ w_17.heap.size by have := blk_lt O_19.out; omega); have NE_R_Q := Aside0.mk (show w.heap.size + 1 + 1 ≠ w_17.heap.size by have := blk_lt R_20.out; omega); have NE_Y_Q := Aside0.mk (show w.heap.size + 1 + 1 + 1 ≠ w_17.heap.size by have := blk_lt Y_21.out; omega); have NE_N_Q := Aside0.mk (show w2.heap.size ≠ w_17.heap.size by have := blk_lt N_22.out; omega); have U_24 := Aside0.mk (blk_alloc U_18.out (.cells #[.int .i64 0, .bool false, .int .u64 0] 35)); have O_25 := Aside0.mk (blk_alloc O_19.out (.cells #[.int .i64 0, .bool false, .int .u64 0] 35)); have R_26 := Aside0.mk (blk_alloc R_20.out (.cells #[.int .i64 0, .bool false, .int .u64 0] 35)); have Y_27 := Aside0.mk (blk_alloc Y_21.out (.cells #[.int .i64 0, .bool false, .int .u64 0] 35)); have N_28 := Aside0.mk (blk_alloc N_22.out (.cells #[.int .i64 0, .bool false, .int .u64 0] 35)); have Q_29 := Aside0.mk (blk_new (w_17) (.cells #[.int .i64 0, .bool false, .int .u64 0] 35)); have B30 := Aside0.mk (below_alloc B23.out (.cells #[.int .i64 0, .bool false, .int .u64 0] 35)); clear U_18 O_19 R_20 Y_21 N_22 B23)
    | (refine store_whole (w := w) (B := w.heap.size) rfl rfl 35 (.tmp 10) (.tmp 19) rfl (g := w_17.heap.size) (cs := #[.int .i64 0, .bool false, .int .u64 0]) rfl _ rfl rfl (by kernel_rfl) (by simp [Value.oneCell']) Q_29.out (rfl) L_Q.out B30.out ?_; intro w_31 h1 h2 h3 h4; have U_32 := Aside0.mk ((h3 _ NE_U_Q.out).trans U_24.out); have O_33 := Aside0.mk ((h3 _ NE_O_Q.out).trans O_25.out); have R_34 := Aside0.mk ((h3 _ NE_R_Q.out).trans R_26.out); have Y_35 := Aside0.mk ((h3 _ NE_Y_Q.out).trans Y_27.out); have N_36 := Aside0.mk ((h3 _ NE_N_Q.out).trans N_28.out); have Q_37 := Aside0.mk (h1); have B38 := Aside0.mk (h2); clear h1 h2 h3 h4 U_24 O_25 R_26 Y_27 N_28 Q_29 B30; have o0 : w_31.cell? ⟨w.heap.size + 1, 0, none⟩ = some (.int .i64 5) := (blk_cell O_33.out 0).trans rfl; have q0 : w_31.cell? ⟨w_17.heap.size, 0, none⟩ = some (.int .i64 0) := (blk_cell Q_37.out 0).trans rfl; have p0 := blk_frozen Q_37.out 0; have q1 : w_31.cell? ⟨w_17.heap.size, 1, none⟩ = some (.bool false) := (blk_cell Q_37.out 1).trans rfl; have p1 := blk_frozen Q_37.out 1; have q2 : w_31.cell? ⟨w_17.heap.size, 2, none⟩ = some (.int .u64 0) := (blk_cell Q_37.out 2).trans rfl; have p2 := blk_frozen Q_37.out 2; have U_39 := Aside0.mk (blk_far (blk_far (U_32.out) (p := ⟨w_17.heap.size, 1, none⟩) NE_U_Q.out (.bool false)) (p := ⟨w_17.heap.size, 2, none⟩) NE_U_Q.out (.int .u64 g)); have O_40 := Aside0.mk (blk_far (blk_far (O_33.out) (p := ⟨w_17.heap.size, 1, none⟩) NE_O_Q.out (.bool false)) (p := ⟨w_17.heap.size, 2, none⟩) NE_O_Q.out (.int .u64 g)); have R_41 := Aside0.mk (blk_far (blk_far (R_34.out) (p := ⟨w_17.heap.size, 1, none⟩) NE_R_Q.out (.bool false)) (p := ⟨w_17.heap.size, 2, none⟩) NE_R_Q.out (.int .u64 g)); have Y_42 := Aside0.mk (blk_far (blk_far (Y_35.out) (p := ⟨w_17.heap.size, 1, none⟩) NE_Y_Q.out (.bool false)) (p := ⟨w_17.heap.size, 2, none⟩) NE_Y_Q.out (.int .u64 g)); have N_43 := Aside0.mk (blk_far (blk_far (N_36.out) (p := ⟨w_17.heap.size, 1, none⟩) NE_N_Q.out (.bool false)) (p := ⟨w_17.heap.size, 2, none⟩) NE_N_Q.out (.int .u64 g)); have Q_44 := Aside0.mk (blk_put (blk_set (Q_37.out) 1 (.bool false)) 2 (.int .u64 g) (cs' := #[.int .i64 0, .bool false, .int .u64 g]) rfl); have B45 := Aside0.mk (below_set (below_set (B38.out) (g := w_17.heap.size) (j := 1) (v := .bool false) L_Q.out) (g := w_17.heap.size) (j := 2) (v := .int .u64 g) L_Q.out); clear U_32 O_33 R_34 Y_35 N_36 Q_37 B38; have n0 : ((w_31.setCell ⟨w_17.heap.size, 1, none⟩ (.bool false)).setCell ⟨w_17.heap.size, 2, none⟩ (.int .u64 g)).cell? ⟨w2.heap.size, 0, none⟩ = some (.slice A u.length c) := (blk_cell N_43.out 0).trans rfl))
  refine start_ (n := 5) (S := fun w' => w'.heap[w2.heap.size]? = some (.cells #[.slice A u.length c] 32 (0, 0)) ∧ w'.heap[w_17.heap.size]? = some (.cells #[.int .i64 0, .bool false, .int .u64 g] 35 (0, 0))) (ds := [3]) #[false, false, false, false, false] (by kernel_rfl) rfl rfl ⟨N_43.out, Q_44.out⟩ (fun hHeld => ?_)
  refine take_ (i := 0) (N := some 102) (v := ?_) (a' := ?_) #[true, false, false, false, false] rfl rfl (by kernel_rfl) (fun _ _ _ h => h) (Or.inl ⟨by rfl, ?_⟩) hHeld ?_ ?_
  rotate_left
  · rintro w' ⟨s0, s1⟩
    refine exec_load_row 32 (.tmp 9) ?_ _ ?_ 32 #[.slice A u.length c] (0, 0) _ s0 Try.underlying32 rfl (by kernel_rfl) <;> rfl
  rotate_left
  · simp only [Act.put, List.setIfInBounds_toArray, List.set_cons_zero, List.set_cons_succ, i64_w, i32_w]
    rfl
  refine take_ (i := 1) (N := some 103) (v := ?_) (a' := ?_) #[true, true, false, false, false] rfl rfl (by kernel_rfl) (fun _ _ _ h => h) (Or.inl ⟨by rfl, ?_⟩) hHeld ?_ ?_
  rotate_left
  · rintro w' ⟨s0, s1⟩
    refine exec_load_row 35 (.tmp 10) ?_ _ ?_ 35 #[.int .i64 0, .bool false, .int .u64 g] (0, 0) _ s1 Try.underlying35 rfl (by kernel_rfl) <;> rfl
  rotate_left
  · simp only [Act.put, List.setIfInBounds_toArray, List.set_cons_zero, List.set_cons_succ, i64_w, i32_w]
    rfl
  refine one_ (i := 2) (N := none) #[true, true, true, false, false] rfl rfl (by kernel_rfl) (by decide) (fun K hK => ?_)
  refine skip_whole (w := w) (B := w.heap.size) 32 (.tmp 4) (.tmp 102) (by rfl) rfl rfl (g := w.heap.size + 1 + 1) (cs := #[.slice A u.length c]) ?_ (.agg (#[.slice A u.length c])) ?_ rfl (by kernel_rfl) (by simp [Value.oneCell']) (blk_drew R_41.out) rfl L_R.out (below_drew B45.out) ?_
  · rfl
  · rfl
  intro w8 h1 h2 h3 h4
  have U_46 := Aside0.mk ((h3 _ NE_U_R.out).trans (blk_drew U_39.out))
  have O_47 := Aside0.mk ((h3 _ NE_O_R.out).trans (blk_drew O_40.out))
  have R_48 := Aside0.mk (h1)
  have Y_49 := Aside0.mk ((h3 _ (Ne.symm NE_R_Y.out)).trans (blk_drew Y_42.out))
  have N_50 := Aside0.mk ((h3 _ (Ne.symm NE_R_N.out)).trans (blk_drew N_43.out))
  have Q_51 := Aside0.mk ((h3 _ (Ne.symm NE_R_Q.out)).trans (blk_drew Q_44.out))
  have B52 := Aside0.mk (h2)
  clear h1 h2 h3 h4
  refine hK.out _ _ ⟨N_50.out, Q_51.out⟩ (fun hHeld => ?_)
  clear hK K
  refine last_ (i := 3) (N := none) #[true, true, true, true, false] rfl rfl (by kernel_rfl) (by decide) (fun K hK => ?_)
  refine skip_whole (w := w) (B := w.heap.size) 35 (.tmp 5) (.tmp 103) (by rfl) rfl rfl (g := w.heap.size + 1 + 1 + 1) (cs := #[.int .i64 0, .bool false, .int .u64 g]) ?_ (.agg (#[.int .i64 0, .bool false, .int .u64 g])) ?_ rfl (by kernel_rfl) (by simp [Value.oneCell']) (Y_49.out) rfl L_Y.out (B52.out) ?_
  · rfl
  · rfl
  intro w9 h1 h2 h3 h4
  have U_53 := Aside0.mk ((h3 _ NE_U_Y.out).trans (U_46.out))
  have O_54 := Aside0.mk ((h3 _ NE_O_Y.out).trans (O_47.out))
  have R_55 := Aside0.mk ((h3 _ NE_R_Y.out).trans (R_48.out))
  have Y_56 := Aside0.mk (h1)
  have N_57 := Aside0.mk ((h3 _ (Ne.symm NE_Y_N.out)).trans (N_50.out))
  have Q_58 := Aside0.mk ((h3 _ (Ne.symm NE_Y_Q.out)).trans (Q_51.out))
  have B59 := Aside0.mk (h2)
  clear h1 h2 h3 h4
  refine hK.out _ _ ?_
  clear hK K
  refine pure_ (i := 4) (N := some 6) (v := ?_) (a' := ?_) #[true, true, true, true, true] rfl rfl (by kernel_rfl) (fun _ _ _ h => h) (Or.inl ⟨by rfl, ?_⟩) ?_ ?_
  rotate_left
  · intro w'
    go_simp
    with_reducible rfl
  rotate_left
  · simp only [Act.put, List.setIfInBounds_toArray, List.set_cons_zero, List.set_cons_succ, i64_w, i32_w]
    rfl
  refine done_ (by kernel_rfl) ?_
  go_wp2_with fail
  exact bodyPost_ret (results_cell3 (P := Try.prog) rfl _ _ (w.heap.size + 1 + 1) (w.heap.size + 1 + 1 + 1) 32 35 #[.slice A u.length c] #[.int .i64 0, .bool false, .int .u64 g] (0, 0) (0, 0) _ _ rfl R_55.out Try.underlying32 rfl (by kernel_rfl) rfl Y_56.out Try.underlying35 rfl (by kernel_rfl) rfl) rfl ⟨rfl, B59.out⟩
set_option maxHeartbeats 8000000 in
set_option maxRecDepth 100000 in
theorem rdoN_T (u : List S57) (A : Option Addr) (c : Nat) (kd k v z g : Int) (b : Bool) (K : Nat) (w : World) (hC : Kd.C k57 w A u.length u) (hc : u.length ≤ c) (hG : revenantref21_State_Get.f K u k = some (g, b)) (hk : ¬ (1 ≤ kd ∧ kd ≤ 8)) :
    Calls Try.prog 10 #[.agg #[.slice A u.length c], .agg #[.int .i64 kd, .int .u64 k, .int .u64 v, .int .i64 z]] w fun e w' => e = .returned (.tuple #[.agg #[.slice none 0 0], .agg #[.int .i64 0, .bool false, .int .u64 0], .int .i64 8]) ∧ Below w.heap.size w w' := by
  have hu32 := Try.underlying32
  have hu39 := Try.underlying39
  have hu35 := Try.underlying35
  have HC := Aside0.mk hC
  have HCC := Aside0.mk hc
  have HG := Aside0.mk hG
  have t1 := eq_false (show ¬ (kd = 1) by omega)
  have u1 : (kd == 1) = false := beq_eq_false_iff_ne.2 (by omega)
  have t2 := eq_false (show ¬ (kd = 2) by omega)
  have u2 : (kd == 2) = false := beq_eq_false_iff_ne.2 (by omega)
  have t3 := eq_false (show ¬ (kd = 3) by omega)
  have u3 : (kd == 3) = false := beq_eq_false_iff_ne.2 (by omega)
  have t4 := eq_false (show ¬ (kd = 4) by omega)
  have u4 : (kd == 4) = false := beq_eq_false_iff_ne.2 (by omega)
  have t5 := eq_false (show ¬ (kd = 5) by omega)
  have u5 : (kd == 5) = false := beq_eq_false_iff_ne.2 (by omega)
  have t6 := eq_false (show ¬ (kd = 6) by omega)
  have u6 : (kd == 6) = false := beq_eq_false_iff_ne.2 (by omega)
  have t7 := eq_false (show ¬ (kd = 7) by omega)
  have u7 : (kd == 7) = false := beq_eq_false_iff_ne.2 (by omega)
  have t8 := eq_false (show ¬ (kd = 8) by omega)
  have u8 : (kd == 8) = false := beq_eq_false_iff_ne.2 (by omega)
  clear hC hc hG hk
  have L_U := Aside0.mk (show w.heap.size ≤ w.heap.size from Nat.le_refl _)
  have L_O := Aside0.mk (show w.heap.size ≤ w.heap.size + 1 from by have := L_U.out; omega)
  have NE_U_O := Aside0.mk (show w.heap.size ≠ w.heap.size + 1 by omega)
  have L_R := Aside0.mk (show w.heap.size ≤ w.heap.size + 1 + 1 from by have := L_U.out; omega)
  have NE_U_R := Aside0.mk (show w.heap.size ≠ w.heap.size + 1 + 1 by omega)
  have NE_O_R := Aside0.mk (show w.heap.size + 1 ≠ w.heap.size + 1 + 1 by omega)
  have L_Y := Aside0.mk (show w.heap.size ≤ w.heap.size + 1 + 1 + 1 from by have := L_U.out; omega)
  have NE_U_Y := Aside0.mk (show w.heap.size ≠ w.heap.size + 1 + 1 + 1 by omega)
  have NE_O_Y := Aside0.mk (show w.heap.size + 1 ≠ w.heap.size + 1 + 1 + 1 by omega)
  have NE_R_Y := Aside0.mk (show w.heap.size + 1 + 1 ≠ w.heap.size + 1 + 1 + 1 by omega)
  have U_1 := Aside0.mk (blk_alloc (blk_alloc (blk_alloc (blk_new (w) (.cells (#[.slice A u.length c]) 32)) (.cells (#[.int .i64 kd, .int .u64 k, .int .u64 v, .int .i64 z]) 39)) (.cells #[.slice none 0 0] 32)) (.cells #[.int .i64 0, .bool false, .int .u64 0] 35))
  have O_2 := Aside0.mk (blk_alloc (blk_alloc (blk_new2 (w) (.cells (#[.slice A u.length c]) 32) (.cells (#[.int .i64 kd, .int .u64 k, .int .u64 v, .int .i64 z]) 39)) (.cells #[.slice none 0 0] 32)) (.cells #[.int .i64 0, .bool false, .int .u64 0] 35))
  have R_3 := Aside0.mk (blk_alloc (blk_new3 (w) (.cells (#[.slice A u.length c]) 32) (.cells (#[.int .i64 kd, .int .u64 k, .int .u64 v, .int .i64 z]) 39) (.cells #[.slice none 0 0] 32)) (.cells #[.int .i64 0, .bool false, .int .u64 0] 35))
  have Y_4 := Aside0.mk (blk_new4 (w) (.cells (#[.slice A u.length c]) 32) (.cells (#[.int .i64 kd, .int .u64 k, .int .u64 v, .int .i64 z]) 39) (.cells #[.slice none 0 0] 32) (.cells #[.int .i64 0, .bool false, .int .u64 0] 35))
  have B5 := Aside0.mk (below_alloc (below_alloc (below_alloc (below_alloc (Below.refl w.heap.size w) (.cells (#[.slice A u.length c]) 32)) (.cells (#[.int .i64 kd, .int .u64 k, .int .u64 v, .int .i64 z]) 39)) (.cells #[.slice none 0 0] 32)) (.cells #[.int .i64 0, .bool false, .int .u64 0] 35))
  go_enter Try.func10, Try.ntmps10
  go_wp2_with (first
    | (refine wpList_load_row_g (by rfl) 32 (.tmp 2) rfl (w.heap.size) rfl 32 (#[.slice A u.length c]) (0, 0) _ U_1.out Try.underlying32 rfl (by kernel_rfl) ?_))
  refine (revenantref21_State_Get.calls K A c u k g b _ (Kd.C_below HC.out B5.out) HCC.out HG.out).mono ?_
  rintro e_ w2 ⟨rfl, hb⟩
  have U_6 := Aside0.mk (blk_below U_1.out hb)
  have O_7 := Aside0.mk (blk_below O_2.out hb)
  have R_8 := Aside0.mk (blk_below R_3.out hb)
  have Y_9 := Aside0.mk (blk_below Y_4.out hb)
  have B10 := Aside0.mk (below_step B5.out hb)
  clear hb U_1 O_2 R_3 Y_4 B5
  have UL := Aside0.mk (U_6.out)
  have L_N := Aside0.mk (show w.heap.size ≤ w2.heap.size from B10.out.size)
  have NE_U_N := Aside0.mk (show w.heap.size ≠ w2.heap.size by have := blk_lt U_6.out; omega)
  have NE_O_N := Aside0.mk (show w.heap.size + 1 ≠ w2.heap.size by have := blk_lt O_7.out; omega)
  have NE_R_N := Aside0.mk (show w.heap.size + 1 + 1 ≠ w2.heap.size by have := blk_lt R_8.out; omega)
  have NE_Y_N := Aside0.mk (show w.heap.size + 1 + 1 + 1 ≠ w2.heap.size by have := blk_lt Y_9.out; omega)
  have U_11 := Aside0.mk (blk_alloc U_6.out (.cells #[.slice none 0 0] 32))
  have O_12 := Aside0.mk (blk_alloc O_7.out (.cells #[.slice none 0 0] 32))
  have R_13 := Aside0.mk (blk_alloc R_8.out (.cells #[.slice none 0 0] 32))
  have Y_14 := Aside0.mk (blk_alloc Y_9.out (.cells #[.slice none 0 0] 32))
  have N_15 := Aside0.mk (blk_new (w2) (.cells #[.slice none 0 0] 32))
  have B16 := Aside0.mk (below_alloc B10.out (.cells #[.slice none 0 0] 32))
  clear U_6 O_7 R_8 Y_9 B10
  go_wp2_with (first
    | (refine wpList_load_row_g (by rfl) 32 (.tmp 2) rfl (w.heap.size) rfl 32 (#[.slice A u.length c]) (0, 0) _ UL.out Try.underlying32 rfl (by kernel_rfl) ?_)
    | (refine store_whole (w := w) (B := w.heap.size) rfl rfl 32 (.tmp 9) (.tmp 18) rfl (g := w2.heap.size) (cs := #[.slice A u.length c]) rfl _ rfl rfl (by kernel_rfl) (by simp [Value.oneCell']) N_15.out (rfl) L_N.out B16.out ?_; intro w_17 h1 h2 h3 h4; have U_18 := Aside0.mk ((h3 _ NE_U_N.out).trans U_11.out); have O_19 := Aside0.mk ((h3 _ NE_O_N.out).trans O_12.out); have R_20 := Aside0.mk ((h3 _ NE_R_N.out).trans R_13.out); have Y_21 := Aside0.mk ((h3 _ NE_Y_N.out).trans Y_14.out); have N_22 := Aside0.mk (h1); have B23 := Aside0.mk (h2); clear h1 h2 h3 h4 U_11 O_12 R_13 Y_14 N_15 B16; have L_Q := Aside0.mk (show w.heap.size ≤ w_17.heap.size from B23.out.size); have NE_U_Q := Aside0.mk (show w.heap.size ≠ w_17.heap.size by have := blk_lt U_18.out; omega); have NE_O_Q := Aside0.mk (show w.heap.size + 1 ≠ w_17.heap.size by have := blk_lt O_19.out; omega); have NE_R_Q := Aside0.mk (show w.heap.size + 1 + 1 ≠ w_17.heap.size by have := blk_lt R_20.out; omega); have NE_Y_Q := Aside0.mk (show w.heap.size + 1 + 1 + 1 ≠ w_17.heap.size by have := blk_lt Y_21.out; omega); have NE_N_Q := Aside0.mk (show w2.heap.size ≠ w_17.heap.size by have := blk_lt N_22.out; omega); have U_24 := Aside0.mk (blk_alloc U_18.out (.cells #[.int .i64 0, .bool false, .int .u64 0] 35)); have O_25 := Aside0.mk (blk_alloc O_19.out (.cells #[.int .i64 0, .bool false, .int .u64 0] 35)); have R_26 := Aside0.mk (blk_alloc R_20.out (.cells #[.int .i64 0, .bool false, .int .u64 0] 35)); have Y_27 := Aside0.mk (blk_alloc Y_21.out (.cells #[.int .i64 0, .bool false, .int .u64 0] 35)); have N_28 := Aside0.mk (blk_alloc N_22.out (.cells #[.int .i64 0, .bool false, .int .u64 0] 35)); have Q_29 := Aside0.mk (blk_new (w_17) (.cells #[.int .i64 0, .bool false, .int .u64 0] 35)); have B30 := Aside0.mk (below_alloc B23.out (.cells #[.int .i64 0, .bool false, .int .u64 0] 35)); clear U_18 O_19 R_20 Y_21 N_22 B23)
    | (refine store_whole (w := w) (B := w.heap.size) rfl rfl 35 (.tmp 10) (.tmp 19) rfl (g := w_17.heap.size) (cs := #[.int .i64 0, .bool false, .int .u64 0]) rfl _ rfl rfl (by kernel_rfl) (by simp [Value.oneCell']) Q_29.out (rfl) L_Q.out B30.out ?_; intro w_31 h1 h2 h3 h4; have U_32 := Aside0.mk ((h3 _ NE_U_Q.out).trans U_24.out); have O_33 := Aside0.mk ((h3 _ NE_O_Q.out).trans O_25.out); have R_34 := Aside0.mk ((h3 _ NE_R_Q.out).trans R_26.out); have Y_35 := Aside0.mk ((h3 _ NE_Y_Q.out).trans Y_27.out); have N_36 := Aside0.mk ((h3 _ NE_N_Q.out).trans N_28.out); have Q_37 := Aside0.mk (h1); have B38 := Aside0.mk (h2); clear h1 h2 h3 h4 U_24 O_25 R_26 Y_27 N_28 Q_29 B30; have o0 : w_31.cell? ⟨w.heap.size + 1, 0, none⟩ = some (.int .i64 kd) := (blk_cell O_33.out 0).trans rfl; have q0 : w_31.cell? ⟨w_17.heap.size, 0, none⟩ = some (.int .i64 0) := (blk_cell Q_37.out 0).trans rfl; have p0 := blk_frozen Q_37.out 0; have q1 : w_31.cell? ⟨w_17.heap.size, 1, none⟩ = some (.bool false) := (blk_cell Q_37.out 1).trans rfl; have p1 := blk_frozen Q_37.out 1; have q2 : w_31.cell? ⟨w_17.heap.size, 2, none⟩ = some (.int .u64 0) := (blk_cell Q_37.out 2).trans rfl; have p2 := blk_frozen Q_37.out 2; have n0 : w_31.cell? ⟨w2.heap.size, 0, none⟩ = some (.slice A u.length c) := (blk_cell N_36.out 0).trans rfl))
  refine start_ (n := 5) (S := fun w' => w'.heap[w_17.heap.size]? = some (.cells #[.int .i64 0, .bool false, .int .u64 0] 35 (0, 0))) (ds := [3]) #[false, false, false, false, false] (by kernel_rfl) rfl rfl (Q_37.out) (fun hHeld => ?_)
  refine pure_ (i := 0) (N := some 22) (v := ?_) (a' := ?_) #[true, false, false, false, false] rfl rfl (by kernel_rfl) (fun _ _ _ h => h) (Or.inl ⟨by rfl, ?_⟩) ?_ ?_
  rotate_left
  · intro w'
    go_simp
    with_reducible rfl
  rotate_left
  · simp only [Act.put, List.setIfInBounds_toArray, List.set_cons_zero, List.set_cons_succ, i64_w, i32_w]
    rfl
  refine take_ (i := 1) (N := some 23) (v := ?_) (a' := ?_) #[true, true, false, false, false] rfl rfl (by kernel_rfl) (fun _ _ _ h => h) (Or.inl ⟨by rfl, ?_⟩) hHeld ?_ ?_
  rotate_left
  · intro w' s0
    refine exec_load_row 35 (.tmp 10) ?_ _ ?_ 35 #[.int .i64 0, .bool false, .int .u64 0] (0, 0) _ s0 Try.underlying35 rfl (by kernel_rfl) <;> rfl
  rotate_left
  · simp only [Act.put, List.setIfInBounds_toArray, List.set_cons_zero, List.set_cons_succ, i64_w, i32_w]
    rfl
  refine one_ (i := 2) (N := none) #[true, true, true, false, false] rfl rfl (by kernel_rfl) (by decide) (fun K hK => ?_)
  refine skip_whole (w := w) (B := w.heap.size) 32 (.tmp 4) (.tmp 22) (by rfl) rfl rfl (g := w.heap.size + 1 + 1) (cs := #[.slice none 0 0]) ?_ (.agg (#[.slice none 0 0])) ?_ rfl (by kernel_rfl) (by simp [Value.oneCell']) (blk_drew R_34.out) rfl L_R.out (below_drew B38.out) ?_
  · rfl
  · rfl
  intro w8 h1 h2 h3 h4
  have U_39 := Aside0.mk ((h3 _ NE_U_R.out).trans (blk_drew U_32.out))
  have O_40 := Aside0.mk ((h3 _ NE_O_R.out).trans (blk_drew O_33.out))
  have R_41 := Aside0.mk (h1)
  have Y_42 := Aside0.mk ((h3 _ (Ne.symm NE_R_Y.out)).trans (blk_drew Y_35.out))
  have N_43 := Aside0.mk ((h3 _ (Ne.symm NE_R_N.out)).trans (blk_drew N_36.out))
  have Q_44 := Aside0.mk ((h3 _ (Ne.symm NE_R_Q.out)).trans (blk_drew Q_37.out))
  have B45 := Aside0.mk (h2)
  clear h1 h2 h3 h4
  refine hK.out _ _ (Q_44.out) (fun hHeld => ?_)
  clear hK K
  refine last_ (i := 3) (N := none) #[true, true, true, true, false] rfl rfl (by kernel_rfl) (by decide) (fun K hK => ?_)
  refine skip_whole (w := w) (B := w.heap.size) 35 (.tmp 5) (.tmp 23) (by rfl) rfl rfl (g := w.heap.size + 1 + 1 + 1) (cs := #[.int .i64 0, .bool false, .int .u64 0]) ?_ (.agg (#[.int .i64 0, .bool false, .int .u64 0])) ?_ rfl (by kernel_rfl) (by simp [Value.oneCell']) (Y_42.out) rfl L_Y.out (B45.out) ?_
  · rfl
  · rfl
  intro w9 h1 h2 h3 h4
  have U_46 := Aside0.mk ((h3 _ NE_U_Y.out).trans (U_39.out))
  have O_47 := Aside0.mk ((h3 _ NE_O_Y.out).trans (O_40.out))
  have R_48 := Aside0.mk ((h3 _ NE_R_Y.out).trans (R_41.out))
  have Y_49 := Aside0.mk (h1)
  have N_50 := Aside0.mk ((h3 _ (Ne.symm NE_Y_N.out)).trans (N_43.out))
  have Q_51 := Aside0.mk ((h3 _ (Ne.symm NE_Y_Q.out)).trans (Q_44.out))
  have B52 := Aside0.mk (h2)
  clear h1 h2 h3 h4
  refine hK.out _ _ ?_
  clear hK K
  refine pure_ (i := 4) (N := some 6) (v := ?_) (a' := ?_) #[true, true, true, true, true] rfl rfl (by kernel_rfl) (fun _ _ _ h => h) (Or.inl ⟨by rfl, ?_⟩) ?_ ?_
  rotate_left
  · intro w'
    go_simp
    with_reducible rfl
  rotate_left
  · simp only [Act.put, List.setIfInBounds_toArray, List.set_cons_zero, List.set_cons_succ, i64_w, i32_w]
    rfl
  refine done_ (by kernel_rfl) ?_
  go_wp2_with fail
  exact bodyPost_ret (results_cell3 (P := Try.prog) rfl _ _ (w.heap.size + 1 + 1) (w.heap.size + 1 + 1 + 1) 32 35 #[.slice none 0 0] #[.int .i64 0, .bool false, .int .u64 0] (0, 0) (0, 0) _ _ rfl R_48.out Try.underlying32 rfl (by kernel_rfl) rfl Y_49.out Try.underlying35 rfl (by kernel_rfl) rfl) rfl ⟨rfl, B52.out⟩
end Go.Proofs.Ytcphmelmieedfab.PSpecExact

