/-
The reference's Do, where the state changes.
-/
import Derived.Test.YtcphmelmieedfabSpecK
import Derived.Test.YtcphmelmieedfabSpecL
namespace Go.Proofs.Ytcphmelmieedfab.PSpecExact
open Go Go.RowKit Go.Proofs.YtcphmelmieedfabW.PrintWords Go.Proofs.YtcphmelmieedfabW.PrintLast Go.Proofs.YtcphmelmieedfabW.PrintMore
attribute [local go_sem] max2_int min2_int max_two min_two max_three min_three max_four min_four
set_option linter.unusedVariables false
set_option linter.unusedSimpArgs false
set_option maxHeartbeats 8000000 in
set_option maxRecDepth 100000 in
theorem rdo1f_T (u u2 : List S57) (A : Option Addr) (c : Nat) (k v z g : Int) (K K2 : Nat) (w : World) (hC : Kd.C k57 w A u.length u) (hc : u.length ≤ c) (hG : revenantref21_State_Get.f K u k = some (g, false)) (hW : revenantref21_State_With.f K2 u k 0 = some u2) (hl : u2.length ≤ 16) :
    Calls Try.prog 10 #[.agg #[.slice A u.length c], .agg #[.int .i64 1, .int .u64 k, .int .u64 v, .int .i64 z]] w fun e w' => ∃ v0_ : Value, e = .returned (.tuple #[.agg #[v0_], .agg #[.int .i64 0, .bool true, .int .u64 0], .int .i64 0]) ∧ Kd.R k57 57 w' w.heap.size (fun _ => True) v0_ u2 ∧ Below w.heap.size w w' := by
  have hu32 := Try.underlying32
  have hu39 := Try.underlying39
  have hu35 := Try.underlying35
  have HC := Aside0.mk hC
  have HCC := Aside0.mk hc
  have HG := Aside0.mk hG
  have HW := Aside0.mk hW
  have t1 : decide ((16 : Int) < (u2.length : Int)) = false := decide_eq_false (by omega)
  have t2 := eq_false (show ¬ (16 : Int) < (u2.length : Int) by omega)
  clear hC hc hG hW hl
  have L_U := Aside0.mk (show w.heap.size ≤ w.heap.size from Nat.le_refl _)
  have L_O := Aside0.mk (show w.heap.size ≤ w.heap.size + 1 from by have := L_U.out; omega)
  have NE_U_O := Aside0.mk (show w.heap.size ≠ w.heap.size + 1 by omega)
  have L_R := Aside0.mk (show w.heap.size ≤ w.heap.size + 1 + 1 from by have := L_U.out; omega)
  have NE_U_R := Aside0.mk (show w.heap.size ≠ w.heap.size + 1 + 1 by omega)
  have NE_O_R := Aside0.mk (show w.heap.size + 1 ≠ w.heap.size + 1 + 1 by omega)
  have L_Y := Aside0.mk (show w.heap.size ≤ w.heap.size + 1 + 1 + 1 from by have := L_U.out; omega)
  have NE_U_Y := Aside0.mk (show w.heap.size ≠ w.heap.size + 1 + 1 + 1 by omega)
  have NE_O_Y := Aside0.mk (show w.heap.size + 1 ≠ w.heap.size + 1 + 1 + 1 by omega)
  have NE_R_Y := Aside0.mk (show w.heap.size + 1 + 1 ≠ w.heap.size + 1 + 1 + 1 by omega)
  have U_1 := Aside0.mk (blk_alloc (blk_alloc (blk_alloc (blk_new (w) (.cells (#[.slice A u.length c]) 32)) (.cells (#[.int .i64 1, .int .u64 k, .int .u64 v, .int .i64 z]) 39)) (.cells #[.slice none 0 0] 32)) (.cells #[.int .i64 0, .bool false, .int .u64 0] 35))
  have O_2 := Aside0.mk (blk_alloc (blk_alloc (blk_new2 (w) (.cells (#[.slice A u.length c]) 32) (.cells (#[.int .i64 1, .int .u64 k, .int .u64 v, .int .i64 z]) 39)) (.cells #[.slice none 0 0] 32)) (.cells #[.int .i64 0, .bool false, .int .u64 0] 35))
  have R_3 := Aside0.mk (blk_alloc (blk_new3 (w) (.cells (#[.slice A u.length c]) 32) (.cells (#[.int .i64 1, .int .u64 k, .int .u64 v, .int .i64 z]) 39) (.cells #[.slice none 0 0] 32)) (.cells #[.int .i64 0, .bool false, .int .u64 0] 35))
  have Y_4 := Aside0.mk (blk_new4 (w) (.cells (#[.slice A u.length c]) 32) (.cells (#[.int .i64 1, .int .u64 k, .int .u64 v, .int .i64 z]) 39) (.cells #[.slice none 0 0] 32) (.cells #[.int .i64 0, .bool false, .int .u64 0] 35))
  have B5 := Aside0.mk (below_alloc (below_alloc (below_alloc (below_alloc (Below.refl w.heap.size w) (.cells (#[.slice A u.length c]) 32)) (.cells (#[.int .i64 1, .int .u64 k, .int .u64 v, .int .i64 z]) 39)) (.cells #[.slice none 0 0] 32)) (.cells #[.int .i64 0, .bool false, .int .u64 0] 35))
  go_enter Try.func10, Try.ntmps10
  go_wp2_with (first
    | (refine wpList_load_row_g (by rfl) 32 (.tmp 2) rfl (w.heap.size) rfl 32 (#[.slice A u.length c]) (0, 0) _ U_1.out Try.underlying32 rfl (by kernel_rfl) ?_))
  refine (revenantref21_State_Get.calls K A c u k g false _ (Kd.C_below HC.out B5.out) HCC.out HG.out).mono ?_
  rintro e_ w2 ⟨rfl, hb⟩
  have U_6 := Aside0.mk (blk_below U_1.out hb)
  have O_7 := Aside0.mk (blk_below O_2.out hb)
  have R_8 := Aside0.mk (blk_below R_3.out hb)
  have Y_9 := Aside0.mk (blk_below Y_4.out hb)
  have B10 := Aside0.mk (below_step B5.out hb)
  clear hb U_1 O_2 R_3 Y_4 B5
  have UL := Aside0.mk (U_6.out)
  have L_N := Aside0.mk (show w.heap.size ≤ w2.heap.size from B10.out.size)
  have NE_U_N := Aside0.mk (show w.heap.size ≠ w2.heap.size by have := blk_lt U_6.out; omega)
  have NE_O_N := Aside0.mk (show w.heap.size + 1 ≠ w2.heap.size by have := blk_lt O_7.out; omega)
  have NE_R_N := Aside0.mk (show w.heap.size + 1 + 1 ≠ w2.heap.size by have := blk_lt R_8.out; omega)
  have NE_Y_N := Aside0.mk (show w.heap.size + 1 + 1 + 1 ≠ w2.heap.size by have := blk_lt Y_9.out; omega)
  have U_11 := Aside0.mk (blk_alloc U_6.out (.cells #[.slice none 0 0] 32))
  have O_12 := Aside0.mk (blk_alloc O_7.out (.cells #[.slice none 0 0] 32))
  have R_13 := Aside0.mk (blk_alloc R_8.out (.cells #[.slice none 0 0] 32))
  have Y_14 := Aside0.mk (blk_alloc Y_9.out (.cells #[.slice none 0 0] 32))
  have N_15 := Aside0.mk (blk_new (w2) (.cells #[.slice none 0 0] 32))
  have B16 := Aside0.mk (below_alloc B10.out (.cells #[.slice none 0 0] 32))
  clear U_6 O_7 R_8 Y_9 B10
  go_wp2_with (first
    | (refine wpList_load_row_g (by rfl) 32 (.tmp 2) rfl (w.heap.size) rfl 32 (#[.slice A u.length c]) (0, 0) _ UL.out Try.underlying32 rfl (by kernel_rfl) ?_)
    | (refine store_whole (w := w) (B := w.heap.size) rfl rfl 32 (.tmp 9) (.tmp 18) rfl (g := w2.heap.size) (cs := #[.slice A u.length c]) rfl _ rfl rfl (by kernel_rfl) (by simp [Value.oneCell']) N_15.out (rfl) L_N.out B16.out ?_; intro w_17 h1 h2 h3 h4; have U_18 := Aside0.mk ((h3 _ NE_U_N.out).trans U_11.out); have O_19 := Aside0.mk ((h3 _ NE_O_N.out).trans O_12.out); have R_20 := Aside0.mk ((h3 _ NE_R_N.out).trans R_13.out); have Y_21 := Aside0.mk ((h3 _ NE_Y_N.out).trans Y_14.out); have N_22 := Aside0.mk (h1); have B23 := Aside0.mk (h2); clear h1 h2 h3 h4 U_11 O_12 R_13 Y_14 N_15 B16; have L_Q := Aside0.mk (show w.heap.size ≤ w_17.heap.size from B23.out.size); have NE_U_Q := Aside0.mk (show w.heap.size ≠ w_17.heap.size by have := blk_lt U_18.out; omega); have NE_O_Q := Aside0.mk (show w.heap.size + 1 ≠ w_17.heap.size by have := blk_lt O_19.out; omega); have NE_R_Q := Aside0.mk (show w.heap.size + 1 + 1 ≠ w_17.heap.size by have := blk_lt R_20.out; omega); have NE_Y_Q := Aside0.mk (show w.heap.size + 1 + 1 + 1 ≠ w_17.heap.size by have := blk_lt Y_21.out; omega); have NE_N_Q := Aside0.mk (show w2.heap.size ≠ w_17.heap.size by have := blk_lt N_22.out; omega); have U_24 := Aside0.mk (blk_alloc U_18.out (.cells #[.int .i64 0, .bool false, .int .u64 0] 35)); have O_25 := Aside0.mk (blk_alloc O_19.out (.cells #[.int .i64 0, .bool false, .int .u64 0] 35)); have R_26 := Aside0.mk (blk_alloc R_20.out (.cells #[.int .i64 0, .bool false, .int .u64 0] 35)); have Y_27 := Aside0.mk (blk_alloc Y_21.out (.cells #[.int .i64 0, .bool false, .int .u64 0] 35)); have N_28 := Aside0.mk (blk_alloc N_22.out (.cells #[.int .i64 0, .bool false, .int .u64 0] 35)); have Q_29 := Aside0.mk (blk_new (w_17) (.cells #[.int .i64 0, .bool false, .int .u64 0] 35)); have B30 := Aside0.mk (below_alloc B23.out (.cells #[.int .i64 0, .bool false, .int .u64 0] 35)); clear U_18 O_19 R_20 Y_21 N_22 B23)
    | (refine store_whole (w := w) (B := w.heap.size) rfl rfl 35 (.tmp 10) (.tmp 19) rfl (g := w_17.heap.size) (cs := #[.int .i64 0, .bool false, .int .u64 0]) rfl _ rfl rfl (by kernel_rfl) (by simp [Value.oneCell']) Q_29.out (rfl) L_Q.out B30.out ?_; intro w_31 h1 h2 h3 h4; have U_32 := Aside0.mk ((h3 _ NE_U_Q.out).trans U_24.out); have O_33 := Aside0.mk ((h3 _ NE_O_Q.out).trans O_25.out); have R_34 := Aside0.mk ((h3 _ NE_R_Q.out).trans R_26.out); have Y_35 := Aside0.mk ((h3 _ NE_Y_Q.out).trans Y_27.out); have N_36 := Aside0.mk ((h3 _ NE_N_Q.out).trans N_28.out); have Q_37 := Aside0.mk (h1); have B38 := Aside0.mk (h2); clear h1 h2 h3 h4 U_24 O_25 R_26 Y_27 N_28 Q_29 B30; have o0 : w_31.cell? ⟨w.heap.size + 1, 0, none⟩ = some (.int .i64 1) := (blk_cell O_33.out 0).trans rfl; have o1 : w_31.cell? ⟨w.heap.size + 1, 1, none⟩ = some (.int .u64 k) := (blk_cell O_33.out 1).trans rfl; have o2 : w_31.cell? ⟨w.heap.size + 1, 2, none⟩ = some (.int .u64 v) := (blk_cell O_33.out 2).trans rfl; have q0 : w_31.cell? ⟨w_17.heap.size, 0, none⟩ = some (.int .i64 0) := (blk_cell Q_37.out 0).trans rfl; have p0 := blk_frozen Q_37.out 0; have q1 : w_31.cell? ⟨w_17.heap.size, 1, none⟩ = some (.bool false) := (blk_cell Q_37.out 1).trans rfl; have p1 := blk_frozen Q_37.out 1; have q2 : w_31.cell? ⟨w_17.heap.size, 2, none⟩ = some (.int .u64 0) := (blk_cell Q_37.out 2).trans rfl; have p2 := blk_frozen Q_37.out 2; have U_39 := Aside0.mk (blk_far (U_32.out) (p := ⟨w_17.heap.size, 1, none⟩) NE_U_Q.out (.bool true)); have O_40 := Aside0.mk (blk_far (O_33.out) (p := ⟨w_17.heap.size, 1, none⟩) NE_O_Q.out (.bool true)); have R_41 := Aside0.mk (blk_far (R_34.out) (p := ⟨w_17.heap.size, 1, none⟩) NE_R_Q.out (.bool true)); have Y_42 := Aside0.mk (blk_far (Y_35.out) (p := ⟨w_17.heap.size, 1, none⟩) NE_Y_Q.out (.bool true)); have N_43 := Aside0.mk (blk_far (N_36.out) (p := ⟨w_17.heap.size, 1, none⟩) NE_N_Q.out (.bool true)); have Q_44 := Aside0.mk (blk_put (Q_37.out) 1 (.bool true) (cs' := #[.int .i64 0, .bool true, .int .u64 0]) rfl); have B45 := Aside0.mk (below_set (B38.out) (g := w_17.heap.size) (j := 1) (v := .bool true) L_Q.out); clear U_32 O_33 R_34 Y_35 N_36 Q_37 B38; have s0 : (w_31.setCell ⟨w_17.heap.size, 1, none⟩ (.bool true)).cell? ⟨w.heap.size + 1, 0, none⟩ = some (.int .i64 1) := (blk_cell O_40.out 0).trans rfl; have s1 : (w_31.setCell ⟨w_17.heap.size, 1, none⟩ (.bool true)).cell? ⟨w.heap.size + 1, 1, none⟩ = some (.int .u64 k) := (blk_cell O_40.out 1).trans rfl; have s2 : (w_31.setCell ⟨w_17.heap.size, 1, none⟩ (.bool true)).cell? ⟨w.heap.size + 1, 2, none⟩ = some (.int .u64 v) := (blk_cell O_40.out 2).trans rfl)
    | (refine wpList_load_row_g (by rfl) 32 (.tmp 2) rfl (w.heap.size) rfl 32 (#[.slice A u.length c]) (0, 0) _ U_39.out Try.underlying32 rfl (by kernel_rfl) ?_))
  have BQ := Aside0.mk (B45.out)
  refine (revenantref21_State_With.calls K2 A c u k 0 u2 _ (Kd.C_below HC.out B45.out) HCC.out HW.out).mono ?_
  rintro e_ w5 ⟨v0, rfl, hR, hb⟩
  have U_46 := Aside0.mk (blk_below U_39.out hb)
  have O_47 := Aside0.mk (blk_below O_40.out hb)
  have R_48 := Aside0.mk (blk_below R_41.out hb)
  have Y_49 := Aside0.mk (blk_below Y_42.out hb)
  have N_50 := Aside0.mk (blk_below N_43.out hb)
  have Q_51 := Aside0.mk (blk_below Q_44.out hb)
  obtain ⟨A2, c2, rfl, hc2, -⟩ := Kd.R_reads hR
  have HC2 := Aside0.mk hc2
  have X_950 := Aside0.mk (Kd.R_lower hR BQ.out.size)
  clear hR hc2
  have B52 := Aside0.mk (below_step B45.out hb)
  clear hb U_39 O_40 R_41 Y_42 N_43 Q_44 B45
  go_wp2_with (first
    | (refine store_whole (w := w) (B := w.heap.size) rfl rfl 32 (.tmp 9) (.tmp 35) rfl (g := w2.heap.size) (cs := #[.slice A2 u2.length c2]) rfl _ rfl rfl (by kernel_rfl) (by simp [Value.oneCell']) N_50.out (rfl) L_N.out B52.out ?_; intro w_53 h1 h2 h3 h4; have X_54 := Aside0.mk (row_far X_950.out N_50.out (by decide) h3); have U_55 := Aside0.mk ((h3 _ NE_U_N.out).trans U_46.out); have O_56 := Aside0.mk ((h3 _ NE_O_N.out).trans O_47.out); have R_57 := Aside0.mk ((h3 _ NE_R_N.out).trans R_48.out); have Y_58 := Aside0.mk ((h3 _ NE_Y_N.out).trans Y_49.out); have N_59 := Aside0.mk (h1); have Q_60 := Aside0.mk ((h3 _ (Ne.symm NE_N_Q.out)).trans Q_51.out); have B61 := Aside0.mk (h2); clear h1 h2 h3 h4 X_950 U_46 O_47 R_48 Y_49 N_50 Q_51 B52; have n0 : w_53.cell? ⟨w2.heap.size, 0, none⟩ = some (.slice A2 u2.length c2) := (blk_cell N_59.out 0).trans rfl))
  refine start_ (n := 5) (S := fun w' => w'.heap[w2.heap.size]? = some (.cells (#[.slice A2 u2.length c2]) 32 (0, 0)) ∧ w'.heap[w_17.heap.size]? = some (.cells (#[.int .i64 0, .bool true, .int .u64 0]) 35 (0, 0))) (ds := [3]) #[false, false, false, false, false] (by kernel_rfl) rfl rfl ⟨N_59.out, Q_60.out⟩ (fun hHeld => ?_)
  refine take_ (i := 0) (N := some 102) (v := ?_) (a' := ?_) #[true, false, false, false, false] rfl rfl (by kernel_rfl) (fun _ _ _ h => h) (Or.inl ⟨by rfl, ?_⟩) hHeld ?_ ?_
  rotate_left
  · rintro w' ⟨s0, s1⟩
    refine exec_load_row 32 (.tmp 9) ?_ _ ?_ 32 (#[.slice A2 u2.length c2]) (0, 0) _ s0 Try.underlying32 rfl (by kernel_rfl) <;> rfl
  rotate_left
  · simp only [Act.put, List.setIfInBounds_toArray, List.set_cons_zero, List.set_cons_succ, i64_w, i32_w]
    rfl
  refine take_ (i := 1) (N := some 103) (v := ?_) (a' := ?_) #[true, true, false, false, false] rfl rfl (by kernel_rfl) (fun _ _ _ h => h) (Or.inl ⟨by rfl, ?_⟩) hHeld ?_ ?_
  rotate_left
  · rintro w' ⟨s0, s1⟩
    refine exec_load_row 35 (.tmp 10) ?_ _ ?_ 35 (#[.int .i64 0, .bool true, .int .u64 0]) (0, 0) _ s1 Try.underlying35 rfl (by kernel_rfl) <;> rfl
  rotate_left
  · simp only [Act.put, List.setIfInBounds_toArray, List.set_cons_zero, List.set_cons_succ, i64_w, i32_w]
    rfl
  refine one_ (i := 2) (N := none) #[true, true, true, false, false] rfl rfl (by kernel_rfl) (by decide) (fun K hK => ?_)
  refine skip_whole (w := w) (B := w.heap.size) 32 (.tmp 4) (.tmp 102) (by rfl) rfl rfl (g := w.heap.size + 1 + 1) (cs := #[.slice A2 u2.length c2]) ?_ (.agg (#[.slice A2 u2.length c2])) ?_ rfl (by kernel_rfl) (by simp [Value.oneCell']) ((blk_drew R_57.out)) (rfl) L_R.out ((below_drew B61.out)) ?_
  · rfl
  · rfl
  intro w8 h1 h2 h3 h4
  have X_62 := Aside0.mk (row_far (Kd.R_drew X_54.out) (blk_drew R_57.out) (by decide) h3)
  have U_63 := Aside0.mk ((h3 _ NE_U_R.out).trans (blk_drew U_55.out))
  have O_64 := Aside0.mk ((h3 _ NE_O_R.out).trans (blk_drew O_56.out))
  have R_65 := Aside0.mk (h1)
  have Y_66 := Aside0.mk ((h3 _ (Ne.symm NE_R_Y.out)).trans (blk_drew Y_58.out))
  have N_67 := Aside0.mk ((h3 _ (Ne.symm NE_R_N.out)).trans (blk_drew N_59.out))
  have Q_68 := Aside0.mk ((h3 _ (Ne.symm NE_R_Q.out)).trans (blk_drew Q_60.out))
  have B69 := Aside0.mk (h2)
  clear h1 h2 h3 h4 X_54 U_55 O_56 R_57 Y_58 N_59 Q_60 B61
  refine hK.out _ _ ⟨N_67.out, Q_68.out⟩ (fun hHeld => ?_)
  clear hK K
  refine last_ (i := 3) (N := none) #[true, true, true, true, false] rfl rfl (by kernel_rfl) (by decide) (fun K hK => ?_)
  refine skip_whole (w := w) (B := w.heap.size) 35 (.tmp 5) (.tmp 103) (by rfl) rfl rfl (g := w.heap.size + 1 + 1 + 1) (cs := #[.int .i64 0, .bool true, .int .u64 0]) ?_ (.agg (#[.int .i64 0, .bool true, .int .u64 0])) ?_ rfl (by kernel_rfl) (by simp [Value.oneCell']) (Y_66.out) (rfl) L_Y.out (B69.out) ?_
  · rfl
  · rfl
  intro w9 h1 h2 h3 h4
  have X_70 := Aside0.mk (row_far X_62.out Y_66.out (by decide) h3)
  have U_71 := Aside0.mk ((h3 _ NE_U_Y.out).trans U_63.out)
  have O_72 := Aside0.mk ((h3 _ NE_O_Y.out).trans O_64.out)
  have R_73 := Aside0.mk ((h3 _ NE_R_Y.out).trans R_65.out)
  have Y_74 := Aside0.mk (h1)
  have N_75 := Aside0.mk ((h3 _ (Ne.symm NE_Y_N.out)).trans N_67.out)
  have Q_76 := Aside0.mk ((h3 _ (Ne.symm NE_Y_Q.out)).trans Q_68.out)
  have B77 := Aside0.mk (h2)
  clear h1 h2 h3 h4 X_62 U_63 O_64 R_65 Y_66 N_67 Q_68 B69
  refine hK.out _ _ ?_
  clear hK K
  refine pure_ (i := 4) (N := some 6) (v := ?_) (a' := ?_) #[true, true, true, true, true] rfl rfl (by kernel_rfl) (fun _ _ _ h => h) (Or.inl ⟨by rfl, ?_⟩) ?_ ?_
  rotate_left
  · intro w'
    go_simp
    with_reducible rfl
  rotate_left
  · simp only [Act.put, List.setIfInBounds_toArray, List.set_cons_zero, List.set_cons_succ, i64_w, i32_w]
    rfl
  refine done_ (by kernel_rfl) ?_
  go_wp2_with fail
  exact bodyPost_ret (results_cell3 (P := Try.prog) rfl _ _ (w.heap.size + 1 + 1) (w.heap.size + 1 + 1 + 1) 32 35 #[.slice A2 u2.length c2] #[.int .i64 0, .bool true, .int .u64 0] (0, 0) (0, 0) _ _ rfl R_73.out Try.underlying32 rfl (by kernel_rfl) rfl Y_74.out Try.underlying35 rfl (by kernel_rfl) rfl) rfl ⟨_, rfl, X_70.out, B77.out⟩
set_option maxHeartbeats 8000000 in
set_option maxRecDepth 100000 in
theorem rdo5f_T (u u2 : List S57) (A : Option Addr) (c : Nat) (k v z g : Int) (K K2 : Nat) (w : World) (hC : Kd.C k57 w A u.length u) (hc : u.length ≤ c) (hG : revenantref21_State_Get.f K u k = some (g, false)) (hW : revenantref21_State_With.f K2 u k v = some u2) (hl : u2.length ≤ 16) :
    Calls Try.prog 10 #[.agg #[.slice A u.length c], .agg #[.int .i64 5, .int .u64 k, .int .u64 v, .int .i64 z]] w fun e w' => ∃ v0_ : Value, e = .returned (.tuple #[.agg #[v0_], .agg #[.int .i64 0, .bool true, .int .u64 g], .int .i64 0]) ∧ Kd.R k57 57 w' w.heap.size (fun _ => True) v0_ u2 ∧ Below w.heap.size w w' := by
  have hu32 := Try.underlying32
  have hu39 := Try.underlying39
  have hu35 := Try.underlying35
  have HC := Aside0.mk hC
  have HCC := Aside0.mk hc
  have HG := Aside0.mk hG
  have HW := Aside0.mk hW
  have t1 : decide ((16 : Int) < (u2.length : Int)) = false := decide_eq_false (by omega)
  have t2 := eq_false (show ¬ (16 : Int) < (u2.length : Int) by omega)
  clear hC hc hG hW hl
  have L_U := Aside0.mk (show w.heap.size ≤ w.heap.size from Nat.le_refl _)
  have L_O := Aside0.mk (show w.heap.size ≤ w.heap.size + 1 from by have := L_U.out; omega)
  have NE_U_O := Aside0.mk (show w.heap.size ≠ w.heap.size + 1 by omega)
  have L_R := Aside0.mk (show w.heap.size ≤ w.heap.size + 1 + 1 from by have := L_U.out; omega)
  have NE_U_R := Aside0.mk (show w.heap.size ≠ w.heap.size + 1 + 1 by omega)
  have NE_O_R := Aside0.mk (show w.heap.size + 1 ≠ w.heap.size + 1 + 1 by omega)
  have L_Y := Aside0.mk (show w.heap.size ≤ w.heap.size + 1 + 1 + 1 from by have := L_U.out; omega)
  have NE_U_Y := Aside0.mk (show w.heap.size ≠ w.heap.size + 1 + 1 + 1 by omega)
  have NE_O_Y := Aside0.mk (show w.heap.size + 1 ≠ w.heap.size + 1 + 1 + 1 by omega)
  have NE_R_Y := Aside0.mk (show w.heap.size + 1 + 1 ≠ w.heap.size + 1 + 1 + 1 by omega)
  have U_1 := Aside0.mk (blk_alloc (blk_alloc (blk_alloc (blk_new (w) (.cells (#[.slice A u.length c]) 32)) (.cells (#[.int .i64 5, .int .u64 k, .int .u64 v, .int .i64 z]) 39)) (.cells #[.slice none 0 0] 32)) (.cells #[.int .i64 0, .bool false, .int .u64 0] 35))
  have O_2 := Aside0.mk (blk_alloc (blk_alloc (blk_new2 (w) (.cells (#[.slice A u.length c]) 32) (.cells (#[.int .i64 5, .int .u64 k, .int .u64 v, .int .i64 z]) 39)) (.cells #[.slice none 0 0] 32)) (.cells #[.int .i64 0, .bool false, .int .u64 0] 35))
  have R_3 := Aside0.mk (blk_alloc (blk_new3 (w) (.cells (#[.slice A u.length c]) 32) (.cells (#[.int .i64 5, .int .u64 k, .int .u64 v, .int .i64 z]) 39) (.cells #[.slice none 0 0] 32)) (.cells #[.int .i64 0, .bool false, .int .u64 0] 35))
  have Y_4 := Aside0.mk (blk_new4 (w) (.cells (#[.slice A u.length c]) 32) (.cells (#[.int .i64 5, .int .u64 k, .int .u64 v, .int .i64 z]) 39) (.cells #[.slice none 0 0] 32) (.cells #[.int .i64 0, .bool false, .int .u64 0] 35))
  have B5 := Aside0.mk (below_alloc (below_alloc (below_alloc (below_alloc (Below.refl w.heap.size w) (.cells (#[.slice A u.length c]) 32)) (.cells (#[.int .i64 5, .int .u64 k, .int .u64 v, .int .i64 z]) 39)) (.cells #[.slice none 0 0] 32)) (.cells #[.int .i64 0, .bool false, .int .u64 0] 35))
  go_enter Try.func10, Try.ntmps10
  go_wp2_with (first
    | (refine wpList_load_row_g (by rfl) 32 (.tmp 2) rfl (w.heap.size) rfl 32 (#[.slice A u.length c]) (0, 0) _ U_1.out Try.underlying32 rfl (by kernel_rfl) ?_))
  refine (revenantref21_State_Get.calls K A c u k g false _ (Kd.C_below HC.out B5.out) HCC.out HG.out).mono ?_
  rintro e_ w2 ⟨rfl, hb⟩
  have U_6 := Aside0.mk (blk_below U_1.out hb)
  have O_7 := Aside0.mk (blk_below O_2.out hb)
  have R_8 := Aside0.mk (blk_below R_3.out hb)
  have Y_9 := Aside0.mk (blk_below Y_4.out hb)
  have B10 := Aside0.mk (below_step B5.out hb)
  clear hb U_1 O_2 R_3 Y_4 B5
  have UL := Aside0.mk (U_6.out)
  have L_N := Aside0.mk (show w.heap.size ≤ w2.heap.size from B10.out.size)
  have NE_U_N := Aside0.mk (show w.heap.size ≠ w2.heap.size by have := blk_lt U_6.out; omega)
  have NE_O_N := Aside0.mk (show w.heap.size + 1 ≠ w2.heap.size by have := blk_lt O_7.out; omega)
  have NE_R_N := Aside0.mk (show w.heap.size + 1 + 1 ≠ w2.heap.size by have := blk_lt R_8.out; omega)
  have NE_Y_N := Aside0.mk (show w.heap.size + 1 + 1 + 1 ≠ w2.heap.size by have := blk_lt Y_9.out; omega)
  have U_11 := Aside0.mk (blk_alloc U_6.out (.cells #[.slice none 0 0] 32))
  have O_12 := Aside0.mk (blk_alloc O_7.out (.cells #[.slice none 0 0] 32))
  have R_13 := Aside0.mk (blk_alloc R_8.out (.cells #[.slice none 0 0] 32))
  have Y_14 := Aside0.mk (blk_alloc Y_9.out (.cells #[.slice none 0 0] 32))
  have N_15 := Aside0.mk (blk_new (w2) (.cells #[.slice none 0 0] 32))
  have B16 := Aside0.mk (below_alloc B10.out (.cells #[.slice none 0 0] 32))
  clear U_6 O_7 R_8 Y_9 B10
  go_wp2_with (first
    | (refine wpList_load_row_g (by rfl) 32 (.tmp 2) rfl (w.heap.size) rfl 32 (#[.slice A u.length c]) (0, 0) _ UL.out Try.underlying32 rfl (by kernel_rfl) ?_)
    | (refine store_whole (w := w) (B := w.heap.size) rfl rfl 32 (.tmp 9) (.tmp 18) rfl (g := w2.heap.size) (cs := #[.slice A u.length c]) rfl _ rfl rfl (by kernel_rfl) (by simp [Value.oneCell']) N_15.out (rfl) L_N.out B16.out ?_; intro w_17 h1 h2 h3 h4; have U_18 := Aside0.mk ((h3 _ NE_U_N.out).trans U_11.out); have O_19 := Aside0.mk ((h3 _ NE_O_N.out).trans O_12.out); have R_20 := Aside0.mk ((h3 _ NE_R_N.out).trans R_13.out); have Y_21 := Aside0.mk ((h3 _ NE_Y_N.out).trans Y_14.out); have N_22 := Aside0.mk (h1); have B23 := Aside0.mk (h2); clear h1 h2 h3 h4 U_11 O_12 R_13 Y_14 N_15 B16; have L_Q := Aside0.mk (show w.heap.size ≤ w_17.heap.size from B23.out.size); have NE_U_Q := Aside0.mk (show w.heap.size ≠ w_17.heap.size by have := blk_lt U_18.out; omega); have NE_O_Q := Aside0.mk (show w.heap.size + 1 ≠ w_17.heap.size by have := blk_lt O_19.out; omega); have NE_R_Q := Aside0.mk (show w.heap.size + 1 + 1 ≠ w_17.heap.size by have := blk_lt R_20.out; omega); have NE_Y_Q := Aside0.mk (show w.heap.size + 1 + 1 + 1 ≠ w_17.heap.size by have := blk_lt Y_21.out; omega); have NE_N_Q := Aside0.mk (show w2.heap.size ≠ w_17.heap.size by have := blk_lt N_22.out; omega); have U_24 := Aside0.mk (blk_alloc U_18.out (.cells #[.int .i64 0, .bool false, .int .u64 0] 35)); have O_25 := Aside0.mk (blk_alloc O_19.out (.cells #[.int .i64 0, .bool false, .int .u64 0] 35)); have R_26 := Aside0.mk (blk_alloc R_20.out (.cells #[.int .i64 0, .bool false, .int .u64 0] 35)); have Y_27 := Aside0.mk (blk_alloc Y_21.out (.cells #[.int .i64 0, .bool false, .int .u64 0] 35)); have N_28 := Aside0.mk (blk_alloc N_22.out (.cells #[.int .i64 0, .bool false, .int .u64 0] 35)); have Q_29 := Aside0.mk (blk_new (w_17) (.cells #[.int .i64 0, .bool false, .int .u64 0] 35)); have B30 := Aside0.mk (below_alloc B23.out (.cells #[.int .i64 0, .bool false, .int .u64 0] 35)); clear U_18 O_19 R_20 Y_21 N_22 B23)
    | (refine store_whole (w := w) (B := w.heap.size) rfl rfl 35 (.tmp 10) (.tmp 19) rfl (g := w_17.heap.size) (cs := #[.int .i64 0, .bool false, .int .u64 0]) rfl _ rfl rfl (by kernel_rfl) (by simp [Value.oneCell']) Q_29.out (rfl) L_Q.out B30.out ?_; intro w_31 h1 h2 h3 h4; have U_32 := Aside0.mk ((h3 _ NE_U_Q.out).trans U_24.out); have O_33 := Aside0.mk ((h3 _ NE_O_Q.out).trans O_25.out); have R_34 := Aside0.mk ((h3 _ NE_R_Q.out).trans R_26.out); have Y_35 := Aside0.mk ((h3 _ NE_Y_Q.out).trans Y_27.out); have N_36 := Aside0.mk ((h3 _ NE_N_Q.out).trans N_28.out); have Q_37 := Aside0.mk (h1); have B38 := Aside0.mk (h2); clear h1 h2 h3 h4 U_24 O_25 R_26 Y_27 N_28 Q_29 B30; have o0 : w_31.cell? ⟨w.heap.size + 1, 0, none⟩ = some (.int .i64 5) := (blk_cell O_33.out 0).trans rfl; have o1 : w_31.cell? ⟨w.heap.size + 1, 1, none⟩ = some (.int .u64 k) := (blk_cell O_33.out 1).trans rfl; have o2 : w_31.cell? ⟨w.heap.size + 1, 2, none⟩ = some (.int .u64 v) := (blk_cell O_33.out 2).trans rfl; have q0 : w_31.cell? ⟨w_17.heap.size, 0, none⟩ = some (.int .i64 0) := (blk_cell Q_37.out 0).trans rfl; have p0 := blk_frozen Q_37.out 0; have q1 : w_31.cell? ⟨w_17.heap.size, 1, none⟩ = some (.bool false) := (blk_cell Q_37.out 1).trans rfl; have p1 := blk_frozen Q_37.out 1; have q2 : w_31.cell? ⟨w_17.heap.size, 2, none⟩ = some (.int .u64 0) := (blk_cell Q_37.out 2).trans rfl; have p2 := blk_frozen Q_37.out 2; have U_39 := Aside0.mk (blk_far (blk_far (U_32.out) (p := ⟨w_17.heap.size, 1, none⟩) NE_U_Q.out (.bool true)) (p := ⟨w_17.heap.size, 2, none⟩) NE_U_Q.out (.int .u64 g)); have O_40 := Aside0.mk (blk_far (blk_far (O_33.out) (p := ⟨w_17.heap.size, 1, none⟩) NE_O_Q.out (.bool true)) (p := ⟨w_17.heap.size, 2, none⟩) NE_O_Q.out (.int .u64 g)); have R_41 := Aside0.mk (blk_far (blk_far (R_34.out) (p := ⟨w_17.heap.size, 1, none⟩) NE_R_Q.out (.bool true)) (p := ⟨w_17.heap.size, 2, none⟩) NE_R_Q.out (.int .u64 g)); have Y_42 := Aside0.mk (blk_far (blk_far (Y_35.out) (p := ⟨w_17.heap.size, 1, none⟩) NE_Y_Q.out (.bool true)) (p := ⟨w_17.heap.size, 2, none⟩) NE_Y_Q.out (.int .u64 g)); have N_43 := Aside0.mk (blk_far (blk_far (N_36.out) (p := ⟨w_17.heap.size, 1, none⟩) NE_N_Q.out (.bool true)) (p := ⟨w_17.heap.size, 2, none⟩) NE_N_Q.out (.int .u64 g)); have Q_44 := Aside0.mk (blk_put (blk_set (Q_37.out) 1 (.bool true)) 2 (.int .u64 g) (cs' := #[.int .i64 0, .bool true, .int .u64 g]) rfl); have B45 := Aside0.mk (below_set (below_set (B38.out) (g := w_17.heap.size) (j := 1) (v := .bool true) L_Q.out) (g := w_17.heap.size) (j := 2) (v := .int .u64 g) L_Q.out); clear U_32 O_33 R_34 Y_35 N_36 Q_37 B38; have s0 : ((w_31.setCell ⟨w_17.heap.size, 1, none⟩ (.bool true)).setCell ⟨w_17.heap.size, 2, none⟩ (.int .u64 g)).cell? ⟨w.heap.size + 1, 0, none⟩ = some (.int .i64 5) := (blk_cell O_40.out 0).trans rfl; have s1 : ((w_31.setCell ⟨w_17.heap.size, 1, none⟩ (.bool true)).setCell ⟨w_17.heap.size, 2, none⟩ (.int .u64 g)).cell? ⟨w.heap.size + 1, 1, none⟩ = some (.int .u64 k) := (blk_cell O_40.out 1).trans rfl; have s2 : ((w_31.setCell ⟨w_17.heap.size, 1, none⟩ (.bool true)).setCell ⟨w_17.heap.size, 2, none⟩ (.int .u64 g)).cell? ⟨w.heap.size + 1, 2, none⟩ = some (.int .u64 v) := (blk_cell O_40.out 2).trans rfl)
    | (refine wpList_load_row_g (by rfl) 32 (.tmp 2) rfl (w.heap.size) rfl 32 (#[.slice A u.length c]) (0, 0) _ U_39.out Try.underlying32 rfl (by kernel_rfl) ?_))
  have BQ := Aside0.mk (B45.out)
  refine (revenantref21_State_With.calls K2 A c u k v u2 _ (Kd.C_below HC.out B45.out) HCC.out HW.out).mono ?_
  rintro e_ w5 ⟨v0, rfl, hR, hb⟩
  have U_46 := Aside0.mk (blk_below U_39.out hb)
  have O_47 := Aside0.mk (blk_below O_40.out hb)
  have R_48 := Aside0.mk (blk_below R_41.out hb)
  have Y_49 := Aside0.mk (blk_below Y_42.out hb)
  have N_50 := Aside0.mk (blk_below N_43.out hb)
  have Q_51 := Aside0.mk (blk_below Q_44.out hb)
  obtain ⟨A2, c2, rfl, hc2, -⟩ := Kd.R_reads hR
  have HC2 := Aside0.mk hc2
  have X_950 := Aside0.mk (Kd.R_lower hR BQ.out.size)
  clear hR hc2
  have B52 := Aside0.mk (below_step B45.out hb)
  clear hb U_39 O_40 R_41 Y_42 N_43 Q_44 B45
  go_wp2_with (first
    | (refine store_whole (w := w) (B := w.heap.size) rfl rfl 32 (.tmp 9) (.tmp 76) rfl (g := w2.heap.size) (cs := #[.slice A2 u2.length c2]) rfl _ rfl rfl (by kernel_rfl) (by simp [Value.oneCell']) N_50.out (rfl) L_N.out B52.out ?_; intro w_53 h1 h2 h3 h4; have X_54 := Aside0.mk (row_far X_950.out N_50.out (by decide) h3); have U_55 := Aside0.mk ((h3 _ NE_U_N.out).trans U_46.out); have O_56 := Aside0.mk ((h3 _ NE_O_N.out).trans O_47.out); have R_57 := Aside0.mk ((h3 _ NE_R_N.out).trans R_48.out); have Y_58 := Aside0.mk ((h3 _ NE_Y_N.out).trans Y_49.out); have N_59 := Aside0.mk (h1); have Q_60 := Aside0.mk ((h3 _ (Ne.symm NE_N_Q.out)).trans Q_51.out); have B61 := Aside0.mk (h2); clear h1 h2 h3 h4 X_950 U_46 O_47 R_48 Y_49 N_50 Q_51 B52; have n0 : w_53.cell? ⟨w2.heap.size, 0, none⟩ = some (.slice A2 u2.length c2) := (blk_cell N_59.out 0).trans rfl))
  refine start_ (n := 5) (S := fun w' => w'.heap[w2.heap.size]? = some (.cells (#[.slice A2 u2.length c2]) 32 (0, 0)) ∧ w'.heap[w_17.heap.size]? = some (.cells (#[.int .i64 0, .bool true, .int .u64 g]) 35 (0, 0))) (ds := [3]) #[false, false, false, false, false] (by kernel_rfl) rfl rfl ⟨N_59.out, Q_60.out⟩ (fun hHeld => ?_)
  refine take_ (i := 0) (N := some 102) (v := ?_) (a' := ?_) #[true, false, false, false, false] rfl rfl (by kernel_rfl) (fun _ _ _ h => h) (Or.inl ⟨by rfl, ?_⟩) hHeld ?_ ?_
  rotate_left
  · rintro w' ⟨s0, s1⟩
    refine exec_load_row 32 (.tmp 9) ?_ _ ?_ 32 (#[.slice A2 u2.length c2]) (0, 0) _ s0 Try.underlying32 rfl (by kernel_rfl) <;> rfl
  rotate_left
  · simp only [Act.put, List.setIfInBounds_toArray, List.set_cons_zero, List.set_cons_succ, i64_w, i32_w]
    rfl
  refine take_ (i := 1) (N := some 103) (v := ?_) (a' := ?_) #[true, true, false, false, false] rfl rfl (by kernel_rfl) (fun _ _ _ h => h) (Or.inl ⟨by rfl, ?_⟩) hHeld ?_ ?_
  rotate_left
  · rintro w' ⟨s0, s1⟩
    refine exec_load_row 35 (.tmp 10) ?_ _ ?_ 35 (#[.int .i64 0, .bool true, .int .u64 g]) (0, 0) _ s1 Try.underlying35 rfl (by kernel_rfl) <;> rfl
  rotate_left
  · simp only [Act.put, List.setIfInBounds_toArray, List.set_cons_zero, List.set_cons_succ, i64_w, i32_w]
    rfl
  refine one_ (i := 2) (N := none) #[true, true, true, false, false] rfl rfl (by kernel_rfl) (by decide) (fun K hK => ?_)
  refine skip_whole (w := w) (B := w.heap.size) 32 (.tmp 4) (.tmp 102) (by rfl) rfl rfl (g := w.heap.size + 1 + 1) (cs := #[.slice A2 u2.length c2]) ?_ (.agg (#[.slice A2 u2.length c2])) ?_ rfl (by kernel_rfl) (by simp [Value.oneCell']) ((blk_drew R_57.out)) (rfl) L_R.out ((below_drew B61.out)) ?_
  · rfl
  · rfl
  intro w8 h1 h2 h3 h4
  have X_62 := Aside0.mk (row_far (Kd.R_drew X_54.out) (blk_drew R_57.out) (by decide) h3)
  have U_63 := Aside0.mk ((h3 _ NE_U_R.out).trans (blk_drew U_55.out))
  have O_64 := Aside0.mk ((h3 _ NE_O_R.out).trans (blk_drew O_56.out))
  have R_65 := Aside0.mk (h1)
  have Y_66 := Aside0.mk ((h3 _ (Ne.symm NE_R_Y.out)).trans (blk_drew Y_58.out))
  have N_67 := Aside0.mk ((h3 _ (Ne.symm NE_R_N.out)).trans (blk_drew N_59.out))
  have Q_68 := Aside0.mk ((h3 _ (Ne.symm NE_R_Q.out)).trans (blk_drew Q_60.out))
  have B69 := Aside0.mk (h2)
  clear h1 h2 h3 h4 X_54 U_55 O_56 R_57 Y_58 N_59 Q_60 B61
  refine hK.out _ _ ⟨N_67.out, Q_68.out⟩ (fun hHeld => ?_)
  clear hK K
  refine last_ (i := 3) (N := none) #[true, true, true, true, false] rfl rfl (by kernel_rfl) (by decide) (fun K hK => ?_)
  refine skip_whole (w := w) (B := w.heap.size) 35 (.tmp 5) (.tmp 103) (by rfl) rfl rfl (g := w.heap.size + 1 + 1 + 1) (cs := #[.int .i64 0, .bool true, .int .u64 g]) ?_ (.agg (#[.int .i64 0, .bool true, .int .u64 g])) ?_ rfl (by kernel_rfl) (by simp [Value.oneCell']) (Y_66.out) (rfl) L_Y.out (B69.out) ?_
  · rfl
  · rfl
  intro w9 h1 h2 h3 h4
  have X_70 := Aside0.mk (row_far X_62.out Y_66.out (by decide) h3)
  have U_71 := Aside0.mk ((h3 _ NE_U_Y.out).trans U_63.out)
  have O_72 := Aside0.mk ((h3 _ NE_O_Y.out).trans O_64.out)
  have R_73 := Aside0.mk ((h3 _ NE_R_Y.out).trans R_65.out)
  have Y_74 := Aside0.mk (h1)
  have N_75 := Aside0.mk ((h3 _ (Ne.symm NE_Y_N.out)).trans N_67.out)
  have Q_76 := Aside0.mk ((h3 _ (Ne.symm NE_Y_Q.out)).trans Q_68.out)
  have B77 := Aside0.mk (h2)
  clear h1 h2 h3 h4 X_62 U_63 O_64 R_65 Y_66 N_67 Q_68 B69
  refine hK.out _ _ ?_
  clear hK K
  refine pure_ (i := 4) (N := some 6) (v := ?_) (a' := ?_) #[true, true, true, true, true] rfl rfl (by kernel_rfl) (fun _ _ _ h => h) (Or.inl ⟨by rfl, ?_⟩) ?_ ?_
  rotate_left
  · intro w'
    go_simp
    with_reducible rfl
  rotate_left
  · simp only [Act.put, List.setIfInBounds_toArray, List.set_cons_zero, List.set_cons_succ, i64_w, i32_w]
    rfl
  refine done_ (by kernel_rfl) ?_
  go_wp2_with fail
  exact bodyPost_ret (results_cell3 (P := Try.prog) rfl _ _ (w.heap.size + 1 + 1) (w.heap.size + 1 + 1 + 1) 32 35 #[.slice A2 u2.length c2] #[.int .i64 0, .bool true, .int .u64 g] (0, 0) (0, 0) _ _ rfl R_73.out Try.underlying32 rfl (by kernel_rfl) rfl Y_74.out Try.underlying35 rfl (by kernel_rfl) rfl) rfl ⟨_, rfl, X_70.out, B77.out⟩
set_option maxHeartbeats 8000000 in
set_option maxRecDepth 100000 in
theorem rdo4_T (u u2 : List S57) (A : Option Addr) (c : Nat) (k v z g : Int) (b : Bool) (K K2 : Nat) (w : World) (hC : Kd.C k57 w A u.length u) (hc : u.length ≤ c) (hG : revenantref21_State_Get.f K u k = some (g, b)) (hW : revenantref21_State_With.f K2 u k v = some u2) (hl : u2.length ≤ 16) :
    Calls Try.prog 10 #[.agg #[.slice A u.length c], .agg #[.int .i64 4, .int .u64 k, .int .u64 v, .int .i64 z]] w fun e w' => ∃ v0_ : Value, e = .returned (.tuple #[.agg #[v0_], .agg #[.int .i64 0, .bool b, .int .u64 g], .int .i64 0]) ∧ Kd.R k57 57 w' w.heap.size (fun _ => True) v0_ u2 ∧ Below w.heap.size w w' := by
  have hu32 := Try.underlying32
  have hu39 := Try.underlying39
  have hu35 := Try.underlying35
  have HC := Aside0.mk hC
  have HCC := Aside0.mk hc
  have HG := Aside0.mk hG
  have HW := Aside0.mk hW
  have t1 : decide ((16 : Int) < (u2.length : Int)) = false := decide_eq_false (by omega)
  have t2 := eq_false (show ¬ (16 : Int) < (u2.length : Int) by omega)
  clear hC hc hG hW hl
  have L_U := Aside0.mk (show w.heap.size ≤ w.heap.size from Nat.le_refl _)
  have L_O := Aside0.mk (show w.heap.size ≤ w.heap.size + 1 from by have := L_U.out; omega)
  have NE_U_O := Aside0.mk (show w.heap.size ≠ w.heap.size + 1 by omega)
  have L_R := Aside0.mk (show w.heap.size ≤ w.heap.size + 1 + 1 from by have := L_U.out; omega)
  have NE_U_R := Aside0.mk (show w.heap.size ≠ w.heap.size + 1 + 1 by omega)
  have NE_O_R := Aside0.mk (show w.heap.size + 1 ≠ w.heap.size + 1 + 1 by omega)
  have L_Y := Aside0.mk (show w.heap.size ≤ w.heap.size + 1 + 1 + 1 from by have := L_U.out; omega)
  have NE_U_Y := Aside0.mk (show w.heap.size ≠ w.heap.size + 1 + 1 + 1 by omega)
  have NE_O_Y := Aside0.mk (show w.heap.size + 1 ≠ w.heap.size + 1 + 1 + 1 by omega)
  have NE_R_Y := Aside0.mk (show w.heap.size + 1 + 1 ≠ w.heap.size + 1 + 1 + 1 by omega)
  have U_1 := Aside0.mk (blk_alloc (blk_alloc (blk_alloc (blk_new (w) (.cells (#[.slice A u.length c]) 32)) (.cells (#[.int .i64 4, .int .u64 k, .int .u64 v, .int .i64 z]) 39)) (.cells #[.slice none 0 0] 32)) (.cells #[.int .i64 0, .bool false, .int .u64 0] 35))
  have O_2 := Aside0.mk (blk_alloc (blk_alloc (blk_new2 (w) (.cells (#[.slice A u.length c]) 32) (.cells (#[.int .i64 4, .int .u64 k, .int .u64 v, .int .i64 z]) 39)) (.cells #[.slice none 0 0] 32)) (.cells #[.int .i64 0, .bool false, .int .u64 0] 35))
  have R_3 := Aside0.mk (blk_alloc (blk_new3 (w) (.cells (#[.slice A u.length c]) 32) (.cells (#[.int .i64 4, .int .u64 k, .int .u64 v, .int .i64 z]) 39) (.cells #[.slice none 0 0] 32)) (.cells #[.int .i64 0, .bool false, .int .u64 0] 35))
  have Y_4 := Aside0.mk (blk_new4 (w) (.cells (#[.slice A u.length c]) 32) (.cells (#[.int .i64 4, .int .u64 k, .int .u64 v, .int .i64 z]) 39) (.cells #[.slice none 0 0] 32) (.cells #[.int .i64 0, .bool false, .int .u64 0] 35))
  have B5 := Aside0.mk (below_alloc (below_alloc (below_alloc (below_alloc (Below.refl w.heap.size w) (.cells (#[.slice A u.length c]) 32)) (.cells (#[.int .i64 4, .int .u64 k, .int .u64 v, .int .i64 z]) 39)) (.cells #[.slice none 0 0] 32)) (.cells #[.int .i64 0, .bool false, .int .u64 0] 35))
  go_enter Try.func10, Try.ntmps10
  go_wp2_with (first
    | (refine wpList_load_row_g (by rfl) 32 (.tmp 2) rfl (w.heap.size) rfl 32 (#[.slice A u.length c]) (0, 0) _ U_1.out Try.underlying32 rfl (by kernel_rfl) ?_))
  refine (revenantref21_State_Get.calls K A c u k g b _ (Kd.C_below HC.out B5.out) HCC.out HG.out).mono ?_
  rintro e_ w2 ⟨rfl, hb⟩
  have U_6 := Aside0.mk (blk_below U_1.out hb)
  have O_7 := Aside0.mk (blk_below O_2.out hb)
  have R_8 := Aside0.mk (blk_below R_3.out hb)
  have Y_9 := Aside0.mk (blk_below Y_4.out hb)
  have B10 := Aside0.mk (below_step B5.out hb)
  clear hb U_1 O_2 R_3 Y_4 B5
  have UL := Aside0.mk (U_6.out)
  have L_N := Aside0.mk (show w.heap.size ≤ w2.heap.size from B10.out.size)
  have NE_U_N := Aside0.mk (show w.heap.size ≠ w2.heap.size by have := blk_lt U_6.out; omega)
  have NE_O_N := Aside0.mk (show w.heap.size + 1 ≠ w2.heap.size by have := blk_lt O_7.out; omega)
  have NE_R_N := Aside0.mk (show w.heap.size + 1 + 1 ≠ w2.heap.size by have := blk_lt R_8.out; omega)
  have NE_Y_N := Aside0.mk (show w.heap.size + 1 + 1 + 1 ≠ w2.heap.size by have := blk_lt Y_9.out; omega)
  have U_11 := Aside0.mk (blk_alloc U_6.out (.cells #[.slice none 0 0] 32))
  have O_12 := Aside0.mk (blk_alloc O_7.out (.cells #[.slice none 0 0] 32))
  have R_13 := Aside0.mk (blk_alloc R_8.out (.cells #[.slice none 0 0] 32))
  have Y_14 := Aside0.mk (blk_alloc Y_9.out (.cells #[.slice none 0 0] 32))
  have N_15 := Aside0.mk (blk_new (w2) (.cells #[.slice none 0 0] 32))
  have B16 := Aside0.mk (below_alloc B10.out (.cells #[.slice none 0 0] 32))
  clear U_6 O_7 R_8 Y_9 B10
  go_wp2_with (first
    | (refine wpList_load_row_g (by rfl) 32 (.tmp 2) rfl (w.heap.size) rfl 32 (#[.slice A u.length c]) (0, 0) _ UL.out Try.underlying32 rfl (by kernel_rfl) ?_)
    | (refine store_whole (w := w) (B := w.heap.size) rfl rfl 32 (.tmp 9) (.tmp 18) rfl (g := w2.heap.size) (cs := #[.slice A u.length c]) rfl _ rfl rfl (by kernel_rfl) (by simp [Value.oneCell']) N_15.out (rfl) L_N.out B16.out ?_; intro w_17 h1 h2 h3 h4; have U_18 := Aside0.mk ((h3 _ NE_U_N.out).trans U_11.out); have O_19 := Aside0.mk ((h3 _ NE_O_N.out).trans O_12.out); have R_20 := Aside0.mk ((h3 _ NE_R_N.out).trans R_13.out); have Y_21 := Aside0.mk ((h3 _ NE_Y_N.out).trans Y_14.out); have N_22 := Aside0.mk (h1); have B23 := Aside0.mk (h2); clear h1 h2 h3 h4 U_11 O_12 R_13 Y_14 N_15 B16; have L_Q := Aside0.mk (show w.heap.size ≤ w_17.heap.size from B23.out.size); have NE_U_Q := Aside0.mk (show w.heap.size ≠ w_17.heap.size by have := blk_lt U_18.out; omega); have NE_O_Q := Aside0.mk (show w.heap.size + 1 ≠ w_17.heap.size by have := blk_lt O_19.out; omega); have NE_R_Q := Aside0.mk (show w.heap.size + 1 + 1 ≠ w_17.heap.size by have := blk_lt R_20.out; omega); have NE_Y_Q := Aside0.mk (show w.heap.size + 1 + 1 + 1 ≠ w_17.heap.size by have := blk_lt Y_21.out; omega); have NE_N_Q := Aside0.mk (show w2.heap.size ≠ w_17.heap.size by have := blk_lt N_22.out; omega); have U_24 := Aside0.mk (blk_alloc U_18.out (.cells #[.int .i64 0, .bool false, .int .u64 0] 35)); have O_25 := Aside0.mk (blk_alloc O_19.out (.cells #[.int .i64 0, .bool false, .int .u64 0] 35)); have R_26 := Aside0.mk (blk_alloc R_20.out (.cells #[.int .i64 0, .bool false, .int .u64 0] 35)); have Y_27 := Aside0.mk (blk_alloc Y_21.out (.cells #[.int .i64 0, .bool false, .int .u64 0] 35)); have N_28 := Aside0.mk (blk_alloc N_22.out (.cells #[.int .i64 0, .bool false, .int .u64 0] 35)); have Q_29 := Aside0.mk (blk_new (w_17) (.cells #[.int .i64 0, .bool false, .int .u64 0] 35)); have B30 := Aside0.mk (below_alloc B23.out (.cells #[.int .i64 0, .bool false, .int .u64 0] 35)); clear U_18 O_19 R_20 Y_21 N_22 B23)
    | (refine store_whole (w := w) (B := w.heap.size) rfl rfl 35 (.tmp 10) (.tmp 19) rfl (g := w_17.heap.size) (cs := #[.int .i64 0, .bool false, .int .u64 0]) rfl _ rfl rfl (by kernel_rfl) (by simp [Value.oneCell']) Q_29.out (rfl) L_Q.out B30.out ?_; intro w_31 h1 h2 h3 h4; have U_32 := Aside0.mk ((h3 _ NE_U_Q.out).trans U_24.out); have O_33 := Aside0.mk ((h3 _ NE_O_Q.out).trans O_25.out); have R_34 := Aside0.mk ((h3 _ NE_R_Q.out).trans R_26.out); have Y_35 := Aside0.mk ((h3 _ NE_Y_Q.out).trans Y_27.out); have N_36 := Aside0.mk ((h3 _ NE_N_Q.out).trans N_28.out); have Q_37 := Aside0.mk (h1); have B38 := Aside0.mk (h2); clear h1 h2 h3 h4 U_24 O_25 R_26 Y_27 N_28 Q_29 B30; have o0 : w_31.cell? ⟨w.heap.size + 1, 0, none⟩ = some (.int .i64 4) := (blk_cell O_33.out 0).trans rfl; have o1 : w_31.cell? ⟨w.heap.size + 1, 1, none⟩ = some (.int .u64 k) := (blk_cell O_33.out 1).trans rfl; have o2 : w_31.cell? ⟨w.heap.size + 1, 2, none⟩ = some (.int .u64 v) := (blk_cell O_33.out 2).trans rfl; have q0 : w_31.cell? ⟨w_17.heap.size, 0, none⟩ = some (.int .i64 0) := (blk_cell Q_37.out 0).trans rfl; have p0 := blk_frozen Q_37.out 0; have q1 : w_31.cell? ⟨w_17.heap.size, 1, none⟩ = some (.bool false) := (blk_cell Q_37.out 1).trans rfl; have p1 := blk_frozen Q_37.out 1; have q2 : w_31.cell? ⟨w_17.heap.size, 2, none⟩ = some (.int .u64 0) := (blk_cell Q_37.out 2).trans rfl; have p2 := blk_frozen Q_37.out 2; have U_39 := Aside0.mk (blk_far (blk_far (U_32.out) (p := ⟨w_17.heap.size, 1, none⟩) NE_U_Q.out (.bool b)) (p := ⟨w_17.heap.size, 2, none⟩) NE_U_Q.out (.int .u64 g)); have O_40 := Aside0.mk (blk_far (blk_far (O_33.out) (p := ⟨w_17.heap.size, 1, none⟩) NE_O_Q.out (.bool b)) (p := ⟨w_17.heap.size, 2, none⟩) NE_O_Q.out (.int .u64 g)); have R_41 := Aside0.mk (blk_far (blk_far (R_34.out) (p := ⟨w_17.heap.size, 1, none⟩) NE_R_Q.out (.bool b)) (p := ⟨w_17.heap.size, 2, none⟩) NE_R_Q.out (.int .u64 g)); have Y_42 := Aside0.mk (blk_far (blk_far (Y_35.out) (p := ⟨w_17.heap.size, 1, none⟩) NE_Y_Q.out (.bool b)) (p := ⟨w_17.heap.size, 2, none⟩) NE_Y_Q.out (.int .u64 g)); have N_43 := Aside0.mk (blk_far (blk_far (N_36.out) (p := ⟨w_17.heap.size, 1, none⟩) NE_N_Q.out (.bool b)) (p := ⟨w_17.heap.size, 2, none⟩) NE_N_Q.out (.int .u64 g)); have Q_44 := Aside0.mk (blk_put (blk_set (Q_37.out) 1 (.bool b)) 2 (.int .u64 g) (cs' := #[.int .i64 0, .bool b, .int .u64 g]) rfl); have B45 := Aside0.mk (below_set (below_set (B38.out) (g := w_17.heap.size) (j := 1) (v := .bool b) L_Q.out) (g := w_17.heap.size) (j := 2) (v := .int .u64 g) L_Q.out); clear U_32 O_33 R_34 Y_35 N_36 Q_37 B38; have s0 : ((w_31.setCell ⟨w_17.heap.size, 1, none⟩ (.bool b)).setCell ⟨w_17.heap.size, 2, none⟩ (.int .u64 g)).cell? ⟨w.heap.size + 1, 0, none⟩ = some (.int .i64 4) := (blk_cell O_40.out 0).trans rfl; have s1 : ((w_31.setCell ⟨w_17.heap.size, 1, none⟩ (.bool b)).setCell ⟨w_17.heap.size, 2, none⟩ (.int .u64 g)).cell? ⟨w.heap.size + 1, 1, none⟩ = some (.int .u64 k) := (blk_cell O_40.out 1).trans rfl; have s2 : ((w_31.setCell ⟨w_17.heap.size, 1, none⟩ (.bool b)).setCell ⟨w_17.heap.size, 2, none⟩ (.int .u64 g)).cell? ⟨w.heap.size + 1, 2, none⟩ = some (.int .u64 v) := (blk_cell O_40.out 2).trans rfl)
    | (refine wpList_load_row_g (by rfl) 32 (.tmp 2) rfl (w.heap.size) rfl 32 (#[.slice A u.length c]) (0, 0) _ U_39.out Try.underlying32 rfl (by kernel_rfl) ?_))
  have BQ := Aside0.mk (B45.out)
  refine (revenantref21_State_With.calls K2 A c u k v u2 _ (Kd.C_below HC.out B45.out) HCC.out HW.out).mono ?_
  rintro e_ w5 ⟨v0, rfl, hR, hb⟩
  have U_46 := Aside0.mk (blk_below U_39.out hb)
  have O_47 := Aside0.mk (blk_below O_40.out hb)
  have R_48 := Aside0.mk (blk_below R_41.out hb)
  have Y_49 := Aside0.mk (blk_below Y_42.out hb)
  have N_50 := Aside0.mk (blk_below N_43.out hb)
  have Q_51 := Aside0.mk (blk_below Q_44.out hb)
  obtain ⟨A2, c2, rfl, hc2, -⟩ := Kd.R_reads hR
  have HC2 := Aside0.mk hc2
  have X_950 := Aside0.mk (Kd.R_lower hR BQ.out.size)
  clear hR hc2
  have B52 := Aside0.mk (below_step B45.out hb)
  clear hb U_39 O_40 R_41 Y_42 N_43 Q_44 B45
  go_wp2_with (first
    | (refine store_whole (w := w) (B := w.heap.size) rfl rfl 32 (.tmp 9) (.tmp 60) rfl (g := w2.heap.size) (cs := #[.slice A2 u2.length c2]) rfl _ rfl rfl (by kernel_rfl) (by simp [Value.oneCell']) N_50.out (rfl) L_N.out B52.out ?_; intro w_53 h1 h2 h3 h4; have X_54 := Aside0.mk (row_far X_950.out N_50.out (by decide) h3); have U_55 := Aside0.mk ((h3 _ NE_U_N.out).trans U_46.out); have O_56 := Aside0.mk ((h3 _ NE_O_N.out).trans O_47.out); have R_57 := Aside0.mk ((h3 _ NE_R_N.out).trans R_48.out); have Y_58 := Aside0.mk ((h3 _ NE_Y_N.out).trans Y_49.out); have N_59 := Aside0.mk (h1); have Q_60 := Aside0.mk ((h3 _ (Ne.symm NE_N_Q.out)).trans Q_51.out); have B61 := Aside0.mk (h2); clear h1 h2 h3 h4 X_950 U_46 O_47 R_48 Y_49 N_50 Q_51 B52; have n0 : w_53.cell? ⟨w2.heap.size, 0, none⟩ = some (.slice A2 u2.length c2) := (blk_cell N_59.out 0).trans rfl))
  refine start_ (n := 5) (S := fun w' => w'.heap[w2.heap.size]? = some (.cells (#[.slice A2 u2.length c2]) 32 (0, 0)) ∧ w'.heap[w_17.heap.size]? = some (.cells (#[.int .i64 0, .bool b, .int .u64 g]) 35 (0, 0))) (ds := [3]) #[false, false, false, false, false] (by kernel_rfl) rfl rfl ⟨N_59.out, Q_60.out⟩ (fun hHeld => ?_)
  refine take_ (i := 0) (N := some 102) (v := ?_) (a' := ?_) #[true, false, false, false, false] rfl rfl (by kernel_rfl) (fun _ _ _ h => h) (Or.inl ⟨by rfl, ?_⟩) hHeld ?_ ?_
  rotate_left
  · rintro w' ⟨s0, s1⟩
    refine exec_load_row 32 (.tmp 9) ?_ _ ?_ 32 (#[.slice A2 u2.length c2]) (0, 0) _ s0 Try.underlying32 rfl (by kernel_rfl) <;> rfl
  rotate_left
  · simp only [Act.put, List.setIfInBounds_toArray, List.set_cons_zero, List.set_cons_succ, i64_w, i32_w]
    rfl
  refine take_ (i := 1) (N := some 103) (v := ?_) (a' := ?_) #[true, true, false, false, false] rfl rfl (by kernel_rfl) (fun _ _ _ h => h) (Or.inl ⟨by rfl, ?_⟩) hHeld ?_ ?_
  rotate_left
  · rintro w' ⟨s0, s1⟩
    refine exec_load_row 35 (.tmp 10) ?_ _ ?_ 35 (#[.int .i64 0, .bool b, .int .u64 g]) (0, 0) _ s1 Try.underlying35 rfl (by kernel_rfl) <;> rfl
  rotate_left
  · simp only [Act.put, List.setIfInBounds_toArray, List.set_cons_zero, List.set_cons_succ, i64_w, i32_w]
    rfl
  refine one_ (i := 2) (N := none) #[true, true, true, false, false] rfl rfl (by kernel_rfl) (by decide) (fun K hK => ?_)
  refine skip_whole (w := w) (B := w.heap.size) 32 (.tmp 4) (.tmp 102) (by rfl) rfl rfl (g := w.heap.size + 1 + 1) (cs := #[.slice A2 u2.length c2]) ?_ (.agg (#[.slice A2 u2.length c2])) ?_ rfl (by kernel_rfl) (by simp [Value.oneCell']) ((blk_drew R_57.out)) (rfl) L_R.out ((below_drew B61.out)) ?_
  · rfl
  · rfl
  intro w8 h1 h2 h3 h4
  have X_62 := Aside0.mk (row_far (Kd.R_drew X_54.out) (blk_drew R_57.out) (by decide) h3)
  have U_63 := Aside0.mk ((h3 _ NE_U_R.out).trans (blk_drew U_55.out))
  have O_64 := Aside0.mk ((h3 _ NE_O_R.out).trans (blk_drew O_56.out))
  have R_65 := Aside0.mk (h1)
  have Y_66 := Aside0.mk ((h3 _ (Ne.symm NE_R_Y.out)).trans (blk_drew Y_58.out))
  have N_67 := Aside0.mk ((h3 _ (Ne.symm NE_R_N.out)).trans (blk_drew N_59.out))
  have Q_68 := Aside0.mk ((h3 _ (Ne.symm NE_R_Q.out)).trans (blk_drew Q_60.out))
  have B69 := Aside0.mk (h2)
  clear h1 h2 h3 h4 X_54 U_55 O_56 R_57 Y_58 N_59 Q_60 B61
  refine hK.out _ _ ⟨N_67.out, Q_68.out⟩ (fun hHeld => ?_)
  clear hK K
  refine last_ (i := 3) (N := none) #[true, true, true, true, false] rfl rfl (by kernel_rfl) (by decide) (fun K hK => ?_)
  refine skip_whole (w := w) (B := w.heap.size) 35 (.tmp 5) (.tmp 103) (by rfl) rfl rfl (g := w.heap.size + 1 + 1 + 1) (cs := #[.int .i64 0, .bool b, .int .u64 g]) ?_ (.agg (#[.int .i64 0, .bool b, .int .u64 g])) ?_ rfl (by kernel_rfl) (by simp [Value.oneCell']) (Y_66.out) (rfl) L_Y.out (B69.out) ?_
  · rfl
  · rfl
  intro w9 h1 h2 h3 h4
  have X_70 := Aside0.mk (row_far X_62.out Y_66.out (by decide) h3)
  have U_71 := Aside0.mk ((h3 _ NE_U_Y.out).trans U_63.out)
  have O_72 := Aside0.mk ((h3 _ NE_O_Y.out).trans O_64.out)
  have R_73 := Aside0.mk ((h3 _ NE_R_Y.out).trans R_65.out)
  have Y_74 := Aside0.mk (h1)
  have N_75 := Aside0.mk ((h3 _ (Ne.symm NE_Y_N.out)).trans N_67.out)
  have Q_76 := Aside0.mk ((h3 _ (Ne.symm NE_Y_Q.out)).trans Q_68.out)
  have B77 := Aside0.mk (h2)
  clear h1 h2 h3 h4 X_62 U_63 O_64 R_65 Y_66 N_67 Q_68 B69
  refine hK.out _ _ ?_
  clear hK K
  refine pure_ (i := 4) (N := some 6) (v := ?_) (a' := ?_) #[true, true, true, true, true] rfl rfl (by kernel_rfl) (fun _ _ _ h => h) (Or.inl ⟨by rfl, ?_⟩) ?_ ?_
  rotate_left
  · intro w'
    go_simp
    with_reducible rfl
  rotate_left
  · simp only [Act.put, List.setIfInBounds_toArray, List.set_cons_zero, List.set_cons_succ, i64_w, i32_w]
    rfl
  refine done_ (by kernel_rfl) ?_
  go_wp2_with fail
  exact bodyPost_ret (results_cell3 (P := Try.prog) rfl _ _ (w.heap.size + 1 + 1) (w.heap.size + 1 + 1 + 1) 32 35 #[.slice A2 u2.length c2] #[.int .i64 0, .bool b, .int .u64 g] (0, 0) (0, 0) _ _ rfl R_73.out Try.underlying32 rfl (by kernel_rfl) rfl Y_74.out Try.underlying35 rfl (by kernel_rfl) rfl) rfl ⟨_, rfl, X_70.out, B77.out⟩
set_option maxHeartbeats 8000000 in
set_option maxRecDepth 100000 in
theorem rdo2_T (u u2 : List S57) (A : Option Addr) (c : Nat) (k v z g : Int) (b : Bool) (K K2 : Nat) (w : World) (hC : Kd.C k57 w A u.length u) (hc : u.length ≤ c) (hG : revenantref21_State_Get.f K u k = some (g, b)) (hW : revenantref21_State_Without.f K2 u k = some u2) (hl : u2.length ≤ 16) :
    Calls Try.prog 10 #[.agg #[.slice A u.length c], .agg #[.int .i64 2, .int .u64 k, .int .u64 v, .int .i64 z]] w fun e w' => ∃ v0_ : Value, e = .returned (.tuple #[.agg #[v0_], .agg #[.int .i64 0, .bool b, .int .u64 0], .int .i64 0]) ∧ Kd.R k57 57 w' w.heap.size (fun _ => True) v0_ u2 ∧ Below w.heap.size w w' := by
  have hu32 := Try.underlying32
  have hu39 := Try.underlying39
  have hu35 := Try.underlying35
  have HC := Aside0.mk hC
  have HCC := Aside0.mk hc
  have HG := Aside0.mk hG
  have HW := Aside0.mk hW
  have t1 : decide ((16 : Int) < (u2.length : Int)) = false := decide_eq_false (by omega)
  have t2 := eq_false (show ¬ (16 : Int) < (u2.length : Int) by omega)
  clear hC hc hG hW hl
  have L_U := Aside0.mk (show w.heap.size ≤ w.heap.size from Nat.le_refl _)
  have L_O := Aside0.mk (show w.heap.size ≤ w.heap.size + 1 from by have := L_U.out; omega)
  have NE_U_O := Aside0.mk (show w.heap.size ≠ w.heap.size + 1 by omega)
  have L_R := Aside0.mk (show w.heap.size ≤ w.heap.size + 1 + 1 from by have := L_U.out; omega)
  have NE_U_R := Aside0.mk (show w.heap.size ≠ w.heap.size + 1 + 1 by omega)
  have NE_O_R := Aside0.mk (show w.heap.size + 1 ≠ w.heap.size + 1 + 1 by omega)
  have L_Y := Aside0.mk (show w.heap.size ≤ w.heap.size + 1 + 1 + 1 from by have := L_U.out; omega)
  have NE_U_Y := Aside0.mk (show w.heap.size ≠ w.heap.size + 1 + 1 + 1 by omega)
  have NE_O_Y := Aside0.mk (show w.heap.size + 1 ≠ w.heap.size + 1 + 1 + 1 by omega)
  have NE_R_Y := Aside0.mk (show w.heap.size + 1 + 1 ≠ w.heap.size + 1 + 1 + 1 by omega)
  have U_1 := Aside0.mk (blk_alloc (blk_alloc (blk_alloc (blk_new (w) (.cells (#[.slice A u.length c]) 32)) (.cells (#[.int .i64 2, .int .u64 k, .int .u64 v, .int .i64 z]) 39)) (.cells #[.slice none 0 0] 32)) (.cells #[.int .i64 0, .bool false, .int .u64 0] 35))
  have O_2 := Aside0.mk (blk_alloc (blk_alloc (blk_new2 (w) (.cells (#[.slice A u.length c]) 32) (.cells (#[.int .i64 2, .int .u64 k, .int .u64 v, .int .i64 z]) 39)) (.cells #[.slice none 0 0] 32)) (.cells #[.int .i64 0, .bool false, .int .u64 0] 35))
  have R_3 := Aside0.mk (blk_alloc (blk_new3 (w) (.cells (#[.slice A u.length c]) 32) (.cells (#[.int .i64 2, .int .u64 k, .int .u64 v, .int .i64 z]) 39) (.cells #[.slice none 0 0] 32)) (.cells #[.int .i64 0, .bool false, .int .u64 0] 35))
  have Y_4 := Aside0.mk (blk_new4 (w) (.cells (#[.slice A u.length c]) 32) (.cells (#[.int .i64 2, .int .u64 k, .int .u64 v, .int .i64 z]) 39) (.cells #[.slice none 0 0] 32) (.cells #[.int .i64 0, .bool false, .int .u64 0] 35))
  have B5 := Aside0.mk (below_alloc (below_alloc (below_alloc (below_alloc (Below.refl w.heap.size w) (.cells (#[.slice A u.length c]) 32)) (.cells (#[.int .i64 2, .int .u64 k, .int .u64 v, .int .i64 z]) 39)) (.cells #[.slice none 0 0] 32)) (.cells #[.int .i64 0, .bool false, .int .u64 0] 35))
  go_enter Try.func10, Try.ntmps10
  go_wp2_with (first
    | (refine wpList_load_row_g (by rfl) 32 (.tmp 2) rfl (w.heap.size) rfl 32 (#[.slice A u.length c]) (0, 0) _ U_1.out Try.underlying32 rfl (by kernel_rfl) ?_))
  refine (revenantref21_State_Get.calls K A c u k g b _ (Kd.C_below HC.out B5.out) HCC.out HG.out).mono ?_
  rintro e_ w2 ⟨rfl, hb⟩
  have U_6 := Aside0.mk (blk_below U_1.out hb)
  have O_7 := Aside0.mk (blk_below O_2.out hb)
  have R_8 := Aside0.mk (blk_below R_3.out hb)
  have Y_9 := Aside0.mk (blk_below Y_4.out hb)
  have B10 := Aside0.mk (below_step B5.out hb)
  clear hb U_1 O_2 R_3 Y_4 B5
  have UL := Aside0.mk (U_6.out)
  have L_N := Aside0.mk (show w.heap.size ≤ w2.heap.size from B10.out.size)
  have NE_U_N := Aside0.mk (show w.heap.size ≠ w2.heap.size by have := blk_lt U_6.out; omega)
  have NE_O_N := Aside0.mk (show w.heap.size + 1 ≠ w2.heap.size by have := blk_lt O_7.out; omega)
  have NE_R_N := Aside0.mk (show w.heap.size + 1 + 1 ≠ w2.heap.size by have := blk_lt R_8.out; omega)
  have NE_Y_N := Aside0.mk (show w.heap.size + 1 + 1 + 1 ≠ w2.heap.size by have := blk_lt Y_9.out; omega)
  have U_11 := Aside0.mk (blk_alloc U_6.out (.cells #[.slice none 0 0] 32))
  have O_12 := Aside0.mk (blk_alloc O_7.out (.cells #[.slice none 0 0] 32))
  have R_13 := Aside0.mk (blk_alloc R_8.out (.cells #[.slice none 0 0] 32))
  have Y_14 := Aside0.mk (blk_alloc Y_9.out (.cells #[.slice none 0 0] 32))
  have N_15 := Aside0.mk (blk_new (w2) (.cells #[.slice none 0 0] 32))
  have B16 := Aside0.mk (below_alloc B10.out (.cells #[.slice none 0 0] 32))
  clear U_6 O_7 R_8 Y_9 B10
  go_wp2_with (first
    | (refine wpList_load_row_g (by rfl) 32 (.tmp 2) rfl (w.heap.size) rfl 32 (#[.slice A u.length c]) (0, 0) _ UL.out Try.underlying32 rfl (by kernel_rfl) ?_)
    | (refine store_whole (w := w) (B := w.heap.size) rfl rfl 32 (.tmp 9) (.tmp 18) rfl (g := w2.heap.size) (cs := #[.slice A u.length c]) rfl _ rfl rfl (by kernel_rfl) (by simp [Value.oneCell']) N_15.out (rfl) L_N.out B16.out ?_; intro w_17 h1 h2 h3 h4; have U_18 := Aside0.mk ((h3 _ NE_U_N.out).trans U_11.out); have O_19 := Aside0.mk ((h3 _ NE_O_N.out).trans O_12.out); have R_20 := Aside0.mk ((h3 _ NE_R_N.out).trans R_13.out); have Y_21 := Aside0.mk ((h3 _ NE_Y_N.out).trans Y_14.out); have N_22 := Aside0.mk (h1); have B23 := Aside0.mk (h2); clear h1 h2 h3 h4 U_11 O_12 R_13 Y_14 N_15 B16; have L_Q := Aside0.mk (show w.heap.size ≤ w_17.heap.size from B23.out.size); have NE_U_Q := Aside0.mk (show w.heap.size ≠ w_17.heap.size by have := blk_lt U_18.out; omega); have NE_O_Q := Aside0.mk (show w.heap.size + 1 ≠ w_17.heap.size by have := blk_lt O_19.out; omega); have NE_R_Q := Aside0.mk (show w.heap.size + 1 + 1 ≠ w_17.heap.size by have := blk_lt R_20.out; omega); have NE_Y_Q := Aside0.mk (show w.heap.size + 1 + 1 + 1 ≠ w_17.heap.size by have := blk_lt Y_21.out; omega); have NE_N_Q := Aside0.mk (show w2.heap.size ≠ w_17.heap.size by have := blk_lt N_22.out; omega); have U_24 := Aside0.mk (blk_alloc U_18.out (.cells #[.int .i64 0, .bool false, .int .u64 0] 35)); have O_25 := Aside0.mk (blk_alloc O_19.out (.cells #[.int .i64 0, .bool false, .int .u64 0] 35)); have R_26 := Aside0.mk (blk_alloc R_20.out (.cells #[.int .i64 0, .bool false, .int .u64 0] 35)); have Y_27 := Aside0.mk (blk_alloc Y_21.out (.cells #[.int .i64 0, .bool false, .int .u64 0] 35)); have N_28 := Aside0.mk (blk_alloc N_22.out (.cells #[.int .i64 0, .bool false, .int .u64 0] 35)); have Q_29 := Aside0.mk (blk_new (w_17) (.cells #[.int .i64 0, .bool false, .int .u64 0] 35)); have B30 := Aside0.mk (below_alloc B23.out (.cells #[.int .i64 0, .bool false, .int .u64 0] 35)); clear U_18 O_19 R_20 Y_21 N_22 B23)
    | (refine store_whole (w := w) (B := w.heap.size) rfl rfl 35 (.tmp 10) (.tmp 19) rfl (g := w_17.heap.size) (cs := #[.int .i64 0, .bool false, .int .u64 0]) rfl _ rfl rfl (by kernel_rfl) (by simp [Value.oneCell']) Q_29.out (rfl) L_Q.out B30.out ?_; intro w_31 h1 h2 h3 h4; have U_32 := Aside0.mk ((h3 _ NE_U_Q.out).trans U_24.out); have O_33 := Aside0.mk ((h3 _ NE_O_Q.out).trans O_25.out); have R_34 := Aside0.mk ((h3 _ NE_R_Q.out).trans R_26.out); have Y_35 := Aside0.mk ((h3 _ NE_Y_Q.out).trans Y_27.out); have N_36 := Aside0.mk ((h3 _ NE_N_Q.out).trans N_28.out); have Q_37 := Aside0.mk (h1); have B38 := Aside0.mk (h2); clear h1 h2 h3 h4 U_24 O_25 R_26 Y_27 N_28 Q_29 B30; have o0 : w_31.cell? ⟨w.heap.size + 1, 0, none⟩ = some (.int .i64 2) := (blk_cell O_33.out 0).trans rfl; have o1 : w_31.cell? ⟨w.heap.size + 1, 1, none⟩ = some (.int .u64 k) := (blk_cell O_33.out 1).trans rfl; have o2 : w_31.cell? ⟨w.heap.size + 1, 2, none⟩ = some (.int .u64 v) := (blk_cell O_33.out 2).trans rfl; have q0 : w_31.cell? ⟨w_17.heap.size, 0, none⟩ = some (.int .i64 0) := (blk_cell Q_37.out 0).trans rfl; have p0 := blk_frozen Q_37.out 0; have q1 : w_31.cell? ⟨w_17.heap.size, 1, none⟩ = some (.bool false) := (blk_cell Q_37.out 1).trans rfl; have p1 := blk_frozen Q_37.out 1; have q2 : w_31.cell? ⟨w_17.heap.size, 2, none⟩ = some (.int .u64 0) := (blk_cell Q_37.out 2).trans rfl; have p2 := blk_frozen Q_37.out 2; have U_39 := Aside0.mk (blk_far (U_32.out) (p := ⟨w_17.heap.size, 1, none⟩) NE_U_Q.out (.bool b)); have O_40 := Aside0.mk (blk_far (O_33.out) (p := ⟨w_17.heap.size, 1, none⟩) NE_O_Q.out (.bool b)); have R_41 := Aside0.mk (blk_far (R_34.out) (p := ⟨w_17.heap.size, 1, none⟩) NE_R_Q.out (.bool b)); have Y_42 := Aside0.mk (blk_far (Y_35.out) (p := ⟨w_17.heap.size, 1, none⟩) NE_Y_Q.out (.bool b)); have N_43 := Aside0.mk (blk_far (N_36.out) (p := ⟨w_17.heap.size, 1, none⟩) NE_N_Q.out (.bool b)); have Q_44 := Aside0.mk (blk_put (Q_37.out) 1 (.bool b) (cs' := #[.int .i64 0, .bool b, .int .u64 0]) rfl); have B45 := Aside0.mk (below_set (B38.out) (g := w_17.heap.size) (j := 1) (v := .bool b) L_Q.out); clear U_32 O_33 R_34 Y_35 N_36 Q_37 B38; have s0 : (w_31.setCell ⟨w_17.heap.size, 1, none⟩ (.bool b)).cell? ⟨w.heap.size + 1, 0, none⟩ = some (.int .i64 2) := (blk_cell O_40.out 0).trans rfl; have s1 : (w_31.setCell ⟨w_17.heap.size, 1, none⟩ (.bool b)).cell? ⟨w.heap.size + 1, 1, none⟩ = some (.int .u64 k) := (blk_cell O_40.out 1).trans rfl; have s2 : (w_31.setCell ⟨w_17.heap.size, 1, none⟩ (.bool b)).cell? ⟨w.heap.size + 1, 2, none⟩ = some (.int .u64 v) := (blk_cell O_40.out 2).trans rfl)
    | (refine wpList_load_row_g (by rfl) 32 (.tmp 2) rfl (w.heap.size) rfl 32 (#[.slice A u.length c]) (0, 0) _ U_39.out Try.underlying32 rfl (by kernel_rfl) ?_))
  have BQ := Aside0.mk (B45.out)
  refine (revenantref21_State_Without.calls K2 A c u k u2 _ (Kd.C_below HC.out B45.out) HCC.out HW.out).mono ?_
  rintro e_ w5 ⟨v0, rfl, hR, hb⟩
  have U_46 := Aside0.mk (blk_below U_39.out hb)
  have O_47 := Aside0.mk (blk_below O_40.out hb)
  have R_48 := Aside0.mk (blk_below R_41.out hb)
  have Y_49 := Aside0.mk (blk_below Y_42.out hb)
  have N_50 := Aside0.mk (blk_below N_43.out hb)
  have Q_51 := Aside0.mk (blk_below Q_44.out hb)
  obtain ⟨A2, c2, rfl, hc2, -⟩ := Kd.R_reads hR
  have HC2 := Aside0.mk hc2
  have X_950 := Aside0.mk (Kd.R_lower hR BQ.out.size)
  clear hR hc2
  have B52 := Aside0.mk (below_step B45.out hb)
  clear hb U_39 O_40 R_41 Y_42 N_43 Q_44 B45
  go_wp2_with (first
    | (refine store_whole (w := w) (B := w.heap.size) rfl rfl 32 (.tmp 9) (.tmp 43) rfl (g := w2.heap.size) (cs := #[.slice A2 u2.length c2]) rfl _ rfl rfl (by kernel_rfl) (by simp [Value.oneCell']) N_50.out (rfl) L_N.out B52.out ?_; intro w_53 h1 h2 h3 h4; have X_54 := Aside0.mk (row_far X_950.out N_50.out (by decide) h3); have U_55 := Aside0.mk ((h3 _ NE_U_N.out).trans U_46.out); have O_56 := Aside0.mk ((h3 _ NE_O_N.out).trans O_47.out); have R_57 := Aside0.mk ((h3 _ NE_R_N.out).trans R_48.out); have Y_58 := Aside0.mk ((h3 _ NE_Y_N.out).trans Y_49.out); have N_59 := Aside0.mk (h1); have Q_60 := Aside0.mk ((h3 _ (Ne.symm NE_N_Q.out)).trans Q_51.out); have B61 := Aside0.mk (h2); clear h1 h2 h3 h4 X_950 U_46 O_47 R_48 Y_49 N_50 Q_51 B52; have n0 : w_53.cell? ⟨w2.heap.size, 0, none⟩ = some (.slice A2 u2.length c2) := (blk_cell N_59.out 0).trans rfl))
  refine start_ (n := 5) (S := fun w' => w'.heap[w2.heap.size]? = some (.cells (#[.slice A2 u2.length c2]) 32 (0, 0)) ∧ w'.heap[w_17.heap.size]? = some (.cells (#[.int .i64 0, .bool b, .int .u64 0]) 35 (0, 0))) (ds := [3]) #[false, false, false, false, false] (by kernel_rfl) rfl rfl ⟨N_59.out, Q_60.out⟩ (fun hHeld => ?_)
  refine take_ (i := 0) (N := some 102) (v := ?_) (a' := ?_) #[true, false, false, false, false] rfl rfl (by kernel_rfl) (fun _ _ _ h => h) (Or.inl ⟨by rfl, ?_⟩) hHeld ?_ ?_
  rotate_left
  · rintro w' ⟨s0, s1⟩
    refine exec_load_row 32 (.tmp 9) ?_ _ ?_ 32 (#[.slice A2 u2.length c2]) (0, 0) _ s0 Try.underlying32 rfl (by kernel_rfl) <;> rfl
  rotate_left
  · simp only [Act.put, List.setIfInBounds_toArray, List.set_cons_zero, List.set_cons_succ, i64_w, i32_w]
    rfl
  refine take_ (i := 1) (N := some 103) (v := ?_) (a' := ?_) #[true, true, false, false, false] rfl rfl (by kernel_rfl) (fun _ _ _ h => h) (Or.inl ⟨by rfl, ?_⟩) hHeld ?_ ?_
  rotate_left
  · rintro w' ⟨s0, s1⟩
    refine exec_load_row 35 (.tmp 10) ?_ _ ?_ 35 (#[.int .i64 0, .bool b, .int .u64 0]) (0, 0) _ s1 Try.underlying35 rfl (by kernel_rfl) <;> rfl
  rotate_left
  · simp only [Act.put, List.setIfInBounds_toArray, List.set_cons_zero, List.set_cons_succ, i64_w, i32_w]
    rfl
  refine one_ (i := 2) (N := none) #[true, true, true, false, false] rfl rfl (by kernel_rfl) (by decide) (fun K hK => ?_)
  refine skip_whole (w := w) (B := w.heap.size) 32 (.tmp 4) (.tmp 102) (by rfl) rfl rfl (g := w.heap.size + 1 + 1) (cs := #[.slice A2 u2.length c2]) ?_ (.agg (#[.slice A2 u2.length c2])) ?_ rfl (by kernel_rfl) (by simp [Value.oneCell']) ((blk_drew R_57.out)) (rfl) L_R.out ((below_drew B61.out)) ?_
  · rfl
  · rfl
  intro w8 h1 h2 h3 h4
  have X_62 := Aside0.mk (row_far (Kd.R_drew X_54.out) (blk_drew R_57.out) (by decide) h3)
  have U_63 := Aside0.mk ((h3 _ NE_U_R.out).trans (blk_drew U_55.out))
  have O_64 := Aside0.mk ((h3 _ NE_O_R.out).trans (blk_drew O_56.out))
  have R_65 := Aside0.mk (h1)
  have Y_66 := Aside0.mk ((h3 _ (Ne.symm NE_R_Y.out)).trans (blk_drew Y_58.out))
  have N_67 := Aside0.mk ((h3 _ (Ne.symm NE_R_N.out)).trans (blk_drew N_59.out))
  have Q_68 := Aside0.mk ((h3 _ (Ne.symm NE_R_Q.out)).trans (blk_drew Q_60.out))
  have B69 := Aside0.mk (h2)
  clear h1 h2 h3 h4 X_54 U_55 O_56 R_57 Y_58 N_59 Q_60 B61
  refine hK.out _ _ ⟨N_67.out, Q_68.out⟩ (fun hHeld => ?_)
  clear hK K
  refine last_ (i := 3) (N := none) #[true, true, true, true, false] rfl rfl (by kernel_rfl) (by decide) (fun K hK => ?_)
  refine skip_whole (w := w) (B := w.heap.size) 35 (.tmp 5) (.tmp 103) (by rfl) rfl rfl (g := w.heap.size + 1 + 1 + 1) (cs := #[.int .i64 0, .bool b, .int .u64 0]) ?_ (.agg (#[.int .i64 0, .bool b, .int .u64 0])) ?_ rfl (by kernel_rfl) (by simp [Value.oneCell']) (Y_66.out) (rfl) L_Y.out (B69.out) ?_
  · rfl
  · rfl
  intro w9 h1 h2 h3 h4
  have X_70 := Aside0.mk (row_far X_62.out Y_66.out (by decide) h3)
  have U_71 := Aside0.mk ((h3 _ NE_U_Y.out).trans U_63.out)
  have O_72 := Aside0.mk ((h3 _ NE_O_Y.out).trans O_64.out)
  have R_73 := Aside0.mk ((h3 _ NE_R_Y.out).trans R_65.out)
  have Y_74 := Aside0.mk (h1)
  have N_75 := Aside0.mk ((h3 _ (Ne.symm NE_Y_N.out)).trans N_67.out)
  have Q_76 := Aside0.mk ((h3 _ (Ne.symm NE_Y_Q.out)).trans Q_68.out)
  have B77 := Aside0.mk (h2)
  clear h1 h2 h3 h4 X_62 U_63 O_64 R_65 Y_66 N_67 Q_68 B69
  refine hK.out _ _ ?_
  clear hK K
  refine pure_ (i := 4) (N := some 6) (v := ?_) (a' := ?_) #[true, true, true, true, true] rfl rfl (by kernel_rfl) (fun _ _ _ h => h) (Or.inl ⟨by rfl, ?_⟩) ?_ ?_
  rotate_left
  · intro w'
    go_simp
    with_reducible rfl
  rotate_left
  · simp only [Act.put, List.setIfInBounds_toArray, List.set_cons_zero, List.set_cons_succ, i64_w, i32_w]
    rfl
  refine done_ (by kernel_rfl) ?_
  go_wp2_with fail
  exact bodyPost_ret (results_cell3 (P := Try.prog) rfl _ _ (w.heap.size + 1 + 1) (w.heap.size + 1 + 1 + 1) 32 35 #[.slice A2 u2.length c2] #[.int .i64 0, .bool b, .int .u64 0] (0, 0) (0, 0) _ _ rfl R_73.out Try.underlying32 rfl (by kernel_rfl) rfl Y_74.out Try.underlying35 rfl (by kernel_rfl) rfl) rfl ⟨_, rfl, X_70.out, B77.out⟩
set_option maxHeartbeats 8000000 in
set_option maxRecDepth 100000 in
theorem rdo6_T (u u2 : List S57) (A : Option Addr) (c : Nat) (k v z g : Int) (b : Bool) (K K2 : Nat) (w : World) (hC : Kd.C k57 w A u.length u) (hc : u.length ≤ c) (hG : revenantref21_State_Get.f K u k = some (g, b)) (hW : revenantref21_State_Without.f K2 u k = some u2) (hl : u2.length ≤ 16) :
    Calls Try.prog 10 #[.agg #[.slice A u.length c], .agg #[.int .i64 6, .int .u64 k, .int .u64 v, .int .i64 z]] w fun e w' => ∃ v0_ : Value, e = .returned (.tuple #[.agg #[v0_], .agg #[.int .i64 0, .bool b, .int .u64 g], .int .i64 0]) ∧ Kd.R k57 57 w' w.heap.size (fun _ => True) v0_ u2 ∧ Below w.heap.size w w' := by
  have hu32 := Try.underlying32
  have hu39 := Try.underlying39
  have hu35 := Try.underlying35
  have HC := Aside0.mk hC
  have HCC := Aside0.mk hc
  have HG := Aside0.mk hG
  have HW := Aside0.mk hW
  have t1 : decide ((16 : Int) < (u2.length : Int)) = false := decide_eq_false (by omega)
  have t2 := eq_false (show ¬ (16 : Int) < (u2.length : Int) by omega)
  clear hC hc hG hW hl
  have L_U := Aside0.mk (show w.heap.size ≤ w.heap.size from Nat.le_refl _)
  have L_O := Aside0.mk (show w.heap.size ≤ w.heap.size + 1 from by have := L_U.out; omega)
  have NE_U_O := Aside0.mk (show w.heap.size ≠ w.heap.size + 1 by omega)
  have L_R := Aside0.mk (show w.heap.size ≤ w.heap.size + 1 + 1 from by have := L_U.out; omega)
  have NE_U_R := Aside0.mk (show w.heap.size ≠ w.heap.size + 1 + 1 by omega)
  have NE_O_R := Aside0.mk (show w.heap.size + 1 ≠ w.heap.size + 1 + 1 by omega)
  have L_Y := Aside0.mk (show w.heap.size ≤ w.heap.size + 1 + 1 + 1 from by have := L_U.out; omega)
  have NE_U_Y := Aside0.mk (show w.heap.size ≠ w.heap.size + 1 + 1 + 1 by omega)
  have NE_O_Y := Aside0.mk (show w.heap.size + 1 ≠ w.heap.size + 1 + 1 + 1 by omega)
  have NE_R_Y := Aside0.mk (show w.heap.size + 1 + 1 ≠ w.heap.size + 1 + 1 + 1 by omega)
  have U_1 := Aside0.mk (blk_alloc (blk_alloc (blk_alloc (blk_new (w) (.cells (#[.slice A u.length c]) 32)) (.cells (#[.int .i64 6, .int .u64 k, .int .u64 v, .int .i64 z]) 39)) (.cells #[.slice none 0 0] 32)) (.cells #[.int .i64 0, .bool false, .int .u64 0] 35))
  have O_2 := Aside0.mk (blk_alloc (blk_alloc (blk_new2 (w) (.cells (#[.slice A u.length c]) 32) (.cells (#[.int .i64 6, .int .u64 k, .int .u64 v, .int .i64 z]) 39)) (.cells #[.slice none 0 0] 32)) (.cells #[.int .i64 0, .bool false, .int .u64 0] 35))
  have R_3 := Aside0.mk (blk_alloc (blk_new3 (w) (.cells (#[.slice A u.length c]) 32) (.cells (#[.int .i64 6, .int .u64 k, .int .u64 v, .int .i64 z]) 39) (.cells #[.slice none 0 0] 32)) (.cells #[.int .i64 0, .bool false, .int .u64 0] 35))
  have Y_4 := Aside0.mk (blk_new4 (w) (.cells (#[.slice A u.length c]) 32) (.cells (#[.int .i64 6, .int .u64 k, .int .u64 v, .int .i64 z]) 39) (.cells #[.slice none 0 0] 32) (.cells #[.int .i64 0, .bool false, .int .u64 0] 35))
  have B5 := Aside0.mk (below_alloc (below_alloc (below_alloc (below_alloc (Below.refl w.heap.size w) (.cells (#[.slice A u.length c]) 32)) (.cells (#[.int .i64 6, .int .u64 k, .int .u64 v, .int .i64 z]) 39)) (.cells #[.slice none 0 0] 32)) (.cells #[.int .i64 0, .bool false, .int .u64 0] 35))
  go_enter Try.func10, Try.ntmps10
  go_wp2_with (first
    | (refine wpList_load_row_g (by rfl) 32 (.tmp 2) rfl (w.heap.size) rfl 32 (#[.slice A u.length c]) (0, 0) _ U_1.out Try.underlying32 rfl (by kernel_rfl) ?_))
  refine (revenantref21_State_Get.calls K A c u k g b _ (Kd.C_below HC.out B5.out) HCC.out HG.out).mono ?_
  rintro e_ w2 ⟨rfl, hb⟩
  have U_6 := Aside0.mk (blk_below U_1.out hb)
  have O_7 := Aside0.mk (blk_below O_2.out hb)
  have R_8 := Aside0.mk (blk_below R_3.out hb)
  have Y_9 := Aside0.mk (blk_below Y_4.out hb)
  have B10 := Aside0.mk (below_step B5.out hb)
  clear hb U_1 O_2 R_3 Y_4 B5
  have UL := Aside0.mk (U_6.out)
  have L_N := Aside0.mk (show w.heap.size ≤ w2.heap.size from B10.out.size)
  have NE_U_N := Aside0.mk (show w.heap.size ≠ w2.heap.size by have := blk_lt U_6.out; omega)
  have NE_O_N := Aside0.mk (show w.heap.size + 1 ≠ w2.heap.size by have := blk_lt O_7.out; omega)
  have NE_R_N := Aside0.mk (show w.heap.size + 1 + 1 ≠ w2.heap.size by have := blk_lt R_8.out; omega)
  have NE_Y_N := Aside0.mk (show w.heap.size + 1 + 1 + 1 ≠ w2.heap.size by have := blk_lt Y_9.out; omega)
  have U_11 := Aside0.mk (blk_alloc U_6.out (.cells #[.slice none 0 0] 32))
  have O_12 := Aside0.mk (blk_alloc O_7.out (.cells #[.slice none 0 0] 32))
  have R_13 := Aside0.mk (blk_alloc R_8.out (.cells #[.slice none 0 0] 32))
  have Y_14 := Aside0.mk (blk_alloc Y_9.out (.cells #[.slice none 0 0] 32))
  have N_15 := Aside0.mk (blk_new (w2) (.cells #[.slice none 0 0] 32))
  have B16 := Aside0.mk (below_alloc B10.out (.cells #[.slice none 0 0] 32))
  clear U_6 O_7 R_8 Y_9 B10
  go_wp2_with (first
    | (refine wpList_load_row_g (by rfl) 32 (.tmp 2) rfl (w.heap.size) rfl 32 (#[.slice A u.length c]) (0, 0) _ UL.out Try.underlying32 rfl (by kernel_rfl) ?_)
    | (refine store_whole (w := w) (B := w.heap.size) rfl rfl 32 (.tmp 9) (.tmp 18) rfl (g := w2.heap.size) (cs := #[.slice A u.length c]) rfl _ rfl rfl (by kernel_rfl) (by simp [Value.oneCell']) N_15.out (rfl) L_N.out B16.out ?_; intro w_17 h1 h2 h3 h4; have U_18 := Aside0.mk ((h3 _ NE_U_N.out).trans U_11.out); have O_19 := Aside0.mk ((h3 _ NE_O_N.out).trans O_12.out); have R_20 := Aside0.mk ((h3 _ NE_R_N.out).trans R_13.out); have Y_21 := Aside0.mk ((h3 _ NE_Y_N.out).trans Y_14.out); have N_22 := Aside0.mk (h1); have B23 := Aside0.mk (h2); clear h1 h2 h3 h4 U_11 O_12 R_13 Y_14 N_15 B16; have L_Q := Aside0.mk (show w.heap.size ≤ w_17.heap.size from B23.out.size); have NE_U_Q := Aside0.mk (show w.heap.size ≠ w_17.heap.size by have := blk_lt U_18.out; omega); have NE_O_Q := Aside0.mk (show w.heap.size + 1 ≠ w_17.heap.size by have := blk_lt O_19.out; omega); have NE_R_Q := Aside0.mk (show w.heap.size + 1 + 1 ≠ w_17.heap.size by have := blk_lt R_20.out; omega); have NE_Y_Q := Aside0.mk (show w.heap.size + 1 + 1 + 1 ≠ w_17.heap.size by have := blk_lt Y_21.out; omega); have NE_N_Q := Aside0.mk (show w2.heap.size ≠ w_17.heap.size by have := blk_lt N_22.out; omega); have U_24 := Aside0.mk (blk_alloc U_18.out (.cells #[.int .i64 0, .bool false, .int .u64 0] 35)); have O_25 := Aside0.mk (blk_alloc O_19.out (.cells #[.int .i64 0, .bool false, .int .u64 0] 35)); have R_26 := Aside0.mk (blk_alloc R_20.out (.cells #[.int .i64 0, .bool false, .int .u64 0] 35)); have Y_27 := Aside0.mk (blk_alloc Y_21.out (.cells #[.int .i64 0, .bool false, .int .u64 0] 35)); have N_28 := Aside0.mk (blk_alloc N_22.out (.cells #[.int .i64 0, .bool false, .int .u64 0] 35)); have Q_29 := Aside0.mk (blk_new (w_17) (.cells #[.int .i64 0, .bool false, .int .u64 0] 35)); have B30 := Aside0.mk (below_alloc B23.out (.cells #[.int .i64 0, .bool false, .int .u64 0] 35)); clear U_18 O_19 R_20 Y_21 N_22 B23)
    | (refine store_whole (w := w) (B := w.heap.size) rfl rfl 35 (.tmp 10) (.tmp 19) rfl (g := w_17.heap.size) (cs := #[.int .i64 0, .bool false, .int .u64 0]) rfl _ rfl rfl (by kernel_rfl) (by simp [Value.oneCell']) Q_29.out (rfl) L_Q.out B30.out ?_; intro w_31 h1 h2 h3 h4; have U_32 := Aside0.mk ((h3 _ NE_U_Q.out).trans U_24.out); have O_33 := Aside0.mk ((h3 _ NE_O_Q.out).trans O_25.out); have R_34 := Aside0.mk ((h3 _ NE_R_Q.out).trans R_26.out); have Y_35 := Aside0.mk ((h3 _ NE_Y_Q.out).trans Y_27.out); have N_36 := Aside0.mk ((h3 _ NE_N_Q.out).trans N_28.out); have Q_37 := Aside0.mk (h1); have B38 := Aside0.mk (h2); clear h1 h2 h3 h4 U_24 O_25 R_26 Y_27 N_28 Q_29 B30; have o0 : w_31.cell? ⟨w.heap.size + 1, 0, none⟩ = some (.int .i64 6) := (blk_cell O_33.out 0).trans rfl; have o1 : w_31.cell? ⟨w.heap.size + 1, 1, none⟩ = some (.int .u64 k) := (blk_cell O_33.out 1).trans rfl; have o2 : w_31.cell? ⟨w.heap.size + 1, 2, none⟩ = some (.int .u64 v) := (blk_cell O_33.out 2).trans rfl; have q0 : w_31.cell? ⟨w_17.heap.size, 0, none⟩ = some (.int .i64 0) := (blk_cell Q_37.out 0).trans rfl; have p0 := blk_frozen Q_37.out 0; have q1 : w_31.cell? ⟨w_17.heap.size, 1, none⟩ = some (.bool false) := (blk_cell Q_37.out 1).trans rfl; have p1 := blk_frozen Q_37.out 1; have q2 : w_31.cell? ⟨w_17.heap.size, 2, none⟩ = some (.int .u64 0) := (blk_cell Q_37.out 2).trans rfl; have p2 := blk_frozen Q_37.out 2; have U_39 := Aside0.mk (blk_far (blk_far (U_32.out) (p := ⟨w_17.heap.size, 1, none⟩) NE_U_Q.out (.bool b)) (p := ⟨w_17.heap.size, 2, none⟩) NE_U_Q.out (.int .u64 g)); have O_40 := Aside0.mk (blk_far (blk_far (O_33.out) (p := ⟨w_17.heap.size, 1, none⟩) NE_O_Q.out (.bool b)) (p := ⟨w_17.heap.size, 2, none⟩) NE_O_Q.out (.int .u64 g)); have R_41 := Aside0.mk (blk_far (blk_far (R_34.out) (p := ⟨w_17.heap.size, 1, none⟩) NE_R_Q.out (.bool b)) (p := ⟨w_17.heap.size, 2, none⟩) NE_R_Q.out (.int .u64 g)); have Y_42 := Aside0.mk (blk_far (blk_far (Y_35.out) (p := ⟨w_17.heap.size, 1, none⟩) NE_Y_Q.out (.bool b)) (p := ⟨w_17.heap.size, 2, none⟩) NE_Y_Q.out (.int .u64 g)); have N_43 := Aside0.mk (blk_far (blk_far (N_36.out) (p := ⟨w_17.heap.size, 1, none⟩) NE_N_Q.out (.bool b)) (p := ⟨w_17.heap.size, 2, none⟩) NE_N_Q.out (.int .u64 g)); have Q_44 := Aside0.mk (blk_put (blk_set (Q_37.out) 1 (.bool b)) 2 (.int .u64 g) (cs' := #[.int .i64 0, .bool b, .int .u64 g]) rfl); have B45 := Aside0.mk (below_set (below_set (B38.out) (g := w_17.heap.size) (j := 1) (v := .bool b) L_Q.out) (g := w_17.heap.size) (j := 2) (v := .int .u64 g) L_Q.out); clear U_32 O_33 R_34 Y_35 N_36 Q_37 B38; have s0 : ((w_31.setCell ⟨w_17.heap.size, 1, none⟩ (.bool b)).setCell ⟨w_17.heap.size, 2, none⟩ (.int .u64 g)).cell? ⟨w.heap.size + 1, 0, none⟩ = some (.int .i64 6) := (blk_cell O_40.out 0).trans rfl; have s1 : ((w_31.setCell ⟨w_17.heap.size, 1, none⟩ (.bool b)).setCell ⟨w_17.heap.size, 2, none⟩ (.int .u64 g)).cell? ⟨w.heap.size + 1, 1, none⟩ = some (.int .u64 k) := (blk_cell O_40.out 1).trans rfl; have s2 : ((w_31.setCell ⟨w_17.heap.size, 1, none⟩ (.bool b)).setCell ⟨w_17.heap.size, 2, none⟩ (.int .u64 g)).cell? ⟨w.heap.size + 1, 2, none⟩ = some (.int .u64 v) := (blk_cell O_40.out 2).trans rfl)
    | (refine wpList_load_row_g (by rfl) 32 (.tmp 2) rfl (w.heap.size) rfl 32 (#[.slice A u.length c]) (0, 0) _ U_39.out Try.underlying32 rfl (by kernel_rfl) ?_))
  have BQ := Aside0.mk (B45.out)
  refine (revenantref21_State_Without.calls K2 A c u k u2 _ (Kd.C_below HC.out B45.out) HCC.out HW.out).mono ?_
  rintro e_ w5 ⟨v0, rfl, hR, hb⟩
  have U_46 := Aside0.mk (blk_below U_39.out hb)
  have O_47 := Aside0.mk (blk_below O_40.out hb)
  have R_48 := Aside0.mk (blk_below R_41.out hb)
  have Y_49 := Aside0.mk (blk_below Y_42.out hb)
  have N_50 := Aside0.mk (blk_below N_43.out hb)
  have Q_51 := Aside0.mk (blk_below Q_44.out hb)
  obtain ⟨A2, c2, rfl, hc2, -⟩ := Kd.R_reads hR
  have HC2 := Aside0.mk hc2
  have X_950 := Aside0.mk (Kd.R_lower hR BQ.out.size)
  clear hR hc2
  have B52 := Aside0.mk (below_step B45.out hb)
  clear hb U_39 O_40 R_41 Y_42 N_43 Q_44 B45
  go_wp2_with (first
    | (refine store_whole (w := w) (B := w.heap.size) rfl rfl 32 (.tmp 9) (.tmp 86) rfl (g := w2.heap.size) (cs := #[.slice A2 u2.length c2]) rfl _ rfl rfl (by kernel_rfl) (by simp [Value.oneCell']) N_50.out (rfl) L_N.out B52.out ?_; intro w_53 h1 h2 h3 h4; have X_54 := Aside0.mk (row_far X_950.out N_50.out (by decide) h3); have U_55 := Aside0.mk ((h3 _ NE_U_N.out).trans U_46.out); have O_56 := Aside0.mk ((h3 _ NE_O_N.out).trans O_47.out); have R_57 := Aside0.mk ((h3 _ NE_R_N.out).trans R_48.out); have Y_58 := Aside0.mk ((h3 _ NE_Y_N.out).trans Y_49.out); have N_59 := Aside0.mk (h1); have Q_60 := Aside0.mk ((h3 _ (Ne.symm NE_N_Q.out)).trans Q_51.out); have B61 := Aside0.mk (h2); clear h1 h2 h3 h4 X_950 U_46 O_47 R_48 Y_49 N_50 Q_51 B52; have n0 : w_53.cell? ⟨w2.heap.size, 0, none⟩ = some (.slice A2 u2.length c2) := (blk_cell N_59.out 0).trans rfl))
  refine start_ (n := 5) (S := fun w' => w'.heap[w2.heap.size]? = some (.cells (#[.slice A2 u2.length c2]) 32 (0, 0)) ∧ w'.heap[w_17.heap.size]? = some (.cells (#[.int .i64 0, .bool b, .int .u64 g]) 35 (0, 0))) (ds := [3]) #[false, false, false, false, false] (by kernel_rfl) rfl rfl ⟨N_59.out, Q_60.out⟩ (fun hHeld => ?_)
  refine take_ (i := 0) (N := some 102) (v := ?_) (a' := ?_) #[true, false, false, false, false] rfl rfl (by kernel_rfl) (fun _ _ _ h => h) (Or.inl ⟨by rfl, ?_⟩) hHeld ?_ ?_
  rotate_left
  · rintro w' ⟨s0, s1⟩
    refine exec_load_row 32 (.tmp 9) ?_ _ ?_ 32 (#[.slice A2 u2.length c2]) (0, 0) _ s0 Try.underlying32 rfl (by kernel_rfl) <;> rfl
  rotate_left
  · simp only [Act.put, List.setIfInBounds_toArray, List.set_cons_zero, List.set_cons_succ, i64_w, i32_w]
    rfl
  refine take_ (i := 1) (N := some 103) (v := ?_) (a' := ?_) #[true, true, false, false, false] rfl rfl (by kernel_rfl) (fun _ _ _ h => h) (Or.inl ⟨by rfl, ?_⟩) hHeld ?_ ?_
  rotate_left
  · rintro w' ⟨s0, s1⟩
    refine exec_load_row 35 (.tmp 10) ?_ _ ?_ 35 (#[.int .i64 0, .bool b, .int .u64 g]) (0, 0) _ s1 Try.underlying35 rfl (by kernel_rfl) <;> rfl
  rotate_left
  · simp only [Act.put, List.setIfInBounds_toArray, List.set_cons_zero, List.set_cons_succ, i64_w, i32_w]
    rfl
  refine one_ (i := 2) (N := none) #[true, true, true, false, false] rfl rfl (by kernel_rfl) (by decide) (fun K hK => ?_)
  refine skip_whole (w := w) (B := w.heap.size) 32 (.tmp 4) (.tmp 102) (by rfl) rfl rfl (g := w.heap.size + 1 + 1) (cs := #[.slice A2 u2.length c2]) ?_ (.agg (#[.slice A2 u2.length c2])) ?_ rfl (by kernel_rfl) (by simp [Value.oneCell']) ((blk_drew R_57.out)) (rfl) L_R.out ((below_drew B61.out)) ?_
  · rfl
  · rfl
  intro w8 h1 h2 h3 h4
  have X_62 := Aside0.mk (row_far (Kd.R_drew X_54.out) (blk_drew R_57.out) (by decide) h3)
  have U_63 := Aside0.mk ((h3 _ NE_U_R.out).trans (blk_drew U_55.out))
  have O_64 := Aside0.mk ((h3 _ NE_O_R.out).trans (blk_drew O_56.out))
  have R_65 := Aside0.mk (h1)
  have Y_66 := Aside0.mk ((h3 _ (Ne.symm NE_R_Y.out)).trans (blk_drew Y_58.out))
  have N_67 := Aside0.mk ((h3 _ (Ne.symm NE_R_N.out)).trans (blk_drew N_59.out))
  have Q_68 := Aside0.mk ((h3 _ (Ne.symm NE_R_Q.out)).trans (blk_drew Q_60.out))
  have B69 := Aside0.mk (h2)
  clear h1 h2 h3 h4 X_54 U_55 O_56 R_57 Y_58 N_59 Q_60 B61
  refine hK.out _ _ ⟨N_67.out, Q_68.out⟩ (fun hHeld => ?_)
  clear hK K
  refine last_ (i := 3) (N := none) #[true, true, true, true, false] rfl rfl (by kernel_rfl) (by decide) (fun K hK => ?_)
  refine skip_whole (w := w) (B := w.heap.size) 35 (.tmp 5) (.tmp 103) (by rfl) rfl rfl (g := w.heap.size + 1 + 1 + 1) (cs := #[.int .i64 0, .bool b, .int .u64 g]) ?_ (.agg (#[.int .i64 0, .bool b, .int .u64 g])) ?_ rfl (by kernel_rfl) (by simp [Value.oneCell']) (Y_66.out) (rfl) L_Y.out (B69.out) ?_
  · rfl
  · rfl
  intro w9 h1 h2 h3 h4
  have X_70 := Aside0.mk (row_far X_62.out Y_66.out (by decide) h3)
  have U_71 := Aside0.mk ((h3 _ NE_U_Y.out).trans U_63.out)
  have O_72 := Aside0.mk ((h3 _ NE_O_Y.out).trans O_64.out)
  have R_73 := Aside0.mk ((h3 _ NE_R_Y.out).trans R_65.out)
  have Y_74 := Aside0.mk (h1)
  have N_75 := Aside0.mk ((h3 _ (Ne.symm NE_Y_N.out)).trans N_67.out)
  have Q_76 := Aside0.mk ((h3 _ (Ne.symm NE_Y_Q.out)).trans Q_68.out)
  have B77 := Aside0.mk (h2)
  clear h1 h2 h3 h4 X_62 U_63 O_64 R_65 Y_66 N_67 Q_68 B69
  refine hK.out _ _ ?_
  clear hK K
  refine pure_ (i := 4) (N := some 6) (v := ?_) (a' := ?_) #[true, true, true, true, true] rfl rfl (by kernel_rfl) (fun _ _ _ h => h) (Or.inl ⟨by rfl, ?_⟩) ?_ ?_
  rotate_left
  · intro w'
    go_simp
    with_reducible rfl
  rotate_left
  · simp only [Act.put, List.setIfInBounds_toArray, List.set_cons_zero, List.set_cons_succ, i64_w, i32_w]
    rfl
  refine done_ (by kernel_rfl) ?_
  go_wp2_with fail
  exact bodyPost_ret (results_cell3 (P := Try.prog) rfl _ _ (w.heap.size + 1 + 1) (w.heap.size + 1 + 1 + 1) 32 35 #[.slice A2 u2.length c2] #[.int .i64 0, .bool b, .int .u64 g] (0, 0) (0, 0) _ _ rfl R_73.out Try.underlying32 rfl (by kernel_rfl) rfl Y_74.out Try.underlying35 rfl (by kernel_rfl) rfl) rfl ⟨_, rfl, X_70.out, B77.out⟩
set_option maxHeartbeats 8000000 in
set_option maxRecDepth 100000 in
theorem rdo1xf_T (u u2 : List S57) (A : Option Addr) (c : Nat) (k v z g : Int) (K K2 : Nat) (w : World) (hC : Kd.C k57 w A u.length u) (hc : u.length ≤ c) (hG : revenantref21_State_Get.f K u k = some (g, false)) (hW : revenantref21_State_With.f K2 u k 0 = some u2) (hl : 16 < u2.length) :
    Calls Try.prog 10 #[.agg #[.slice A u.length c], .agg #[.int .i64 1, .int .u64 k, .int .u64 v, .int .i64 z]] w fun e w' => e = .returned (.tuple #[.agg #[.slice none 0 0], .agg #[.int .i64 0, .bool false, .int .u64 0], .int .i64 6]) ∧ Below w.heap.size w w' := by
  have hu32 := Try.underlying32
  have hu39 := Try.underlying39
  have hu35 := Try.underlying35
  have HC := Aside0.mk hC
  have HCC := Aside0.mk hc
  have HG := Aside0.mk hG
  have HW := Aside0.mk hW
  have t1 : decide ((16 : Int) < (u2.length : Int)) = true := decide_eq_true (by omega)
  have t2 := eq_true (show  (16 : Int) < (u2.length : Int) by omega)
  clear hC hc hG hW hl
  have L_U := Aside0.mk (show w.heap.size ≤ w.heap.size from Nat.le_refl _)
  have L_O := Aside0.mk (show w.heap.size ≤ w.heap.size + 1 from by have := L_U.out; omega)
  have NE_U_O := Aside0.mk (show w.heap.size ≠ w.heap.size + 1 by omega)
  have L_R := Aside0.mk (show w.heap.size ≤ w.heap.size + 1 + 1 from by have := L_U.out; omega)
  have NE_U_R := Aside0.mk (show w.heap.size ≠ w.heap.size + 1 + 1 by omega)
  have NE_O_R := Aside0.mk (show w.heap.size + 1 ≠ w.heap.size + 1 + 1 by omega)
  have L_Y := Aside0.mk (show w.heap.size ≤ w.heap.size + 1 + 1 + 1 from by have := L_U.out; omega)
  have NE_U_Y := Aside0.mk (show w.heap.size ≠ w.heap.size + 1 + 1 + 1 by omega)
  have NE_O_Y := Aside0.mk (show w.heap.size + 1 ≠ w.heap.size + 1 + 1 + 1 by omega)
  have NE_R_Y := Aside0.mk (show w.heap.size + 1 + 1 ≠ w.heap.size + 1 + 1 + 1 by omega)
  have U_1 := Aside0.mk (blk_alloc (blk_alloc (blk_alloc (blk_new (w) (.cells (#[.slice A u.length c]) 32)) (.cells (#[.int .i64 1, .int .u64 k, .int .u64 v, .int .i64 z]) 39)) (.cells #[.slice none 0 0] 32)) (.cells #[.int .i64 0, .bool false, .int .u64 0] 35))
  have O_2 := Aside0.mk (blk_alloc (blk_alloc (blk_new2 (w) (.cells (#[.slice A u.length c]) 32) (.cells (#[.int .i64 1, .int .u64 k, .int .u64 v, .int .i64 z]) 39)) (.cells #[.slice none 0 0] 32)) (.cells #[.int .i64 0, .bool false, .int .u64 0] 35))
  have R_3 := Aside0.mk (blk_alloc (blk_new3 (w) (.cells (#[.slice A u.length c]) 32) (.cells (#[.int .i64 1, .int .u64 k, .int .u64 v, .int .i64 z]) 39) (.cells #[.slice none 0 0] 32)) (.cells #[.int .i64 0, .bool false, .int .u64 0] 35))
  have Y_4 := Aside0.mk (blk_new4 (w) (.cells (#[.slice A u.length c]) 32) (.cells (#[.int .i64 1, .int .u64 k, .int .u64 v, .int .i64 z]) 39) (.cells #[.slice none 0 0] 32) (.cells #[.int .i64 0, .bool false, .int .u64 0] 35))
  have B5 := Aside0.mk (below_alloc (below_alloc (below_alloc (below_alloc (Below.refl w.heap.size w) (.cells (#[.slice A u.length c]) 32)) (.cells (#[.int .i64 1, .int .u64 k, .int .u64 v, .int .i64 z]) 39)) (.cells #[.slice none 0 0] 32)) (.cells #[.int .i64 0, .bool false, .int .u64 0] 35))
  go_enter Try.func10, Try.ntmps10
  go_wp2_with (first
    | (refine wpList_load_row_g (by rfl) 32 (.tmp 2) rfl (w.heap.size) rfl 32 (#[.slice A u.length c]) (0, 0) _ U_1.out Try.underlying32 rfl (by kernel_rfl) ?_))
  refine (revenantref21_State_Get.calls K A c u k g false _ (Kd.C_below HC.out B5.out) HCC.out HG.out).mono ?_
  rintro e_ w2 ⟨rfl, hb⟩
  have U_6 := Aside0.mk (blk_below U_1.out hb)
  have O_7 := Aside0.mk (blk_below O_2.out hb)
  have R_8 := Aside0.mk (blk_below R_3.out hb)
  have Y_9 := Aside0.mk (blk_below Y_4.out hb)
  have B10 := Aside0.mk (below_step B5.out hb)
  clear hb U_1 O_2 R_3 Y_4 B5
  have UL := Aside0.mk (U_6.out)
  have L_N := Aside0.mk (show w.heap.size ≤ w2.heap.size from B10.out.size)
  have NE_U_N := Aside0.mk (show w.heap.size ≠ w2.heap.size by have := blk_lt U_6.out; omega)
  have NE_O_N := Aside0.mk (show w.heap.size + 1 ≠ w2.heap.size by have := blk_lt O_7.out; omega)
  have NE_R_N := Aside0.mk (show w.heap.size + 1 + 1 ≠ w2.heap.size by have := blk_lt R_8.out; omega)
  have NE_Y_N := Aside0.mk (show w.heap.size + 1 + 1 + 1 ≠ w2.heap.size by have := blk_lt Y_9.out; omega)
  have U_11 := Aside0.mk (blk_alloc U_6.out (.cells #[.slice none 0 0] 32))
  have O_12 := Aside0.mk (blk_alloc O_7.out (.cells #[.slice none 0 0] 32))
  have R_13 := Aside0.mk (blk_alloc R_8.out (.cells #[.slice none 0 0] 32))
  have Y_14 := Aside0.mk (blk_alloc Y_9.out (.cells #[.slice none 0 0] 32))
  have N_15 := Aside0.mk (blk_new (w2) (.cells #[.slice none 0 0] 32))
  have B16 := Aside0.mk (below_alloc B10.out (.cells #[.slice none 0 0] 32))
  clear U_6 O_7 R_8 Y_9 B10
  go_wp2_with (first
    | (refine wpList_load_row_g (by rfl) 32 (.tmp 2) rfl (w.heap.size) rfl 32 (#[.slice A u.length c]) (0, 0) _ UL.out Try.underlying32 rfl (by kernel_rfl) ?_)
    | (refine store_whole (w := w) (B := w.heap.size) rfl rfl 32 (.tmp 9) (.tmp 18) rfl (g := w2.heap.size) (cs := #[.slice A u.length c]) rfl _ rfl rfl (by kernel_rfl) (by simp [Value.oneCell']) N_15.out (rfl) L_N.out B16.out ?_; intro w_17 h1 h2 h3 h4; have U_18 := Aside0.mk ((h3 _ NE_U_N.out).trans U_11.out); have O_19 := Aside0.mk ((h3 _ NE_O_N.out).trans O_12.out); have R_20 := Aside0.mk ((h3 _ NE_R_N.out).trans R_13.out); have Y_21 := Aside0.mk ((h3 _ NE_Y_N.out).trans Y_14.out); have N_22 := Aside0.mk (h1); have B23 := Aside0.mk (h2); clear h1 h2 h3 h4 U_11 O_12 R_13 Y_14 N_15 B16; have L_Q := Aside0.mk (show w.heap.size ≤ w_17.heap.size from B23.out.size); have NE_U_Q := Aside0.mk (show w.heap.size ≠ w_17.heap.size by have := blk_lt U_18.out; omega); have NE_O_Q := Aside0.mk (show w.heap.size + 1 ≠ w_17.heap.size by have := blk_lt O_19.out; omega); have NE_R_Q := Aside0.mk (show w.heap.size + 1 + 1 ≠ w_17.heap.size by have := blk_lt R_20.out; omega); have NE_Y_Q := Aside0.mk (show w.heap.size + 1 + 1 + 1 ≠ w_17.heap.size by have := blk_lt Y_21.out; omega); have NE_N_Q := Aside0.mk (show w2.heap.size ≠ w_17.heap.size by have := blk_lt N_22.out; omega); have U_24 := Aside0.mk (blk_alloc U_18.out (.cells #[.int .i64 0, .bool false, .int .u64 0] 35)); have O_25 := Aside0.mk (blk_alloc O_19.out (.cells #[.int .i64 0, .bool false, .int .u64 0] 35)); have R_26 := Aside0.mk (blk_alloc R_20.out (.cells #[.int .i64 0, .bool false, .int .u64 0] 35)); have Y_27 := Aside0.mk (blk_alloc Y_21.out (.cells #[.int .i64 0, .bool false, .int .u64 0] 35)); have N_28 := Aside0.mk (blk_alloc N_22.out (.cells #[.int .i64 0, .bool false, .int .u64 0] 35)); have Q_29 := Aside0.mk (blk_new (w_17) (.cells #[.int .i64 0, .bool false, .int .u64 0] 35)); have B30 := Aside0.mk (below_alloc B23.out (.cells #[.int .i64 0, .bool false, .int .u64 0] 35)); clear U_18 O_19 R_20 Y_21 N_22 B23)
    | (refine store_whole (w := w) (B := w.heap.size) rfl rfl 35 (.tmp 10) (.tmp 19) rfl (g := w_17.heap.size) (cs := #[.int .i64 0, .bool false, .int .u64 0]) rfl _ rfl rfl (by kernel_rfl) (by simp [Value.oneCell']) Q_29.out (rfl) L_Q.out B30.out ?_; intro w_31 h1 h2 h3 h4; have U_32 := Aside0.mk ((h3 _ NE_U_Q.out).trans U_24.out); have O_33 := Aside0.mk ((h3 _ NE_O_Q.out).trans O_25.out); have R_34 := Aside0.mk ((h3 _ NE_R_Q.out).trans R_26.out); have Y_35 := Aside0.mk ((h3 _ NE_Y_Q.out).trans Y_27.out); have N_36 := Aside0.mk ((h3 _ NE_N_Q.out).trans N_28.out); have Q_37 := Aside0.mk (h1); have B38 := Aside0.mk (h2); clear h1 h2 h3 h4 U_24 O_25 R_26 Y_27 N_28 Q_29 B30; have o0 : w_31.cell? ⟨w.heap.size + 1, 0, none⟩ = some (.int .i64 1) := (blk_cell O_33.out 0).trans rfl; have o1 : w_31.cell? ⟨w.heap.size + 1, 1, none⟩ = some (.int .u64 k) := (blk_cell O_33.out 1).trans rfl; have o2 : w_31.cell? ⟨w.heap.size + 1, 2, none⟩ = some (.int .u64 v) := (blk_cell O_33.out 2).trans rfl; have q0 : w_31.cell? ⟨w_17.heap.size, 0, none⟩ = some (.int .i64 0) := (blk_cell Q_37.out 0).trans rfl; have p0 := blk_frozen Q_37.out 0; have q1 : w_31.cell? ⟨w_17.heap.size, 1, none⟩ = some (.bool false) := (blk_cell Q_37.out 1).trans rfl; have p1 := blk_frozen Q_37.out 1; have q2 : w_31.cell? ⟨w_17.heap.size, 2, none⟩ = some (.int .u64 0) := (blk_cell Q_37.out 2).trans rfl; have p2 := blk_frozen Q_37.out 2; have U_39 := Aside0.mk (blk_far (U_32.out) (p := ⟨w_17.heap.size, 1, none⟩) NE_U_Q.out (.bool true)); have O_40 := Aside0.mk (blk_far (O_33.out) (p := ⟨w_17.heap.size, 1, none⟩) NE_O_Q.out (.bool true)); have R_41 := Aside0.mk (blk_far (R_34.out) (p := ⟨w_17.heap.size, 1, none⟩) NE_R_Q.out (.bool true)); have Y_42 := Aside0.mk (blk_far (Y_35.out) (p := ⟨w_17.heap.size, 1, none⟩) NE_Y_Q.out (.bool true)); have N_43 := Aside0.mk (blk_far (N_36.out) (p := ⟨w_17.heap.size, 1, none⟩) NE_N_Q.out (.bool true)); have Q_44 := Aside0.mk (blk_put (Q_37.out) 1 (.bool true) (cs' := #[.int .i64 0, .bool true, .int .u64 0]) rfl); have B45 := Aside0.mk (below_set (B38.out) (g := w_17.heap.size) (j := 1) (v := .bool true) L_Q.out); clear U_32 O_33 R_34 Y_35 N_36 Q_37 B38; have s0 : (w_31.setCell ⟨w_17.heap.size, 1, none⟩ (.bool true)).cell? ⟨w.heap.size + 1, 0, none⟩ = some (.int .i64 1) := (blk_cell O_40.out 0).trans rfl; have s1 : (w_31.setCell ⟨w_17.heap.size, 1, none⟩ (.bool true)).cell? ⟨w.heap.size + 1, 1, none⟩ = some (.int .u64 k) := (blk_cell O_40.out 1).trans rfl; have s2 : (w_31.setCell ⟨w_17.heap.size, 1, none⟩ (.bool true)).cell? ⟨w.heap.size + 1, 2, none⟩ = some (.int .u64 v) := (blk_cell O_40.out 2).trans rfl)
    | (refine wpList_load_row_g (by rfl) 32 (.tmp 2) rfl (w.heap.size) rfl 32 (#[.slice A u.length c]) (0, 0) _ U_39.out Try.underlying32 rfl (by kernel_rfl) ?_))
  have BQ := Aside0.mk (B45.out)
  refine (revenantref21_State_With.calls K2 A c u k 0 u2 _ (Kd.C_below HC.out B45.out) HCC.out HW.out).mono ?_
  rintro e_ w5 ⟨v0, rfl, hR, hb⟩
  have U_46 := Aside0.mk (blk_below U_39.out hb)
  have O_47 := Aside0.mk (blk_below O_40.out hb)
  have R_48 := Aside0.mk (blk_below R_41.out hb)
  have Y_49 := Aside0.mk (blk_below Y_42.out hb)
  have N_50 := Aside0.mk (blk_below N_43.out hb)
  have Q_51 := Aside0.mk (blk_below Q_44.out hb)
  obtain ⟨A2, c2, rfl, hc2, -⟩ := Kd.R_reads hR
  have HC2 := Aside0.mk hc2
  have X_950 := Aside0.mk (Kd.R_lower hR BQ.out.size)
  clear hR hc2
  have B52 := Aside0.mk (below_step B45.out hb)
  clear hb U_39 O_40 R_41 Y_42 N_43 Q_44 B45
  go_wp2_with (first
    | (refine store_whole (w := w) (B := w.heap.size) rfl rfl 32 (.tmp 9) (.tmp 35) rfl (g := w2.heap.size) (cs := #[.slice A2 u2.length c2]) rfl _ rfl rfl (by kernel_rfl) (by simp [Value.oneCell']) N_50.out (rfl) L_N.out B52.out ?_; intro w_53 h1 h2 h3 h4; have X_54 := Aside0.mk (row_far X_950.out N_50.out (by decide) h3); have U_55 := Aside0.mk ((h3 _ NE_U_N.out).trans U_46.out); have O_56 := Aside0.mk ((h3 _ NE_O_N.out).trans O_47.out); have R_57 := Aside0.mk ((h3 _ NE_R_N.out).trans R_48.out); have Y_58 := Aside0.mk ((h3 _ NE_Y_N.out).trans Y_49.out); have N_59 := Aside0.mk (h1); have Q_60 := Aside0.mk ((h3 _ (Ne.symm NE_N_Q.out)).trans Q_51.out); have B61 := Aside0.mk (h2); clear h1 h2 h3 h4 X_950 U_46 O_47 R_48 Y_49 N_50 Q_51 B52; have n0 : w_53.cell? ⟨w2.heap.size, 0, none⟩ = some (.slice A2 u2.length c2) := (blk_cell N_59.out 0).trans rfl)
    | (refine store_whole (w := w) (B := w.heap.size) rfl rfl 32 (.tmp 4) (.tmp 100) rfl (g := w.heap.size + 1 + 1) (cs := #[.slice none 0 0]) rfl _ rfl rfl (by kernel_rfl) (by simp [Value.oneCell']) R_57.out (rfl) L_R.out B61.out ?_; intro w_62 h1 h2 h3 h4; have X_63 := Aside0.mk (row_far X_54.out R_57.out (by decide) h3); have U_64 := Aside0.mk ((h3 _ NE_U_R.out).trans U_55.out); have O_65 := Aside0.mk ((h3 _ NE_O_R.out).trans O_56.out); have R_66 := Aside0.mk (h1); have Y_67 := Aside0.mk ((h3 _ (Ne.symm NE_R_Y.out)).trans Y_58.out); have N_68 := Aside0.mk ((h3 _ (Ne.symm NE_R_N.out)).trans N_59.out); have Q_69 := Aside0.mk ((h3 _ (Ne.symm NE_R_Q.out)).trans Q_60.out); have B70 := Aside0.mk (h2); clear h1 h2 h3 h4 X_54 U_55 O_56 R_57 Y_58 N_59 Q_60 B61)
    | (refine store_whole (w := w) (B := w.heap.size) rfl rfl 35 (.tmp 5) (.tmp 101) rfl (g := w.heap.size + 1 + 1 + 1) (cs := #[.int .i64 0, .bool false, .int .u64 0]) rfl _ rfl rfl (by kernel_rfl) (by simp [Value.oneCell']) Y_67.out (rfl) L_Y.out B70.out ?_; intro w_71 h1 h2 h3 h4; have X_72 := Aside0.mk (row_far X_63.out Y_67.out (by decide) h3); have U_73 := Aside0.mk ((h3 _ NE_U_Y.out).trans U_64.out); have O_74 := Aside0.mk ((h3 _ NE_O_Y.out).trans O_65.out); have R_75 := Aside0.mk ((h3 _ NE_R_Y.out).trans R_66.out); have Y_76 := Aside0.mk (h1); have N_77 := Aside0.mk ((h3 _ (Ne.symm NE_Y_N.out)).trans N_68.out); have Q_78 := Aside0.mk ((h3 _ (Ne.symm NE_Y_Q.out)).trans Q_69.out); have B79 := Aside0.mk (h2); clear h1 h2 h3 h4 X_63 U_64 O_65 R_66 Y_67 N_68 Q_69 B70))
  exact bodyPost_ret (results_cell3 (P := Try.prog) rfl _ _ (w.heap.size + 1 + 1) (w.heap.size + 1 + 1 + 1) 32 35 #[.slice none 0 0] #[.int .i64 0, .bool false, .int .u64 0] (0, 0) (0, 0) _ _ rfl R_75.out Try.underlying32 rfl (by kernel_rfl) rfl Y_76.out Try.underlying35 rfl (by kernel_rfl) rfl) rfl ⟨rfl, B79.out⟩
set_option maxHeartbeats 8000000 in
set_option maxRecDepth 100000 in
theorem rdo5xf_T (u u2 : List S57) (A : Option Addr) (c : Nat) (k v z g : Int) (K K2 : Nat) (w : World) (hC : Kd.C k57 w A u.length u) (hc : u.length ≤ c) (hG : revenantref21_State_Get.f K u k = some (g, false)) (hW : revenantref21_State_With.f K2 u k v = some u2) (hl : 16 < u2.length) :
    Calls Try.prog 10 #[.agg #[.slice A u.length c], .agg #[.int .i64 5, .int .u64 k, .int .u64 v, .int .i64 z]] w fun e w' => e = .returned (.tuple #[.agg #[.slice none 0 0], .agg #[.int .i64 0, .bool false, .int .u64 0], .int .i64 6]) ∧ Below w.heap.size w w' := by
  have hu32 := Try.underlying32
  have hu39 := Try.underlying39
  have hu35 := Try.underlying35
  have HC := Aside0.mk hC
  have HCC := Aside0.mk hc
  have HG := Aside0.mk hG
  have HW := Aside0.mk hW
  have t1 : decide ((16 : Int) < (u2.length : Int)) = true := decide_eq_true (by omega)
  have t2 := eq_true (show  (16 : Int) < (u2.length : Int) by omega)
  clear hC hc hG hW hl
  have L_U := Aside0.mk (show w.heap.size ≤ w.heap.size from Nat.le_refl _)
  have L_O := Aside0.mk (show w.heap.size ≤ w.heap.size + 1 from by have := L_U.out; omega)
  have NE_U_O := Aside0.mk (show w.heap.size ≠ w.heap.size + 1 by omega)
  have L_R := Aside0.mk (show w.heap.size ≤ w.heap.size + 1 + 1 from by have := L_U.out; omega)
  have NE_U_R := Aside0.mk (show w.heap.size ≠ w.heap.size + 1 + 1 by omega)
  have NE_O_R := Aside0.mk (show w.heap.size + 1 ≠ w.heap.size + 1 + 1 by omega)
  have L_Y := Aside0.mk (show w.heap.size ≤ w.heap.size + 1 + 1 + 1 from by have := L_U.out; omega)
  have NE_U_Y := Aside0.mk (show w.heap.size ≠ w.heap.size + 1 + 1 + 1 by omega)
  have NE_O_Y := Aside0.mk (show w.heap.size + 1 ≠ w.heap.size + 1 + 1 + 1 by omega)
  have NE_R_Y := Aside0.mk (show w.heap.size + 1 + 1 ≠ w.heap.size + 1 + 1 + 1 by omega)
  have U_1 := Aside0.mk (blk_alloc (blk_alloc (blk_alloc (blk_new (w) (.cells (#[.slice A u.length c]) 32)) (.cells (#[.int .i64 5, .int .u64 k, .int .u64 v, .int .i64 z]) 39)) (.cells #[.slice none 0 0] 32)) (.cells #[.int .i64 0, .bool false, .int .u64 0] 35))
  have O_2 := Aside0.mk (blk_alloc (blk_alloc (blk_new2 (w) (.cells (#[.slice A u.length c]) 32) (.cells (#[.int .i64 5, .int .u64 k, .int .u64 v, .int .i64 z]) 39)) (.cells #[.slice none 0 0] 32)) (.cells #[.int .i64 0, .bool false, .int .u64 0] 35))
  have R_3 := Aside0.mk (blk_alloc (blk_new3 (w) (.cells (#[.slice A u.length c]) 32) (.cells (#[.int .i64 5, .int .u64 k, .int .u64 v, .int .i64 z]) 39) (.cells #[.slice none 0 0] 32)) (.cells #[.int .i64 0, .bool false, .int .u64 0] 35))
  have Y_4 := Aside0.mk (blk_new4 (w) (.cells (#[.slice A u.length c]) 32) (.cells (#[.int .i64 5, .int .u64 k, .int .u64 v, .int .i64 z]) 39) (.cells #[.slice none 0 0] 32) (.cells #[.int .i64 0, .bool false, .int .u64 0] 35))
  have B5 := Aside0.mk (below_alloc (below_alloc (below_alloc (below_alloc (Below.refl w.heap.size w) (.cells (#[.slice A u.length c]) 32)) (.cells (#[.int .i64 5, .int .u64 k, .int .u64 v, .int .i64 z]) 39)) (.cells #[.slice none 0 0] 32)) (.cells #[.int .i64 0, .bool false, .int .u64 0] 35))
  go_enter Try.func10, Try.ntmps10
  go_wp2_with (first
    | (refine wpList_load_row_g (by rfl) 32 (.tmp 2) rfl (w.heap.size) rfl 32 (#[.slice A u.length c]) (0, 0) _ U_1.out Try.underlying32 rfl (by kernel_rfl) ?_))
  refine (revenantref21_State_Get.calls K A c u k g false _ (Kd.C_below HC.out B5.out) HCC.out HG.out).mono ?_
  rintro e_ w2 ⟨rfl, hb⟩
  have U_6 := Aside0.mk (blk_below U_1.out hb)
  have O_7 := Aside0.mk (blk_below O_2.out hb)
  have R_8 := Aside0.mk (blk_below R_3.out hb)
  have Y_9 := Aside0.mk (blk_below Y_4.out hb)
  have B10 := Aside0.mk (below_step B5.out hb)
  clear hb U_1 O_2 R_3 Y_4 B5
  have UL := Aside0.mk (U_6.out)
  have L_N := Aside0.mk (show w.heap.size ≤ w2.heap.size from B10.out.size)
  have NE_U_N := Aside0.mk (show w.heap.size ≠ w2.heap.size by have := blk_lt U_6.out; omega)
  have NE_O_N := Aside0.mk (show w.heap.size + 1 ≠ w2.heap.size by have := blk_lt O_7.out; omega)
  have NE_R_N := Aside0.mk (show w.heap.size + 1 + 1 ≠ w2.heap.size by have := blk_lt R_8.out; omega)
  have NE_Y_N := Aside0.mk (show w.heap.size + 1 + 1 + 1 ≠ w2.heap.size by have := blk_lt Y_9.out; omega)
  have U_11 := Aside0.mk (blk_alloc U_6.out (.cells #[.slice none 0 0] 32))
  have O_12 := Aside0.mk (blk_alloc O_7.out (.cells #[.slice none 0 0] 32))
  have R_13 := Aside0.mk (blk_alloc R_8.out (.cells #[.slice none 0 0] 32))
  have Y_14 := Aside0.mk (blk_alloc Y_9.out (.cells #[.slice none 0 0] 32))
  have N_15 := Aside0.mk (blk_new (w2) (.cells #[.slice none 0 0] 32))
  have B16 := Aside0.mk (below_alloc B10.out (.cells #[.slice none 0 0] 32))
  clear U_6 O_7 R_8 Y_9 B10
  go_wp2_with (first
    | (refine wpList_load_row_g (by rfl) 32 (.tmp 2) rfl (w.heap.size) rfl 32 (#[.slice A u.length c]) (0, 0) _ UL.out Try.underlying32 rfl (by kernel_rfl) ?_)
    | (refine store_whole (w := w) (B := w.heap.size) rfl rfl 32 (.tmp 9) (.tmp 18) rfl (g := w2.heap.size) (cs := #[.slice A u.length c]) rfl _ rfl rfl (by kernel_rfl) (by simp [Value.oneCell']) N_15.out (rfl) L_N.out B16.out ?_; intro w_17 h1 h2 h3 h4; have U_18 := Aside0.mk ((h3 _ NE_U_N.out).trans U_11.out); have O_19 := Aside0.mk ((h3 _ NE_O_N.out).trans O_12.out); have R_20 := Aside0.mk ((h3 _ NE_R_N.out).trans R_13.out); have Y_21 := Aside0.mk ((h3 _ NE_Y_N.out).trans Y_14.out); have N_22 := Aside0.mk (h1); have B23 := Aside0.mk (h2); clear h1 h2 h3 h4 U_11 O_12 R_13 Y_14 N_15 B16; have L_Q := Aside0.mk (show w.heap.size ≤ w_17.heap.size from B23.out.size); have NE_U_Q := Aside0.mk (show w.heap.size ≠ w_17.heap.size by have := blk_lt U_18.out; omega); have NE_O_Q := Aside0.mk (show w.heap.size + 1 ≠ w_17.heap.size by have := blk_lt O_19.out; omega); have NE_R_Q := Aside0.mk (show w.heap.size + 1 + 1 ≠ w_17.heap.size by have := blk_lt R_20.out; omega); have NE_Y_Q := Aside0.mk (show w.heap.size + 1 + 1 + 1 ≠ w_17.heap.size by have := blk_lt Y_21.out; omega); have NE_N_Q := Aside0.mk (show w2.heap.size ≠ w_17.heap.size by have := blk_lt N_22.out; omega); have U_24 := Aside0.mk (blk_alloc U_18.out (.cells #[.int .i64 0, .bool false, .int .u64 0] 35)); have O_25 := Aside0.mk (blk_alloc O_19.out (.cells #[.int .i64 0, .bool false, .int .u64 0] 35)); have R_26 := Aside0.mk (blk_alloc R_20.out (.cells #[.int .i64 0, .bool false, .int .u64 0] 35)); have Y_27 := Aside0.mk (blk_alloc Y_21.out (.cells #[.int .i64 0, .bool false, .int .u64 0] 35)); have N_28 := Aside0.mk (blk_alloc N_22.out (.cells #[.int .i64 0, .bool false, .int .u64 0] 35)); have Q_29 := Aside0.mk (blk_new (w_17) (.cells #[.int .i64 0, .bool false, .int .u64 0] 35)); have B30 := Aside0.mk (below_alloc B23.out (.cells #[.int .i64 0, .bool false, .int .u64 0] 35)); clear U_18 O_19 R_20 Y_21 N_22 B23)
    | (refine store_whole (w := w) (B := w.heap.size) rfl rfl 35 (.tmp 10) (.tmp 19) rfl (g := w_17.heap.size) (cs := #[.int .i64 0, .bool false, .int .u64 0]) rfl _ rfl rfl (by kernel_rfl) (by simp [Value.oneCell']) Q_29.out (rfl) L_Q.out B30.out ?_; intro w_31 h1 h2 h3 h4; have U_32 := Aside0.mk ((h3 _ NE_U_Q.out).trans U_24.out); have O_33 := Aside0.mk ((h3 _ NE_O_Q.out).trans O_25.out); have R_34 := Aside0.mk ((h3 _ NE_R_Q.out).trans R_26.out); have Y_35 := Aside0.mk ((h3 _ NE_Y_Q.out).trans Y_27.out); have N_36 := Aside0.mk ((h3 _ NE_N_Q.out).trans N_28.out); have Q_37 := Aside0.mk (h1); have B38 := Aside0.mk (h2); clear h1 h2 h3 h4 U_24 O_25 R_26 Y_27 N_28 Q_29 B30; have o0 : w_31.cell? ⟨w.heap.size + 1, 0, none⟩ = some (.int .i64 5) := (blk_cell O_33.out 0).trans rfl; have o1 : w_31.cell? ⟨w.heap.size + 1, 1, none⟩ = some (.int .u64 k) := (blk_cell O_33.out 1).trans rfl; have o2 : w_31.cell? ⟨w.heap.size + 1, 2, none⟩ = some (.int .u64 v) := (blk_cell O_33.out 2).trans rfl; have q0 : w_31.cell? ⟨w_17.heap.size, 0, none⟩ = some (.int .i64 0) := (blk_cell Q_37.out 0).trans rfl; have p0 := blk_frozen Q_37.out 0; have q1 : w_31.cell? ⟨w_17.heap.size, 1, none⟩ = some (.bool false) := (blk_cell Q_37.out 1).trans rfl; have p1 := blk_frozen Q_37.out 1; have q2 : w_31.cell? ⟨w_17.heap.size, 2, none⟩ = some (.int .u64 0) := (blk_cell Q_37.out 2).trans rfl; have p2 := blk_frozen Q_37.out 2; have U_39 := Aside0.mk (blk_far (blk_far (U_32.out) (p := ⟨w_17.heap.size, 1, none⟩) NE_U_Q.out (.bool true)) (p := ⟨w_17.heap.size, 2, none⟩) NE_U_Q.out (.int .u64 g)); have O_40 := Aside0.mk (blk_far (blk_far (O_33.out) (p := ⟨w_17.heap.size, 1, none⟩) NE_O_Q.out (.bool true)) (p := ⟨w_17.heap.size, 2, none⟩) NE_O_Q.out (.int .u64 g)); have R_41 := Aside0.mk (blk_far (blk_far (R_34.out) (p := ⟨w_17.heap.size, 1, none⟩) NE_R_Q.out (.bool true)) (p := ⟨w_17.heap.size, 2, none⟩) NE_R_Q.out (.int .u64 g)); have Y_42 := Aside0.mk (blk_far (blk_far (Y_35.out) (p := ⟨w_17.heap.size, 1, none⟩) NE_Y_Q.out (.bool true)) (p := ⟨w_17.heap.size, 2, none⟩) NE_Y_Q.out (.int .u64 g)); have N_43 := Aside0.mk (blk_far (blk_far (N_36.out) (p := ⟨w_17.heap.size, 1, none⟩) NE_N_Q.out (.bool true)) (p := ⟨w_17.heap.size, 2, none⟩) NE_N_Q.out (.int .u64 g)); have Q_44 := Aside0.mk (blk_put (blk_set (Q_37.out) 1 (.bool true)) 2 (.int .u64 g) (cs' := #[.int .i64 0, .bool true, .int .u64 g]) rfl); have B45 := Aside0.mk (below_set (below_set (B38.out) (g := w_17.heap.size) (j := 1) (v := .bool true) L_Q.out) (g := w_17.heap.size) (j := 2) (v := .int .u64 g) L_Q.out); clear U_32 O_33 R_34 Y_35 N_36 Q_37 B38; have s0 : ((w_31.setCell ⟨w_17.heap.size, 1, none⟩ (.bool true)).setCell ⟨w_17.heap.size, 2, none⟩ (.int .u64 g)).cell? ⟨w.heap.size + 1, 0, none⟩ = some (.int .i64 5) := (blk_cell O_40.out 0).trans rfl; have s1 : ((w_31.setCell ⟨w_17.heap.size, 1, none⟩ (.bool true)).setCell ⟨w_17.heap.size, 2, none⟩ (.int .u64 g)).cell? ⟨w.heap.size + 1, 1, none⟩ = some (.int .u64 k) := (blk_cell O_40.out 1).trans rfl; have s2 : ((w_31.setCell ⟨w_17.heap.size, 1, none⟩ (.bool true)).setCell ⟨w_17.heap.size, 2, none⟩ (.int .u64 g)).cell? ⟨w.heap.size + 1, 2, none⟩ = some (.int .u64 v) := (blk_cell O_40.out 2).trans rfl)
    | (refine wpList_load_row_g (by rfl) 32 (.tmp 2) rfl (w.heap.size) rfl 32 (#[.slice A u.length c]) (0, 0) _ U_39.out Try.underlying32 rfl (by kernel_rfl) ?_))
  have BQ := Aside0.mk (B45.out)
  refine (revenantref21_State_With.calls K2 A c u k v u2 _ (Kd.C_below HC.out B45.out) HCC.out HW.out).mono ?_
  rintro e_ w5 ⟨v0, rfl, hR, hb⟩
  have U_46 := Aside0.mk (blk_below U_39.out hb)
  have O_47 := Aside0.mk (blk_below O_40.out hb)
  have R_48 := Aside0.mk (blk_below R_41.out hb)
  have Y_49 := Aside0.mk (blk_below Y_42.out hb)
  have N_50 := Aside0.mk (blk_below N_43.out hb)
  have Q_51 := Aside0.mk (blk_below Q_44.out hb)
  obtain ⟨A2, c2, rfl, hc2, -⟩ := Kd.R_reads hR
  have HC2 := Aside0.mk hc2
  have X_950 := Aside0.mk (Kd.R_lower hR BQ.out.size)
  clear hR hc2
  have B52 := Aside0.mk (below_step B45.out hb)
  clear hb U_39 O_40 R_41 Y_42 N_43 Q_44 B45
  go_wp2_with (first
    | (refine store_whole (w := w) (B := w.heap.size) rfl rfl 32 (.tmp 9) (.tmp 76) rfl (g := w2.heap.size) (cs := #[.slice A2 u2.length c2]) rfl _ rfl rfl (by kernel_rfl) (by simp [Value.oneCell']) N_50.out (rfl) L_N.out B52.out ?_; intro w_53 h1 h2 h3 h4; have X_54 := Aside0.mk (row_far X_950.out N_50.out (by decide) h3); have U_55 := Aside0.mk ((h3 _ NE_U_N.out).trans U_46.out); have O_56 := Aside0.mk ((h3 _ NE_O_N.out).trans O_47.out); have R_57 := Aside0.mk ((h3 _ NE_R_N.out).trans R_48.out); have Y_58 := Aside0.mk ((h3 _ NE_Y_N.out).trans Y_49.out); have N_59 := Aside0.mk (h1); have Q_60 := Aside0.mk ((h3 _ (Ne.symm NE_N_Q.out)).trans Q_51.out); have B61 := Aside0.mk (h2); clear h1 h2 h3 h4 X_950 U_46 O_47 R_48 Y_49 N_50 Q_51 B52; have n0 : w_53.cell? ⟨w2.heap.size, 0, none⟩ = some (.slice A2 u2.length c2) := (blk_cell N_59.out 0).trans rfl)
    | (refine store_whole (w := w) (B := w.heap.size) rfl rfl 32 (.tmp 4) (.tmp 100) rfl (g := w.heap.size + 1 + 1) (cs := #[.slice none 0 0]) rfl _ rfl rfl (by kernel_rfl) (by simp [Value.oneCell']) R_57.out (rfl) L_R.out B61.out ?_; intro w_62 h1 h2 h3 h4; have X_63 := Aside0.mk (row_far X_54.out R_57.out (by decide) h3); have U_64 := Aside0.mk ((h3 _ NE_U_R.out).trans U_55.out); have O_65 := Aside0.mk ((h3 _ NE_O_R.out).trans O_56.out); have R_66 := Aside0.mk (h1); have Y_67 := Aside0.mk ((h3 _ (Ne.symm NE_R_Y.out)).trans Y_58.out); have N_68 := Aside0.mk ((h3 _ (Ne.symm NE_R_N.out)).trans N_59.out); have Q_69 := Aside0.mk ((h3 _ (Ne.symm NE_R_Q.out)).trans Q_60.out); have B70 := Aside0.mk (h2); clear h1 h2 h3 h4 X_54 U_55 O_56 R_57 Y_58 N_59 Q_60 B61)
    | (refine store_whole (w := w) (B := w.heap.size) rfl rfl 35 (.tmp 5) (.tmp 101) rfl (g := w.heap.size + 1 + 1 + 1) (cs := #[.int .i64 0, .bool false, .int .u64 0]) rfl _ rfl rfl (by kernel_rfl) (by simp [Value.oneCell']) Y_67.out (rfl) L_Y.out B70.out ?_; intro w_71 h1 h2 h3 h4; have X_72 := Aside0.mk (row_far X_63.out Y_67.out (by decide) h3); have U_73 := Aside0.mk ((h3 _ NE_U_Y.out).trans U_64.out); have O_74 := Aside0.mk ((h3 _ NE_O_Y.out).trans O_65.out); have R_75 := Aside0.mk ((h3 _ NE_R_Y.out).trans R_66.out); have Y_76 := Aside0.mk (h1); have N_77 := Aside0.mk ((h3 _ (Ne.symm NE_Y_N.out)).trans N_68.out); have Q_78 := Aside0.mk ((h3 _ (Ne.symm NE_Y_Q.out)).trans Q_69.out); have B79 := Aside0.mk (h2); clear h1 h2 h3 h4 X_63 U_64 O_65 R_66 Y_67 N_68 Q_69 B70))
  exact bodyPost_ret (results_cell3 (P := Try.prog) rfl _ _ (w.heap.size + 1 + 1) (w.heap.size + 1 + 1 + 1) 32 35 #[.slice none 0 0] #[.int .i64 0, .bool false, .int .u64 0] (0, 0) (0, 0) _ _ rfl R_75.out Try.underlying32 rfl (by kernel_rfl) rfl Y_76.out Try.underlying35 rfl (by kernel_rfl) rfl) rfl ⟨rfl, B79.out⟩
set_option maxHeartbeats 8000000 in
set_option maxRecDepth 100000 in
theorem rdo4x_T (u u2 : List S57) (A : Option Addr) (c : Nat) (k v z g : Int) (b : Bool) (K K2 : Nat) (w : World) (hC : Kd.C k57 w A u.length u) (hc : u.length ≤ c) (hG : revenantref21_State_Get.f K u k = some (g, b)) (hW : revenantref21_State_With.f K2 u k v = some u2) (hl : 16 < u2.length) :
    Calls Try.prog 10 #[.agg #[.slice A u.length c], .agg #[.int .i64 4, .int .u64 k, .int .u64 v, .int .i64 z]] w fun e w' => e = .returned (.tuple #[.agg #[.slice none 0 0], .agg #[.int .i64 0, .bool false, .int .u64 0], .int .i64 6]) ∧ Below w.heap.size w w' := by
  have hu32 := Try.underlying32
  have hu39 := Try.underlying39
  have hu35 := Try.underlying35
  have HC := Aside0.mk hC
  have HCC := Aside0.mk hc
  have HG := Aside0.mk hG
  have HW := Aside0.mk hW
  have t1 : decide ((16 : Int) < (u2.length : Int)) = true := decide_eq_true (by omega)
  have t2 := eq_true (show  (16 : Int) < (u2.length : Int) by omega)
  clear hC hc hG hW hl
  have L_U := Aside0.mk (show w.heap.size ≤ w.heap.size from Nat.le_refl _)
  have L_O := Aside0.mk (show w.heap.size ≤ w.heap.size + 1 from by have := L_U.out; omega)
  have NE_U_O := Aside0.mk (show w.heap.size ≠ w.heap.size + 1 by omega)
  have L_R := Aside0.mk (show w.heap.size ≤ w.heap.size + 1 + 1 from by have := L_U.out; omega)
  have NE_U_R := Aside0.mk (show w.heap.size ≠ w.heap.size + 1 + 1 by omega)
  have NE_O_R := Aside0.mk (show w.heap.size + 1 ≠ w.heap.size + 1 + 1 by omega)
  have L_Y := Aside0.mk (show w.heap.size ≤ w.heap.size + 1 + 1 + 1 from by have := L_U.out; omega)
  have NE_U_Y := Aside0.mk (show w.heap.size ≠ w.heap.size + 1 + 1 + 1 by omega)
  have NE_O_Y := Aside0.mk (show w.heap.size + 1 ≠ w.heap.size + 1 + 1 + 1 by omega)
  have NE_R_Y := Aside0.mk (show w.heap.size + 1 + 1 ≠ w.heap.size + 1 + 1 + 1 by omega)
  have U_1 := Aside0.mk (blk_alloc (blk_alloc (blk_alloc (blk_new (w) (.cells (#[.slice A u.length c]) 32)) (.cells (#[.int .i64 4, .int .u64 k, .int .u64 v, .int .i64 z]) 39)) (.cells #[.slice none 0 0] 32)) (.cells #[.int .i64 0, .bool false, .int .u64 0] 35))
  have O_2 := Aside0.mk (blk_alloc (blk_alloc (blk_new2 (w) (.cells (#[.slice A u.length c]) 32) (.cells (#[.int .i64 4, .int .u64 k, .int .u64 v, .int .i64 z]) 39)) (.cells #[.slice none 0 0] 32)) (.cells #[.int .i64 0, .bool false, .int .u64 0] 35))
  have R_3 := Aside0.mk (blk_alloc (blk_new3 (w) (.cells (#[.slice A u.length c]) 32) (.cells (#[.int .i64 4, .int .u64 k, .int .u64 v, .int .i64 z]) 39) (.cells #[.slice none 0 0] 32)) (.cells #[.int .i64 0, .bool false, .int .u64 0] 35))
  have Y_4 := Aside0.mk (blk_new4 (w) (.cells (#[.slice A u.length c]) 32) (.cells (#[.int .i64 4, .int .u64 k, .int .u64 v, .int .i64 z]) 39) (.cells #[.slice none 0 0] 32) (.cells #[.int .i64 0, .bool false, .int .u64 0] 35))
  have B5 := Aside0.mk (below_alloc (below_alloc (below_alloc (below_alloc (Below.refl w.heap.size w) (.cells (#[.slice A u.length c]) 32)) (.cells (#[.int .i64 4, .int .u64 k, .int .u64 v, .int .i64 z]) 39)) (.cells #[.slice none 0 0] 32)) (.cells #[.int .i64 0, .bool false, .int .u64 0] 35))
  go_enter Try.func10, Try.ntmps10
  go_wp2_with (first
    | (refine wpList_load_row_g (by rfl) 32 (.tmp 2) rfl (w.heap.size) rfl 32 (#[.slice A u.length c]) (0, 0) _ U_1.out Try.underlying32 rfl (by kernel_rfl) ?_))
  refine (revenantref21_State_Get.calls K A c u k g b _ (Kd.C_below HC.out B5.out) HCC.out HG.out).mono ?_
  rintro e_ w2 ⟨rfl, hb⟩
  have U_6 := Aside0.mk (blk_below U_1.out hb)
  have O_7 := Aside0.mk (blk_below O_2.out hb)
  have R_8 := Aside0.mk (blk_below R_3.out hb)
  have Y_9 := Aside0.mk (blk_below Y_4.out hb)
  have B10 := Aside0.mk (below_step B5.out hb)
  clear hb U_1 O_2 R_3 Y_4 B5
  have UL := Aside0.mk (U_6.out)
  have L_N := Aside0.mk (show w.heap.size ≤ w2.heap.size from B10.out.size)
  have NE_U_N := Aside0.mk (show w.heap.size ≠ w2.heap.size by have := blk_lt U_6.out; omega)
  have NE_O_N := Aside0.mk (show w.heap.size + 1 ≠ w2.heap.size by have := blk_lt O_7.out; omega)
  have NE_R_N := Aside0.mk (show w.heap.size + 1 + 1 ≠ w2.heap.size by have := blk_lt R_8.out; omega)
  have NE_Y_N := Aside0.mk (show w.heap.size + 1 + 1 + 1 ≠ w2.heap.size by have := blk_lt Y_9.out; omega)
  have U_11 := Aside0.mk (blk_alloc U_6.out (.cells #[.slice none 0 0] 32))
  have O_12 := Aside0.mk (blk_alloc O_7.out (.cells #[.slice none 0 0] 32))
  have R_13 := Aside0.mk (blk_alloc R_8.out (.cells #[.slice none 0 0] 32))
  have Y_14 := Aside0.mk (blk_alloc Y_9.out (.cells #[.slice none 0 0] 32))
  have N_15 := Aside0.mk (blk_new (w2) (.cells #[.slice none 0 0] 32))
  have B16 := Aside0.mk (below_alloc B10.out (.cells #[.slice none 0 0] 32))
  clear U_6 O_7 R_8 Y_9 B10
  go_wp2_with (first
    | (refine wpList_load_row_g (by rfl) 32 (.tmp 2) rfl (w.heap.size) rfl 32 (#[.slice A u.length c]) (0, 0) _ UL.out Try.underlying32 rfl (by kernel_rfl) ?_)
    | (refine store_whole (w := w) (B := w.heap.size) rfl rfl 32 (.tmp 9) (.tmp 18) rfl (g := w2.heap.size) (cs := #[.slice A u.length c]) rfl _ rfl rfl (by kernel_rfl) (by simp [Value.oneCell']) N_15.out (rfl) L_N.out B16.out ?_; intro w_17 h1 h2 h3 h4; have U_18 := Aside0.mk ((h3 _ NE_U_N.out).trans U_11.out); have O_19 := Aside0.mk ((h3 _ NE_O_N.out).trans O_12.out); have R_20 := Aside0.mk ((h3 _ NE_R_N.out).trans R_13.out); have Y_21 := Aside0.mk ((h3 _ NE_Y_N.out).trans Y_14.out); have N_22 := Aside0.mk (h1); have B23 := Aside0.mk (h2); clear h1 h2 h3 h4 U_11 O_12 R_13 Y_14 N_15 B16; have L_Q := Aside0.mk (show w.heap.size ≤ w_17.heap.size from B23.out.size); have NE_U_Q := Aside0.mk (show w.heap.size ≠ w_17.heap.size by have := blk_lt U_18.out; omega); have NE_O_Q := Aside0.mk (show w.heap.size + 1 ≠ w_17.heap.size by have := blk_lt O_19.out; omega); have NE_R_Q := Aside0.mk (show w.heap.size + 1 + 1 ≠ w_17.heap.size by have := blk_lt R_20.out; omega); have NE_Y_Q := Aside0.mk (show w.heap.size + 1 + 1 + 1 ≠ w_17.heap.size by have := blk_lt Y_21.out; omega); have NE_N_Q := Aside0.mk (show w2.heap.size ≠ w_17.heap.size by have := blk_lt N_22.out; omega); have U_24 := Aside0.mk (blk_alloc U_18.out (.cells #[.int .i64 0, .bool false, .int .u64 0] 35)); have O_25 := Aside0.mk (blk_alloc O_19.out (.cells #[.int .i64 0, .bool false, .int .u64 0] 35)); have R_26 := Aside0.mk (blk_alloc R_20.out (.cells #[.int .i64 0, .bool false, .int .u64 0] 35)); have Y_27 := Aside0.mk (blk_alloc Y_21.out (.cells #[.int .i64 0, .bool false, .int .u64 0] 35)); have N_28 := Aside0.mk (blk_alloc N_22.out (.cells #[.int .i64 0, .bool false, .int .u64 0] 35)); have Q_29 := Aside0.mk (blk_new (w_17) (.cells #[.int .i64 0, .bool false, .int .u64 0] 35)); have B30 := Aside0.mk (below_alloc B23.out (.cells #[.int .i64 0, .bool false, .int .u64 0] 35)); clear U_18 O_19 R_20 Y_21 N_22 B23)
    | (refine store_whole (w := w) (B := w.heap.size) rfl rfl 35 (.tmp 10) (.tmp 19) rfl (g := w_17.heap.size) (cs := #[.int .i64 0, .bool false, .int .u64 0]) rfl _ rfl rfl (by kernel_rfl) (by simp [Value.oneCell']) Q_29.out (rfl) L_Q.out B30.out ?_; intro w_31 h1 h2 h3 h4; have U_32 := Aside0.mk ((h3 _ NE_U_Q.out).trans U_24.out); have O_33 := Aside0.mk ((h3 _ NE_O_Q.out).trans O_25.out); have R_34 := Aside0.mk ((h3 _ NE_R_Q.out).trans R_26.out); have Y_35 := Aside0.mk ((h3 _ NE_Y_Q.out).trans Y_27.out); have N_36 := Aside0.mk ((h3 _ NE_N_Q.out).trans N_28.out); have Q_37 := Aside0.mk (h1); have B38 := Aside0.mk (h2); clear h1 h2 h3 h4 U_24 O_25 R_26 Y_27 N_28 Q_29 B30; have o0 : w_31.cell? ⟨w.heap.size + 1, 0, none⟩ = some (.int .i64 4) := (blk_cell O_33.out 0).trans rfl; have o1 : w_31.cell? ⟨w.heap.size + 1, 1, none⟩ = some (.int .u64 k) := (blk_cell O_33.out 1).trans rfl; have o2 : w_31.cell? ⟨w.heap.size + 1, 2, none⟩ = some (.int .u64 v) := (blk_cell O_33.out 2).trans rfl; have q0 : w_31.cell? ⟨w_17.heap.size, 0, none⟩ = some (.int .i64 0) := (blk_cell Q_37.out 0).trans rfl; have p0 := blk_frozen Q_37.out 0; have q1 : w_31.cell? ⟨w_17.heap.size, 1, none⟩ = some (.bool false) := (blk_cell Q_37.out 1).trans rfl; have p1 := blk_frozen Q_37.out 1; have q2 : w_31.cell? ⟨w_17.heap.size, 2, none⟩ = some (.int .u64 0) := (blk_cell Q_37.out 2).trans rfl; have p2 := blk_frozen Q_37.out 2; have U_39 := Aside0.mk (blk_far (blk_far (U_32.out) (p := ⟨w_17.heap.size, 1, none⟩) NE_U_Q.out (.bool b)) (p := ⟨w_17.heap.size, 2, none⟩) NE_U_Q.out (.int .u64 g)); have O_40 := Aside0.mk (blk_far (blk_far (O_33.out) (p := ⟨w_17.heap.size, 1, none⟩) NE_O_Q.out (.bool b)) (p := ⟨w_17.heap.size, 2, none⟩) NE_O_Q.out (.int .u64 g)); have R_41 := Aside0.mk (blk_far (blk_far (R_34.out) (p := ⟨w_17.heap.size, 1, none⟩) NE_R_Q.out (.bool b)) (p := ⟨w_17.heap.size, 2, none⟩) NE_R_Q.out (.int .u64 g)); have Y_42 := Aside0.mk (blk_far (blk_far (Y_35.out) (p := ⟨w_17.heap.size, 1, none⟩) NE_Y_Q.out (.bool b)) (p := ⟨w_17.heap.size, 2, none⟩) NE_Y_Q.out (.int .u64 g)); have N_43 := Aside0.mk (blk_far (blk_far (N_36.out) (p := ⟨w_17.heap.size, 1, none⟩) NE_N_Q.out (.bool b)) (p := ⟨w_17.heap.size, 2, none⟩) NE_N_Q.out (.int .u64 g)); have Q_44 := Aside0.mk (blk_put (blk_set (Q_37.out) 1 (.bool b)) 2 (.int .u64 g) (cs' := #[.int .i64 0, .bool b, .int .u64 g]) rfl); have B45 := Aside0.mk (below_set (below_set (B38.out) (g := w_17.heap.size) (j := 1) (v := .bool b) L_Q.out) (g := w_17.heap.size) (j := 2) (v := .int .u64 g) L_Q.out); clear U_32 O_33 R_34 Y_35 N_36 Q_37 B38; have s0 : ((w_31.setCell ⟨w_17.heap.size, 1, none⟩ (.bool b)).setCell ⟨w_17.heap.size, 2, none⟩ (.int .u64 g)).cell? ⟨w.heap.size + 1, 0, none⟩ = some (.int .i64 4) := (blk_cell O_40.out 0).trans rfl; have s1 : ((w_31.setCell ⟨w_17.heap.size, 1, none⟩ (.bool b)).setCell ⟨w_17.heap.size, 2, none⟩ (.int .u64 g)).cell? ⟨w.heap.size + 1, 1, none⟩ = some (.int .u64 k) := (blk_cell O_40.out 1).trans rfl; have s2 : ((w_31.setCell ⟨w_17.heap.size, 1, none⟩ (.bool b)).setCell ⟨w_17.heap.size, 2, none⟩ (.int .u64 g)).cell? ⟨w.heap.size + 1, 2, none⟩ = some (.int .u64 v) := (blk_cell O_40.out 2).trans rfl)
    | (refine wpList_load_row_g (by rfl) 32 (.tmp 2) rfl (w.heap.size) rfl 32 (#[.slice A u.length c]) (0, 0) _ U_39.out Try.underlying32 rfl (by kernel_rfl) ?_))
  have BQ := Aside0.mk (B45.out)
  refine (revenantref21_State_With.calls K2 A c u k v u2 _ (Kd.C_below HC.out B45.out) HCC.out HW.out).mono ?_
  rintro e_ w5 ⟨v0, rfl, hR, hb⟩
  have U_46 := Aside0.mk (blk_below U_39.out hb)
  have O_47 := Aside0.mk (blk_below O_40.out hb)
  have R_48 := Aside0.mk (blk_below R_41.out hb)
  have Y_49 := Aside0.mk (blk_below Y_42.out hb)
  have N_50 := Aside0.mk (blk_below N_43.out hb)
  have Q_51 := Aside0.mk (blk_below Q_44.out hb)
  obtain ⟨A2, c2, rfl, hc2, -⟩ := Kd.R_reads hR
  have HC2 := Aside0.mk hc2
  have X_950 := Aside0.mk (Kd.R_lower hR BQ.out.size)
  clear hR hc2
  have B52 := Aside0.mk (below_step B45.out hb)
  clear hb U_39 O_40 R_41 Y_42 N_43 Q_44 B45
  go_wp2_with (first
    | (refine store_whole (w := w) (B := w.heap.size) rfl rfl 32 (.tmp 9) (.tmp 60) rfl (g := w2.heap.size) (cs := #[.slice A2 u2.length c2]) rfl _ rfl rfl (by kernel_rfl) (by simp [Value.oneCell']) N_50.out (rfl) L_N.out B52.out ?_; intro w_53 h1 h2 h3 h4; have X_54 := Aside0.mk (row_far X_950.out N_50.out (by decide) h3); have U_55 := Aside0.mk ((h3 _ NE_U_N.out).trans U_46.out); have O_56 := Aside0.mk ((h3 _ NE_O_N.out).trans O_47.out); have R_57 := Aside0.mk ((h3 _ NE_R_N.out).trans R_48.out); have Y_58 := Aside0.mk ((h3 _ NE_Y_N.out).trans Y_49.out); have N_59 := Aside0.mk (h1); have Q_60 := Aside0.mk ((h3 _ (Ne.symm NE_N_Q.out)).trans Q_51.out); have B61 := Aside0.mk (h2); clear h1 h2 h3 h4 X_950 U_46 O_47 R_48 Y_49 N_50 Q_51 B52; have n0 : w_53.cell? ⟨w2.heap.size, 0, none⟩ = some (.slice A2 u2.length c2) := (blk_cell N_59.out 0).trans rfl)
    | (refine store_whole (w := w) (B := w.heap.size) rfl rfl 32 (.tmp 4) (.tmp 100) rfl (g := w.heap.size + 1 + 1) (cs := #[.slice none 0 0]) rfl _ rfl rfl (by kernel_rfl) (by simp [Value.oneCell']) R_57.out (rfl) L_R.out B61.out ?_; intro w_62 h1 h2 h3 h4; have X_63 := Aside0.mk (row_far X_54.out R_57.out (by decide) h3); have U_64 := Aside0.mk ((h3 _ NE_U_R.out).trans U_55.out); have O_65 := Aside0.mk ((h3 _ NE_O_R.out).trans O_56.out); have R_66 := Aside0.mk (h1); have Y_67 := Aside0.mk ((h3 _ (Ne.symm NE_R_Y.out)).trans Y_58.out); have N_68 := Aside0.mk ((h3 _ (Ne.symm NE_R_N.out)).trans N_59.out); have Q_69 := Aside0.mk ((h3 _ (Ne.symm NE_R_Q.out)).trans Q_60.out); have B70 := Aside0.mk (h2); clear h1 h2 h3 h4 X_54 U_55 O_56 R_57 Y_58 N_59 Q_60 B61)
    | (refine store_whole (w := w) (B := w.heap.size) rfl rfl 35 (.tmp 5) (.tmp 101) rfl (g := w.heap.size + 1 + 1 + 1) (cs := #[.int .i64 0, .bool false, .int .u64 0]) rfl _ rfl rfl (by kernel_rfl) (by simp [Value.oneCell']) Y_67.out (rfl) L_Y.out B70.out ?_; intro w_71 h1 h2 h3 h4; have X_72 := Aside0.mk (row_far X_63.out Y_67.out (by decide) h3); have U_73 := Aside0.mk ((h3 _ NE_U_Y.out).trans U_64.out); have O_74 := Aside0.mk ((h3 _ NE_O_Y.out).trans O_65.out); have R_75 := Aside0.mk ((h3 _ NE_R_Y.out).trans R_66.out); have Y_76 := Aside0.mk (h1); have N_77 := Aside0.mk ((h3 _ (Ne.symm NE_Y_N.out)).trans N_68.out); have Q_78 := Aside0.mk ((h3 _ (Ne.symm NE_Y_Q.out)).trans Q_69.out); have B79 := Aside0.mk (h2); clear h1 h2 h3 h4 X_63 U_64 O_65 R_66 Y_67 N_68 Q_69 B70))
  exact bodyPost_ret (results_cell3 (P := Try.prog) rfl _ _ (w.heap.size + 1 + 1) (w.heap.size + 1 + 1 + 1) 32 35 #[.slice none 0 0] #[.int .i64 0, .bool false, .int .u64 0] (0, 0) (0, 0) _ _ rfl R_75.out Try.underlying32 rfl (by kernel_rfl) rfl Y_76.out Try.underlying35 rfl (by kernel_rfl) rfl) rfl ⟨rfl, B79.out⟩
end Go.Proofs.Ytcphmelmieedfab.PSpecExact

