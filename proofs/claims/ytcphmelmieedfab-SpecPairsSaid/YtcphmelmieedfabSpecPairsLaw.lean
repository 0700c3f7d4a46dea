/-
The law SpecPairs.
-/
import Derived.Test.YtcphmelmieedfabSpecL
namespace Go.Proofs.Ytcphmelmieedfab.PSpecExact
open Go Go.RowKit Go.Proofs.YtcphmelmieedfabW.PrintWords Go.Proofs.YtcphmelmieedfabW.PrintLast Go.Proofs.YtcphmelmieedfabW.PrintMore
attribute [local go_sem] max2_int min2_int max_two min_two max_three min_three max_four min_four
set_option linter.unusedVariables false
set_option linter.unusedSimpArgs false
set_option maxHeartbeats 16000000 in
set_option maxRecDepth 100000 in
theorem pairs_long (A : Option Addr) (c : Nat) (l : List S26) (pk pv : Int) (w : World) (hC : Kd.C k26 w A l.length l) (hcc : l.length ≤ c) (hg : 40 < l.length) :
    Calls Try.prog 7 #[.slice A l.length c, .agg #[.int .u64 pk, .int .u64 pv]] w fun e w' => e = .returned (.bool true) ∧ Below w.heap.size w w' := by
  have hu26 := Try.underlying26
  have hu29 := Try.underlying29
  have hu32 := Try.underlying32
  have HC := Aside0.mk hC
  have HCC := Aside0.mk hcc
  have HG := Aside0.mk hg
  clear hC hcc hg
  have L_P := Aside0.mk (show w.heap.size ≤ w.heap.size from Nat.le_refl _)
  have P_1 := Aside0.mk (blk_new (w) (.cells (#[.int .u64 pk, .int .u64 pv]) 26))
  have B2 := Aside0.mk (below_alloc (Below.refl w.heap.size w) (.cells (#[.int .u64 pk, .int .u64 pv]) 26))
  go_enter Try.func7, Try.ntmps7
  go_wp2_with fail
  refine (awake_T _).mono ?_
  rintro e_ w2 ⟨rfl, hb⟩
  have P_3 := Aside0.mk (blk_below P_1.out hb)
  have B4 := Aside0.mk (below_step B2.out hb)
  clear hb P_1 B2
  have t1 : decide ((40 : Int) < (l.length : Int)) = true := decide_eq_true (by have := HG.out; omega)
  have t2 := eq_true (show (40 : Int) < (l.length : Int) by have := HG.out; omega)
  go_wp2_with fail
  go_ret
  exact ⟨rfl, B4.out⟩
set_option maxHeartbeats 16000000 in
set_option maxRecDepth 100000 in
theorem pairs_dup (A : Option Addr) (c : Nat) (l : List S26) (pk pv : Int) (w : World) (hC : Kd.C k26 w A l.length l) (hcc : l.length ≤ c) (hg : l.length ≤ 40) (ht : (stl l).2 = true) (hnw : newV l = ([], 1)) :
    Calls Try.prog 7 #[.slice A l.length c, .agg #[.int .u64 pk, .int .u64 pv]] w fun e w' => e = .returned (.bool true) ∧ Below w.heap.size w w' := by
  have hu26 := Try.underlying26
  have hu29 := Try.underlying29
  have hu32 := Try.underlying32
  have HC := Aside0.mk hC
  have HCC := Aside0.mk hcc
  have HG := Aside0.mk hg
  clear hC hcc hg
  have Xht := Aside0.mk ht
  clear ht
  have Xhnw := Aside0.mk hnw
  clear hnw
  have L_P := Aside0.mk (show w.heap.size ≤ w.heap.size from Nat.le_refl _)
  have P_1 := Aside0.mk (blk_new (w) (.cells (#[.int .u64 pk, .int .u64 pv]) 26))
  have B2 := Aside0.mk (below_alloc (Below.refl w.heap.size w) (.cells (#[.int .u64 pk, .int .u64 pv]) 26))
  go_enter Try.func7, Try.ntmps7
  go_wp2_with fail
  refine (awake_T _).mono ?_
  rintro e_ w2 ⟨rfl, hb⟩
  have P_3 := Aside0.mk (blk_below P_1.out hb)
  have B4 := Aside0.mk (below_step B2.out hb)
  clear hb P_1 B2
  have t1 : decide ((40 : Int) < (l.length : Int)) = false := decide_eq_false (by have := HG.out; omega)
  have t2 := eq_false (show ¬ (40 : Int) < (l.length : Int) by have := HG.out; omega)
  have L_U := Aside0.mk (show w.heap.size ≤ w2.heap.size from B4.out.size)
  have NE_P_U := Aside0.mk (show w.heap.size ≠ w2.heap.size by have := blk_lt P_3.out; omega)
  have P_5 := Aside0.mk (blk_alloc P_3.out (.cells #[.slice none 0 0] 32))
  have U_6 := Aside0.mk (blk_new (w2) (.cells #[.slice none 0 0] 32))
  have B7 := Aside0.mk (below_alloc B4.out (.cells #[.slice none 0 0] 32))
  clear P_3 B4
  go_wp2_with (first
    | (refine store_whole (w := w) (B := w.heap.size) rfl rfl 32 (.tmp 5) (.tmp 20) rfl (g := w2.heap.size) (cs := #[.slice none 0 0]) rfl _ rfl rfl (by kernel_rfl) (by simp [Value.oneCell']) U_6.out (rfl) L_U.out B7.out ?_; intro w_8 h1 h2 h3 h4; have P_9 := Aside0.mk ((h3 _ NE_P_U.out).trans P_5.out); have U_10 := Aside0.mk (h1); have B11 := Aside0.mk (h2); clear h1 h2 h3 h4 P_5 U_6 B7))
  have R_12 := Aside0.mk (Kd.R_nil k57 57 w_8 w.heap.size (fun _ => True))
  go_loopg [6, 7] l.length (fun kq v6 v7 w' => ∃ (i : Int) (tw : Bool) (u : List S57) (A1 : Option Addr) (c1 : Nat), v6 = .bool tw ∧ v7 = .int .i64 i ∧ Aside0 (0 ≤ i ∧ i + kq = l.length) ∧ Aside0 (stl (l.take i.toNat) = (u, tw)) ∧ Aside0 (u.length ≤ i.toNat ∧ u.length ≤ c1) ∧ Aside0 (Below w.heap.size w w') ∧ Aside0 (w'.heap[w.heap.size]? = some (.cells #[.int .u64 pk, .int .u64 pv] 26 (0, 0))) ∧ Aside0 (w'.heap[w2.heap.size]? = some (.cells #[.slice A1 u.length c1] 32 (0, 0))) ∧ Aside0 (Kd.R k57 57 w' w.heap.size (fun _ => True) (.slice A1 u.length c1) u))
  case atStart => exact ⟨0, false, [], none, 0, rfl, rfl, ⟨by omega⟩, ⟨rfl⟩, ⟨Nat.le_refl _, Nat.le_refl _⟩, ⟨B11.out⟩, ⟨P_9.out⟩, ⟨U_10.out⟩, ⟨R_12.out⟩⟩
  case round =>
    obtain ⟨i, tw, u, A1, c1, rfl, rfl, HK, HT, HL, B900, P_900, U_900, R_900⟩ := hrel
    clear B11 P_9 U_10 R_12
    by_cases hi : i < (l.length : Int)
    · have d1 : decide (i < (l.length : Int)) = true := decide_eq_true hi
      have p0 : (0 : Int) ≤ i := HK.out.1
      have q0 : i < (l.length : Int) := hi
      have q1 := Aside0.mk (show 0 ≤ i ∧ i < (l.length : Int) from ⟨p0, hi⟩)
      obtain ⟨ko, rfl⟩ : ∃ m, gk = m + 1 := ⟨gk - 1, by have := HK.out; omega⟩
      obtain ⟨ad, e0, hx0, hx1⟩ := k26_cells HC.out i p0 hi
      subst e0
      have HTT := Aside0.mk (stl_take l i.toNat (by omega))
      rw [HT.out] at HTT
      generalize l.getD i.toNat ⟨0, 0⟩ = p at hx0 hx1 HTT
      obtain ⟨y, z⟩ := p
      have X0 := Aside0.mk (show w.cell? (ad.add (i.toNat * 2)) = some (.int .u64 y) from hx0)
      have X1 := Aside0.mk (show w.cell? ⟨(ad.add (i.toNat * 2)).block, (ad.add (i.toNat * 2)).off + 1, none⟩ = some (.int .u64 z) from hx1)
      clear hx0 hx1 hi
      obtain ⟨gv, is_, hgu⟩ : ∃ g b, getU u y = (g, b) := ⟨_, _, rfl⟩
      obtain ⟨KG, hKG⟩ := get_some u y (by have := HL.out; have := HG.out; have := q1.out; omega)
      rw [hgu] at hKG
      have HKG := Aside0.mk hKG
      obtain ⟨KW, hKW⟩ := with_some u y z (by have := HL.out; have := HG.out; have := q1.out; omega)
      have hfl := flt_len u y
      have HTU : Aside0 (st (u, tw) ⟨y, z⟩ = (flt u y ++ [(⟨y, z⟩ : S57)], tw || is_)) := ⟨by unfold st; rw [hgu]; rfl⟩
      have HFL : Aside0 ((flt u y ++ [(⟨y, z⟩ : S57)]).length ≤ u.length + 1) := ⟨by simp; omega⟩
      generalize flt u y ++ [(⟨y, z⟩ : S57)] = u2 at hKW HTU HFL
      have HKW := Aside0.mk hKW
      clear hKW hKG hgu hfl
      have p0b : decide (0 ≤ i) = true := decide_eq_true p0
      have wi : wrap64 (i + 1) = i + 1 := by have := q1.out; have := HG.out; unfold wrap64; omega
      replace p0 := eq_true p0
      replace q0 := eq_true q0
      go_wp2_with fail
      refine start_ (n := 12) (S := fun w' => w'.heap[w2.heap.size]? = some (.cells (#[.slice A1 u.length c1]) 32 (0, 0)) ∧ w'.cell? (ad.add (i.toNat * 2)) = some (.int .u64 y)) (ds := []) #[false, false, false, false, false, false, false, false, false, false, false, false] (by kernel_rfl) rfl rfl ⟨blk_drew U_900.out, ((below_drew B900.out).cell (World.block_lt_of_cell? w _ X0.out)).trans X0.out⟩ (fun hHeld => ?_)
      refine pure_ (i := 1) (N := some 29) (v := ?_) (a' := ?_) #[false, true, false, false, false, false, false, false, false, false, false, false] rfl rfl (by kernel_rfl) (fun _ _ _ h => h) (Or.inl ⟨by rfl, ?_⟩) ?_ ?_
      rotate_left
      · intro w'
        go_simp
        with_reducible rfl
      rotate_left
      · simp only [Act.put, List.setIfInBounds_toArray, List.set_cons_zero, List.set_cons_succ, i64_w, i32_w]
        rfl
      refine pure_ (i := 2) (N := some 30) (v := ?_) (a' := ?_) #[false, true, true, false, false, false, false, false, false, false, false, false] rfl rfl (by kernel_rfl) (fun _ _ _ h => h) (Or.inl ⟨by rfl, ?_⟩) ?_ ?_
      rotate_left
      · intro w'
        go_simp
        with_reducible rfl
      rotate_left
      · simp only [Act.put, List.setIfInBounds_toArray, List.set_cons_zero, List.set_cons_succ, i64_w, i32_w]
        rfl
      refine pure_ (i := 3) (N := some 31) (v := ?_) (a' := ?_) #[false, true, true, true, false, false, false, false, false, false, false, false] rfl rfl (by kernel_rfl) (fun _ _ _ h => h) (Or.inl ⟨by rfl, ?_⟩) ?_ ?_
      rotate_left
      · intro w'
        go_simp
        with_reducible rfl
      rotate_left
      · simp only [Act.put, List.setIfInBounds_toArray, List.set_cons_zero, List.set_cons_succ, i64_w, i32_w]
        rfl
      refine pure_ (i := 4) (N := some 32) (v := ?_) (a' := ?_) #[false, true, true, true, true, false, false, false, false, false, false, false] rfl rfl (by kernel_rfl) (fun _ _ _ h => h) (Or.inl ⟨by rfl, ?_⟩) ?_ ?_
      rotate_left
      · intro w'
        go_simp
        with_reducible rfl
      rotate_left
      · simp only [Act.put, List.setIfInBounds_toArray, List.set_cons_zero, List.set_cons_succ, i64_w, i32_w]
        rfl
      refine take_ (i := 0) (N := some 28) (v := ?_) (a' := ?_) #[true, true, true, true, true, false, false, false, false, false, false, false] rfl rfl (by kernel_rfl) (fun _ _ _ h => h) (Or.inl ⟨by rfl, ?_⟩) hHeld ?_ ?_
      rotate_left
      · rintro w' ⟨s0, s1⟩
        refine exec_load_row 32 (.tmp 5) ?_ _ ?_ 32 (#[.slice A1 u.length c1]) (0, 0) _ s0 Try.underlying32 rfl (by kernel_rfl) <;> rfl
      rotate_left
      · simp only [Act.put, List.setIfInBounds_toArray, List.set_cons_zero, List.set_cons_succ, i64_w, i32_w]
        rfl
      refine take_ (i := 5) (N := some 33) (v := ?_) (a' := ?_) #[true, true, true, true, true, true, false, false, false, false, false, false] rfl rfl (by kernel_rfl) (fun _ _ _ h => h) (Or.inl ⟨by rfl, ?_⟩) hHeld ?_ ?_
      rotate_left
      · rintro w' ⟨s0, s1⟩
        go_simp
        with_reducible rfl
      rotate_left
      · simp only [Act.put, List.setIfInBounds_toArray, List.set_cons_zero, List.set_cons_succ, i64_w, i32_w]
        rfl
      refine one_ (i := 6) (N := some 34) #[true, true, true, true, true, true, true, false, false, false, false, false] rfl rfl (by kernel_rfl) (by decide) (fun K hK => ?_)
      refine goes_ Try.func12 (by kernel_rfl) rfl #[.agg #[.slice A1 u.length c1], .int .u64 y] (by rfl) rfl rfl (by simp only [List.map_toArray, List.map_cons, List.map_nil]; rfl) ?_
      with_reducible refine (revenantref21_State_Get.calls KG A1 c1 u y gv is_ _ (Kd.C_below (R_C57 R_900.out) (below_drew (Below.refl _ _))) HL.out.2 HKG.out).mono ?_
      rintro e_ w6 ⟨rfl, hb⟩
      refine ⟨_, rfl, ?_⟩
      have P_901 := Aside0.mk (blk_below (blk_drew P_900.out) hb)
      have U_902 := Aside0.mk (blk_below (blk_drew U_900.out) hb)
      have R_903 := Aside0.mk (Kd.R_below (Kd.R_drew R_900.out) hb)
      have B904 := Aside0.mk (below_step (below_drew B900.out) hb)
      clear hb P_900 U_900 R_900 B900
      refine hK.out _ _ ⟨U_902.out, (B904.out.cell (World.block_lt_of_cell? w _ X0.out)).trans X0.out⟩ (fun hHeld => ?_)
      clear hK K
      refine norm_ (a' := ?_) ?_ ?_
      rotate_left
      · show Act.put _ (some 34) _ = _
        simp only [Act.put, List.setIfInBounds_toArray, List.set_cons_zero, List.set_cons_succ, i64_w, i32_w]
        rfl
      refine pure_ (i := 7) (N := some 27) (v := ?_) (a' := ?_) #[true, true, true, true, true, true, true, true, false, false, false, false] rfl rfl (by kernel_rfl) (fun _ _ _ h => h) (Or.inl ⟨by rfl, ?_⟩) ?_ ?_
      rotate_left
      · intro w'
        go_simp
        with_reducible rfl
      rotate_left
      · simp only [Act.put, List.setIfInBounds_toArray, List.set_cons_zero, List.set_cons_succ, i64_w, i32_w]
        rfl
      refine pure_ (i := 8) (N := some 35) (v := ?_) (a' := ?_) #[true, true, true, true, true, true, true, true, true, false, false, false] rfl rfl (by kernel_rfl) (fun _ _ _ h => h) (Or.inl ⟨by rfl, ?_⟩) ?_ ?_
      rotate_left
      · intro w'
        go_simp
        with_reducible rfl
      rotate_left
      · simp only [Act.put, List.setIfInBounds_toArray, List.set_cons_zero, List.set_cons_succ, i64_w, i32_w]
        rfl
      refine pure_ (i := 9) (N := some 36) (v := ?_) (a' := ?_) #[true, true, true, true, true, true, true, true, true, true, false, false] rfl rfl (by kernel_rfl) (fun _ _ _ h => h) (Or.inl ⟨by rfl, ?_⟩) ?_ ?_
      rotate_left
      · intro w'
        go_simp
        with_reducible rfl
      rotate_left
      · simp only [Act.put, List.setIfInBounds_toArray, List.set_cons_zero, List.set_cons_succ, i64_w, i32_w]
        rfl
      refine pure_ (i := 10) (N := some 8) (v := ?_) (a' := ?_) #[true, true, true, true, true, true, true, true, true, true, true, false] rfl rfl (by kernel_rfl) (fun _ _ _ h => h) (Or.inl ⟨by rfl, ?_⟩) ?_ ?_
      rotate_left
      · intro w'
        go_simp
        with_reducible rfl
      rotate_left
      · simp only [Act.put, List.setIfInBounds_toArray, List.set_cons_zero, List.set_cons_succ, i64_w, i32_w]
        rfl
      refine pure_ (i := 11) (N := some 9) (v := ?_) (a' := ?_) #[true, true, true, true, true, true, true, true, true, true, true, true] rfl rfl (by kernel_rfl) (fun _ _ _ h => h) (Or.inl ⟨by rfl, ?_⟩) ?_ ?_
      rotate_left
      · intro w'
        go_simp
        with_reducible rfl
      rotate_left
      · simp only [Act.put, List.setIfInBounds_toArray, List.set_cons_zero, List.set_cons_succ, i64_w, i32_w]
        rfl
      refine done_ (by kernel_rfl) ?_
      cases tw
      · go_wp2_with fail
        refine start_ (n := 14) (S := fun w' => w'.heap[w2.heap.size]? = some (.cells (#[.slice A1 u.length c1]) 32 (0, 0)) ∧ w'.cell? (ad.add (i.toNat * 2)) = some (.int .u64 y) ∧ w'.cell? ⟨(ad.add (i.toNat * 2)).block, (ad.add (i.toNat * 2)).off + 1, none⟩ = some (.int .u64 z)) (ds := [13]) #[false, false, false, false, false, false, false, false, false, false, false, false, false, false] (by kernel_rfl) rfl rfl ⟨blk_drew U_902.out, ((below_drew B904.out).cell (World.block_lt_of_cell? w _ X0.out)).trans X0.out, ((below_drew B904.out).cell (World.block_lt_of_cell? w _ X1.out)).trans X1.out⟩ (fun hHeld => ?_)
        refine pure_ (i := 1) (N := some 42) (v := ?_) (a' := ?_) #[false, true, false, false, false, false, false, false, false, false, false, false, false, false] rfl rfl (by kernel_rfl) (fun _ _ _ h => h) (Or.inl ⟨by rfl, ?_⟩) ?_ ?_
        rotate_left
        · intro w'
          go_simp
          with_reducible rfl
        rotate_left
        · simp only [Act.put, List.setIfInBounds_toArray, List.set_cons_zero, List.set_cons_succ, i64_w, i32_w]
          rfl
        refine pure_ (i := 2) (N := some 43) (v := ?_) (a' := ?_) #[false, true, true, false, false, false, false, false, false, false, false, false, false, false] rfl rfl (by kernel_rfl) (fun _ _ _ h => h) (Or.inl ⟨by rfl, ?_⟩) ?_ ?_
        rotate_left
        · intro w'
          go_simp
          with_reducible rfl
        rotate_left
        · simp only [Act.put, List.setIfInBounds_toArray, List.set_cons_zero, List.set_cons_succ, i64_w, i32_w]
          rfl
        refine pure_ (i := 3) (N := some 44) (v := ?_) (a' := ?_) #[false, true, true, true, false, false, false, false, false, false, false, false, false, false] rfl rfl (by kernel_rfl) (fun _ _ _ h => h) (Or.inl ⟨by rfl, ?_⟩) ?_ ?_
        rotate_left
        · intro w'
          go_simp
          with_reducible rfl
        rotate_left
        · simp only [Act.put, List.setIfInBounds_toArray, List.set_cons_zero, List.set_cons_succ, i64_w, i32_w]
          rfl
        refine pure_ (i := 4) (N := some 45) (v := ?_) (a' := ?_) #[false, true, true, true, true, false, false, false, false, false, false, false, false, false] rfl rfl (by kernel_rfl) (fun _ _ _ h => h) (Or.inl ⟨by rfl, ?_⟩) ?_ ?_
        rotate_left
        · intro w'
          go_simp
          with_reducible rfl
        rotate_left
        · simp only [Act.put, List.setIfInBounds_toArray, List.set_cons_zero, List.set_cons_succ, i64_w, i32_w]
          rfl
        refine pure_ (i := 6) (N := some 47) (v := ?_) (a' := ?_) #[false, true, true, true, true, false, true, false, false, false, false, false, false, false] rfl rfl (by kernel_rfl) (fun _ _ _ h => h) (Or.inl ⟨by rfl, ?_⟩) ?_ ?_
        rotate_left
        · intro w'
          go_simp
          with_reducible rfl
        rotate_left
        · simp only [Act.put, List.setIfInBounds_toArray, List.set_cons_zero, List.set_cons_succ, i64_w, i32_w]
          rfl
        refine pure_ (i := 7) (N := some 48) (v := ?_) (a' := ?_) #[false, true, true, true, true, false, true, true, false, false, false, false, false, false] rfl rfl (by kernel_rfl) (fun _ _ _ h => h) (Or.inl ⟨by rfl, ?_⟩) ?_ ?_
        rotate_left
        · intro w'
          go_simp
          with_reducible rfl
        rotate_left
        · simp only [Act.put, List.setIfInBounds_toArray, List.set_cons_zero, List.set_cons_succ, i64_w, i32_w]
          rfl
        refine pure_ (i := 8) (N := some 49) (v := ?_) (a' := ?_) #[false, true, true, true, true, false, true, true, true, false, false, false, false, false] rfl rfl (by kernel_rfl) (fun _ _ _ h => h) (Or.inl ⟨by rfl, ?_⟩) ?_ ?_
        rotate_left
        · intro w'
          go_simp
          with_reducible rfl
        rotate_left
        · simp only [Act.put, List.setIfInBounds_toArray, List.set_cons_zero, List.set_cons_succ, i64_w, i32_w]
          rfl
        refine pure_ (i := 9) (N := some 50) (v := ?_) (a' := ?_) #[false, true, true, true, true, false, true, true, true, true, false, false, false, false] rfl rfl (by kernel_rfl) (fun _ _ _ h => h) (Or.inl ⟨by rfl, ?_⟩) ?_ ?_
        rotate_left
        · intro w'
          go_simp
          with_reducible rfl
        rotate_left
        · simp only [Act.put, List.setIfInBounds_toArray, List.set_cons_zero, List.set_cons_succ, i64_w, i32_w]
          rfl
        refine take_ (i := 0) (N := some 41) (v := ?_) (a' := ?_) #[true, true, true, true, true, false, true, true, true, true, false, false, false, false] rfl rfl (by kernel_rfl) (fun _ _ _ h => h) (Or.inl ⟨by rfl, ?_⟩) hHeld ?_ ?_
        rotate_left
        · rintro w' ⟨s0, s1, s2⟩
          refine exec_load_row 32 (.tmp 5) ?_ _ ?_ 32 (#[.slice A1 u.length c1]) (0, 0) _ s0 Try.underlying32 rfl (by kernel_rfl) <;> rfl
        rotate_left
        · simp only [Act.put, List.setIfInBounds_toArray, List.set_cons_zero, List.set_cons_succ, i64_w, i32_w]
          rfl
        refine take_ (i := 5) (N := some 46) (v := ?_) (a' := ?_) #[true, true, true, true, true, true, true, true, true, true, false, false, false, false] rfl rfl (by kernel_rfl) (fun _ _ _ h => h) (Or.inl ⟨by rfl, ?_⟩) hHeld ?_ ?_
        rotate_left
        · rintro w' ⟨s0, s1, s2⟩
          go_simp
          with_reducible rfl
        rotate_left
        · simp only [Act.put, List.setIfInBounds_toArray, List.set_cons_zero, List.set_cons_succ, i64_w, i32_w]
          rfl
        refine take_ (i := 10) (N := some 51) (v := ?_) (a' := ?_) #[true, true, true, true, true, true, true, true, true, true, true, false, false, false] rfl rfl (by kernel_rfl) (fun _ _ _ h => h) (Or.inl ⟨by rfl, ?_⟩) hHeld ?_ ?_
        rotate_left
        · rintro w' ⟨s0, s1, s2⟩
          go_simp
          with_reducible rfl
        rotate_left
        · simp only [Act.put, List.setIfInBounds_toArray, List.set_cons_zero, List.set_cons_succ, i64_w, i32_w]
          rfl
        refine pure_ (i := 11) (N := some 52) (v := ?_) (a' := ?_) #[true, true, true, true, true, true, true, true, true, true, true, true, false, false] rfl rfl (by kernel_rfl) (fun _ _ _ h => h) (Or.inl ⟨by rfl, ?_⟩) ?_ ?_
        rotate_left
        · intro w'
          go_simp
          with_reducible rfl
        rotate_left
        · simp only [Act.put, List.setIfInBounds_toArray, List.set_cons_zero, List.set_cons_succ, i64_w, i32_w]
          rfl
        refine one_ (i := 12) (N := some 53) #[true, true, true, true, true, true, true, true, true, true, true, true, true, false] rfl rfl (by kernel_rfl) (by decide) (fun K hK => ?_)
        refine goes_ Try.func17 (by kernel_rfl) rfl #[.agg #[.slice A1 u.length c1], .agg #[.int .u64 y, .int .u64 z]] (by rfl) rfl rfl (by simp only [List.map_toArray, List.map_cons, List.map_nil]; rfl) ?_
        with_reducible refine (revenantref21_State_With.calls KW A1 c1 u y z u2 _ (Kd.C_below (R_C57 R_903.out) (below_drew (Below.refl _ _))) HL.out.2 HKW.out).mono ?_
        rintro e_ w7 ⟨v0, rfl, hR, hb⟩
        obtain ⟨A2, c2, rfl, hc2, -⟩ := Kd.R_reads hR
        refine ⟨_, rfl, ?_⟩
        have P_905 := Aside0.mk (blk_below (blk_drew P_901.out) hb)
        have U_906 := Aside0.mk (blk_below (blk_drew U_902.out) hb)
        have HC2 := Aside0.mk hc2
        have R2_950 := Aside0.mk (Kd.R_lower hR ((below_drew B904.out)).size)
        clear hR hc2
        have B907 := Aside0.mk (below_step (below_drew B904.out) hb)
        clear hb P_901 U_902 B904
        refine hK.out _ _ ⟨U_906.out, (B907.out.cell (World.block_lt_of_cell? w _ X0.out)).trans X0.out, (B907.out.cell (World.block_lt_of_cell? w _ X1.out)).trans X1.out⟩ (fun hHeld => ?_)
        clear hK K
        refine norm_ (a' := ?_) ?_ ?_
        rotate_left
        · show Act.put _ (some 53) _ = _
          simp only [Act.put, List.setIfInBounds_toArray, List.set_cons_zero, List.set_cons_succ, i64_w, i32_w]
          rfl
        refine last_ (i := 13) (N := none) #[true, true, true, true, true, true, true, true, true, true, true, true, true, true] rfl rfl (by kernel_rfl) (by decide) (fun K hK => ?_)
        refine skip_whole (w := w) (B := w.heap.size) 32 (.tmp 5) (.tmp 53) (by rfl) rfl rfl (g := w2.heap.size) (cs := #[.slice A2 u2.length c2]) ?_ (.agg (#[.slice A2 u2.length c2])) ?_ rfl (by kernel_rfl) (by simp [Value.oneCell']) (U_906.out) (rfl) L_U.out (B907.out) ?_
        · rfl
        · rfl
        intro w8 h1 h2 h3 h4
        have R2_908 := Aside0.mk (row_far R2_950.out U_906.out (by decide) h3)
        have P_909 := Aside0.mk ((h3 _ NE_P_U.out).trans P_905.out)
        have U_910 := Aside0.mk (h1)
        have B911 := Aside0.mk (h2)
        clear h1 h2 h3 h4 R2_950 P_905 U_906 B907
        refine hK.out _ _ ?_
        clear hK K
        refine done_ (by kernel_rfl) ?_
        go_wp2_with fail
        go_roundg ko
        case rel => exact ⟨i + 1, is_, u2, A2, c2, by first | rfl | (simp; done), by first | rfl | rw [wi], ⟨by have := HK.out; have := q1.out; omega⟩, ⟨by rw [show (i + 1).toNat = i.toNat + 1 by have := q1.out; omega, HTT.out, HTU.out]; simp⟩, ⟨⟨by have := HFL.out; have := HL.out; have := q1.out; omega, HC2.out⟩⟩, ⟨B911.out⟩, ⟨P_909.out⟩, ⟨U_910.out⟩, ⟨R2_908.out⟩⟩
        case measure => exact Nat.lt_succ_self _
      · go_wp2_with fail
        refine start_ (n := 14) (S := fun w' => w'.heap[w2.heap.size]? = some (.cells (#[.slice A1 u.length c1]) 32 (0, 0)) ∧ w'.cell? (ad.add (i.toNat * 2)) = some (.int .u64 y) ∧ w'.cell? ⟨(ad.add (i.toNat * 2)).block, (ad.add (i.toNat * 2)).off + 1, none⟩ = some (.int .u64 z)) (ds := [13]) #[false, false, false, false, false, false, false, false, false, false, false, false, false, false] (by kernel_rfl) rfl rfl ⟨blk_drew U_902.out, ((below_drew B904.out).cell (World.block_lt_of_cell? w _ X0.out)).trans X0.out, ((below_drew B904.out).cell (World.block_lt_of_cell? w _ X1.out)).trans X1.out⟩ (fun hHeld => ?_)
        refine pure_ (i := 1) (N := some 42) (v := ?_) (a' := ?_) #[false, true, false, false, false, false, false, false, false, false, false, false, false, false] rfl rfl (by kernel_rfl) (fun _ _ _ h => h) (Or.inl ⟨by rfl, ?_⟩) ?_ ?_
        rotate_left
        · intro w'
          go_simp
          with_reducible rfl
        rotate_left
        · simp only [Act.put, List.setIfInBounds_toArray, List.set_cons_zero, List.set_cons_succ, i64_w, i32_w]
          rfl
        refine pure_ (i := 2) (N := some 43) (v := ?_) (a' := ?_) #[false, true, true, false, false, false, false, false, false, false, false, false, false, false] rfl rfl (by kernel_rfl) (fun _ _ _ h => h) (Or.inl ⟨by rfl, ?_⟩) ?_ ?_
        rotate_left
        · intro w'
          go_simp
          with_reducible rfl
        rotate_left
        · simp only [Act.put, List.setIfInBounds_toArray, List.set_cons_zero, List.set_cons_succ, i64_w, i32_w]
          rfl
        refine pure_ (i := 3) (N := some 44) (v := ?_) (a' := ?_) #[false, true, true, true, false, false, false, false, false, false, false, false, false, false] rfl rfl (by kernel_rfl) (fun _ _ _ h => h) (Or.inl ⟨by rfl, ?_⟩) ?_ ?_
        rotate_left
        · intro w'
          go_simp
          with_reducible rfl
        rotate_left
        · simp only [Act.put, List.setIfInBounds_toArray, List.set_cons_zero, List.set_cons_succ, i64_w, i32_w]
          rfl
        refine pure_ (i := 4) (N := some 45) (v := ?_) (a' := ?_) #[false, true, true, true, true, false, false, false, false, false, false, false, false, false] rfl rfl (by kernel_rfl) (fun _ _ _ h => h) (Or.inl ⟨by rfl, ?_⟩) ?_ ?_
        rotate_left
        · intro w'
          go_simp
          with_reducible rfl
        rotate_left
        · simp only [Act.put, List.setIfInBounds_toArray, List.set_cons_zero, List.set_cons_succ, i64_w, i32_w]
          rfl
        refine pure_ (i := 6) (N := some 47) (v := ?_) (a' := ?_) #[false, true, true, true, true, false, true, false, false, false, false, false, false, false] rfl rfl (by kernel_rfl) (fun _ _ _ h => h) (Or.inl ⟨by rfl, ?_⟩) ?_ ?_
        rotate_left
        · intro w'
          go_simp
          with_reducible rfl
        rotate_left
        · simp only [Act.put, List.setIfInBounds_toArray, List.set_cons_zero, List.set_cons_succ, i64_w, i32_w]
          rfl
        refine pure_ (i := 7) (N := some 48) (v := ?_) (a' := ?_) #[false, true, true, true, true, false, true, true, false, false, false, false, false, false] rfl rfl (by kernel_rfl) (fun _ _ _ h => h) (Or.inl ⟨by rfl, ?_⟩) ?_ ?_
        rotate_left
        · intro w'
          go_simp
          with_reducible rfl
        rotate_left
        · simp only [Act.put, List.setIfInBounds_toArray, List.set_cons_zero, List.set_cons_succ, i64_w, i32_w]
          rfl
        refine pure_ (i := 8) (N := some 49) (v := ?_) (a' := ?_) #[false, true, true, true, true, false, true, true, true, false, false, false, false, false] rfl rfl (by kernel_rfl) (fun _ _ _ h => h) (Or.inl ⟨by rfl, ?_⟩) ?_ ?_
        rotate_left
        · intro w'
          go_simp
          with_reducible rfl
        rotate_left
        · simp only [Act.put, List.setIfInBounds_toArray, List.set_cons_zero, List.set_cons_succ, i64_w, i32_w]
          rfl
        refine pure_ (i := 9) (N := some 50) (v := ?_) (a' := ?_) #[false, true, true, true, true, false, true, true, true, true, false, false, false, false] rfl rfl (by kernel_rfl) (fun _ _ _ h => h) (Or.inl ⟨by rfl, ?_⟩) ?_ ?_
        rotate_left
        · intro w'
          go_simp
          with_reducible rfl
        rotate_left
        · simp only [Act.put, List.setIfInBounds_toArray, List.set_cons_zero, List.set_cons_succ, i64_w, i32_w]
          rfl
        refine take_ (i := 0) (N := some 41) (v := ?_) (a' := ?_) #[true, true, true, true, true, false, true, true, true, true, false, false, false, false] rfl rfl (by kernel_rfl) (fun _ _ _ h => h) (Or.inl ⟨by rfl, ?_⟩) hHeld ?_ ?_
        rotate_left
        · rintro w' ⟨s0, s1, s2⟩
          refine exec_load_row 32 (.tmp 5) ?_ _ ?_ 32 (#[.slice A1 u.length c1]) (0, 0) _ s0 Try.underlying32 rfl (by kernel_rfl) <;> rfl
        rotate_left
        · simp only [Act.put, List.setIfInBounds_toArray, List.set_cons_zero, List.set_cons_succ, i64_w, i32_w]
          rfl
        refine take_ (i := 5) (N := some 46) (v := ?_) (a' := ?_) #[true, true, true, true, true, true, true, true, true, true, false, false, false, false] rfl rfl (by kernel_rfl) (fun _ _ _ h => h) (Or.inl ⟨by rfl, ?_⟩) hHeld ?_ ?_
        rotate_left
        · rintro w' ⟨s0, s1, s2⟩
          go_simp
          with_reducible rfl
        rotate_left
        · simp only [Act.put, List.setIfInBounds_toArray, List.set_cons_zero, List.set_cons_succ, i64_w, i32_w]
          rfl
        refine take_ (i := 10) (N := some 51) (v := ?_) (a' := ?_) #[true, true, true, true, true, true, true, true, true, true, true, false, false, false] rfl rfl (by kernel_rfl) (fun _ _ _ h => h) (Or.inl ⟨by rfl, ?_⟩) hHeld ?_ ?_
        rotate_left
        · rintro w' ⟨s0, s1, s2⟩
          go_simp
          with_reducible rfl
        rotate_left
        · simp only [Act.put, List.setIfInBounds_toArray, List.set_cons_zero, List.set_cons_succ, i64_w, i32_w]
          rfl
        refine pure_ (i := 11) (N := some 52) (v := ?_) (a' := ?_) #[true, true, true, true, true, true, true, true, true, true, true, true, false, false] rfl rfl (by kernel_rfl) (fun _ _ _ h => h) (Or.inl ⟨by rfl, ?_⟩) ?_ ?_
        rotate_left
        · intro w'
          go_simp
          with_reducible rfl
        rotate_left
        · simp only [Act.put, List.setIfInBounds_toArray, List.set_cons_zero, List.set_cons_succ, i64_w, i32_w]
          rfl
        refine one_ (i := 12) (N := some 53) #[true, true, true, true, true, true, true, true, true, true, true, true, true, false] rfl rfl (by kernel_rfl) (by decide) (fun K hK => ?_)
        refine goes_ Try.func17 (by kernel_rfl) rfl #[.agg #[.slice A1 u.length c1], .agg #[.int .u64 y, .int .u64 z]] (by rfl) rfl rfl (by simp only [List.map_toArray, List.map_cons, List.map_nil]; rfl) ?_
        with_reducible refine (revenantref21_State_With.calls KW A1 c1 u y z u2 _ (Kd.C_below (R_C57 R_903.out) (below_drew (Below.refl _ _))) HL.out.2 HKW.out).mono ?_
        rintro e_ w7 ⟨v0, rfl, hR, hb⟩
        obtain ⟨A2, c2, rfl, hc2, -⟩ := Kd.R_reads hR
        refine ⟨_, rfl, ?_⟩
        have P_905 := Aside0.mk (blk_below (blk_drew P_901.out) hb)
        have U_906 := Aside0.mk (blk_below (blk_drew U_902.out) hb)
        have HC2 := Aside0.mk hc2
        have R2_950 := Aside0.mk (Kd.R_lower hR ((below_drew B904.out)).size)
        clear hR hc2
        have B907 := Aside0.mk (below_step (below_drew B904.out) hb)
        clear hb P_901 U_902 B904
        refine hK.out _ _ ⟨U_906.out, (B907.out.cell (World.block_lt_of_cell? w _ X0.out)).trans X0.out, (B907.out.cell (World.block_lt_of_cell? w _ X1.out)).trans X1.out⟩ (fun hHeld => ?_)
        clear hK K
        refine norm_ (a' := ?_) ?_ ?_
        rotate_left
        · show Act.put _ (some 53) _ = _
          simp only [Act.put, List.setIfInBounds_toArray, List.set_cons_zero, List.set_cons_succ, i64_w, i32_w]
          rfl
        refine last_ (i := 13) (N := none) #[true, true, true, true, true, true, true, true, true, true, true, true, true, true] rfl rfl (by kernel_rfl) (by decide) (fun K hK => ?_)
        refine skip_whole (w := w) (B := w.heap.size) 32 (.tmp 5) (.tmp 53) (by rfl) rfl rfl (g := w2.heap.size) (cs := #[.slice A2 u2.length c2]) ?_ (.agg (#[.slice A2 u2.length c2])) ?_ rfl (by kernel_rfl) (by simp [Value.oneCell']) (U_906.out) (rfl) L_U.out (B907.out) ?_
        · rfl
        · rfl
        intro w8 h1 h2 h3 h4
        have R2_908 := Aside0.mk (row_far R2_950.out U_906.out (by decide) h3)
        have P_909 := Aside0.mk ((h3 _ NE_P_U.out).trans P_905.out)
        have U_910 := Aside0.mk (h1)
        have B911 := Aside0.mk (h2)
        clear h1 h2 h3 h4 R2_950 P_905 U_906 B907
        refine hK.out _ _ ?_
        clear hK K
        refine done_ (by kernel_rfl) ?_
        go_wp2_with fail
        go_roundg ko
        case rel => exact ⟨i + 1, true, u2, A2, c2, by first | rfl | (simp; done), by first | rfl | rw [wi], ⟨by have := HK.out; have := q1.out; omega⟩, ⟨by rw [show (i + 1).toNat = i.toNat + 1 by have := q1.out; omega, HTT.out, HTU.out]; simp⟩, ⟨⟨by have := HFL.out; have := HL.out; have := q1.out; omega, HC2.out⟩⟩, ⟨B911.out⟩, ⟨P_909.out⟩, ⟨U_910.out⟩, ⟨R2_908.out⟩⟩
        case measure => exact Nat.lt_succ_self _
    · have d1 : decide (i < (l.length : Int)) = false := decide_eq_false hi
      obtain rfl : i = (l.length : Int) := by have := HK.out; omega
      rw [show ((l.length : Int)).toNat = l.length by omega] at HT HL
      rw [List.take_length] at HT
      clear hi HK
      go_wp2_with fail
      refine (new_T A c l _ (Kd.C_below HC.out B900.out) HCC.out (by have := HG.out; omega)).mono ?_
      rintro e_ w10 ⟨rfl, -, hb⟩
      rw [Xhnw.out]
      have P_901 := Aside0.mk (blk_below P_900.out hb)
      have U_902 := Aside0.mk (blk_below U_900.out hb)
      have R_903 := Aside0.mk (Kd.R_below R_900.out hb)
      have B904 := Aside0.mk (below_step B900.out hb)
      clear hb P_900 U_900 R_900 B900
      have L_S := Aside0.mk (show w.heap.size ≤ w10.heap.size from B904.out.size)
      have NE_P_S := Aside0.mk (show w.heap.size ≠ w10.heap.size by have := blk_lt P_901.out; omega)
      have NE_U_S := Aside0.mk (show w2.heap.size ≠ w10.heap.size by have := blk_lt U_902.out; omega)
      have P_905 := Aside0.mk (blk_alloc P_901.out (.cells #[.int .i64 0, .int .u64 0, .int .u64 0, .int .u64 0, .int .u64 0, .int .u64 0, .int .u64 0, .int .u64 0, .int .u64 0, .int .u64 0, .int .u64 0, .int .u64 0, .int .u64 0, .int .u64 0, .int .u64 0, .int .u64 0, .int .u64 0, .int .u64 0, .int .u64 0, .int .u64 0, .int .u64 0, .int .u64 0, .int .u64 0, .int .u64 0, .int .u64 0, .int .u64 0, .int .u64 0, .int .u64 0, .int .u64 0, .int .u64 0, .int .u64 0, .int .u64 0, .int .u64 0] 29))
      have U_906 := Aside0.mk (blk_alloc U_902.out (.cells #[.int .i64 0, .int .u64 0, .int .u64 0, .int .u64 0, .int .u64 0, .int .u64 0, .int .u64 0, .int .u64 0, .int .u64 0, .int .u64 0, .int .u64 0, .int .u64 0, .int .u64 0, .int .u64 0, .int .u64 0, .int .u64 0, .int .u64 0, .int .u64 0, .int .u64 0, .int .u64 0, .int .u64 0, .int .u64 0, .int .u64 0, .int .u64 0, .int .u64 0, .int .u64 0, .int .u64 0, .int .u64 0, .int .u64 0, .int .u64 0, .int .u64 0, .int .u64 0, .int .u64 0] 29))
      have S_907 := Aside0.mk (blk_new (w10) (.cells #[.int .i64 0, .int .u64 0, .int .u64 0, .int .u64 0, .int .u64 0, .int .u64 0, .int .u64 0, .int .u64 0, .int .u64 0, .int .u64 0, .int .u64 0, .int .u64 0, .int .u64 0, .int .u64 0, .int .u64 0, .int .u64 0, .int .u64 0, .int .u64 0, .int .u64 0, .int .u64 0, .int .u64 0, .int .u64 0, .int .u64 0, .int .u64 0, .int .u64 0, .int .u64 0, .int .u64 0, .int .u64 0, .int .u64 0, .int .u64 0, .int .u64 0, .int .u64 0, .int .u64 0] 29))
      have B908 := Aside0.mk (below_alloc B904.out (.cells #[.int .i64 0, .int .u64 0, .int .u64 0, .int .u64 0, .int .u64 0, .int .u64 0, .int .u64 0, .int .u64 0, .int .u64 0, .int .u64 0, .int .u64 0, .int .u64 0, .int .u64 0, .int .u64 0, .int .u64 0, .int .u64 0, .int .u64 0, .int .u64 0, .int .u64 0, .int .u64 0, .int .u64 0, .int .u64 0, .int .u64 0, .int .u64 0, .int .u64 0, .int .u64 0, .int .u64 0, .int .u64 0, .int .u64 0, .int .u64 0, .int .u64 0, .int .u64 0, .int .u64 0] 29))
      clear P_901 U_902 B904
      have R_909 := Aside0.mk (Kd.R_alloc (R_903.out) (.cells #[.int .i64 0, .int .u64 0, .int .u64 0, .int .u64 0, .int .u64 0, .int .u64 0, .int .u64 0, .int .u64 0, .int .u64 0, .int .u64 0, .int .u64 0, .int .u64 0, .int .u64 0, .int .u64 0, .int .u64 0, .int .u64 0, .int .u64 0, .int .u64 0, .int .u64 0, .int .u64 0, .int .u64 0, .int .u64 0, .int .u64 0, .int .u64 0, .int .u64 0, .int .u64 0, .int .u64 0, .int .u64 0, .int .u64 0, .int .u64 0, .int .u64 0, .int .u64 0, .int .u64 0] 29))
      clear R_903
      obtain rfl : tw = true := by have := Xht.out; rw [HT.out] at this; exact this
      go_wp2_with (first
        | (refine store_whole (w := w) (B := w.heap.size) rfl rfl 29 (.tmp 10) (.tmp 57) rfl (g := w10.heap.size) (cs := SV []) rfl _ rfl rfl (stot _) (SV_one _) S_907.out (by first | (rw [SV_size]; done) | (rw [SV_size, SV_size]; done) | (rw [SV_size]; rfl)) L_S.out B908.out ?_; intro w_910 h1 h2 h3 h4; have R_911 := Aside0.mk (row_far R_909.out S_907.out (by decide) h3); have P_912 := Aside0.mk ((h3 _ NE_P_S.out).trans P_905.out); have U_913 := Aside0.mk ((h3 _ NE_U_S.out).trans U_906.out); have S_914 := Aside0.mk (h1); have B915 := Aside0.mk (h2); clear h1 h2 h3 h4 R_909 P_905 U_906 S_907 B908)
        | (refine wpList_load_row_g (by rfl) 29 (.tmp 10) rfl (w10.heap.size) rfl 29 (SV []) (0, 0) _ S_914.out Try.underlying29 rfl (info29 _) ?_)
        | (refine wpList_value_g (by rfl) (exec_eq29s (.tmp 63) (.tmp 64) rfl [] rfl rfl (by decide)) ?_))
      go_ret
      exact ⟨rfl, B915.out⟩
set_option maxHeartbeats 16000000 in
set_option maxRecDepth 100000 in
theorem pairs_full (A : Option Addr) (c : Nat) (l : List S26) (pk pv : Int) (w : World) (hC : Kd.C k26 w A l.length l) (hcc : l.length ≤ c) (hg : l.length ≤ 40) (ht : (stl l).2 = false) (hf : 16 < l.length) (hnw : newV l = ([], 6)) :
    Calls Try.prog 7 #[.slice A l.length c, .agg #[.int .u64 pk, .int .u64 pv]] w fun e w' => e = .returned (.bool true) ∧ Below w.heap.size w w' := by
  have hu26 := Try.underlying26
  have hu29 := Try.underlying29
  have hu32 := Try.underlying32
  have HC := Aside0.mk hC
  have HCC := Aside0.mk hcc
  have HG := Aside0.mk hg
  clear hC hcc hg
  have Xht := Aside0.mk ht
  clear ht
  have Xhf := Aside0.mk hf
  clear hf
  have Xhnw := Aside0.mk hnw
  clear hnw
  have L_P := Aside0.mk (show w.heap.size ≤ w.heap.size from Nat.le_refl _)
  have P_1 := Aside0.mk (blk_new (w) (.cells (#[.int .u64 pk, .int .u64 pv]) 26))
  have B2 := Aside0.mk (below_alloc (Below.refl w.heap.size w) (.cells (#[.int .u64 pk, .int .u64 pv]) 26))
  go_enter Try.func7, Try.ntmps7
  go_wp2_with fail
  refine (awake_T _).mono ?_
  rintro e_ w2 ⟨rfl, hb⟩
  have P_3 := Aside0.mk (blk_below P_1.out hb)
  have B4 := Aside0.mk (below_step B2.out hb)
  clear hb P_1 B2
  have t1 : decide ((40 : Int) < (l.length : Int)) = false := decide_eq_false (by have := HG.out; omega)
  have t2 := eq_false (show ¬ (40 : Int) < (l.length : Int) by have := HG.out; omega)
  have L_U := Aside0.mk (show w.heap.size ≤ w2.heap.size from B4.out.size)
  have NE_P_U := Aside0.mk (show w.heap.size ≠ w2.heap.size by have := blk_lt P_3.out; omega)
  have P_5 := Aside0.mk (blk_alloc P_3.out (.cells #[.slice none 0 0] 32))
  have U_6 := Aside0.mk (blk_new (w2) (.cells #[.slice none 0 0] 32))
  have B7 := Aside0.mk (below_alloc B4.out (.cells #[.slice none 0 0] 32))
  clear P_3 B4
  go_wp2_with (first
    | (refine store_whole (w := w) (B := w.heap.size) rfl rfl 32 (.tmp 5) (.tmp 20) rfl (g := w2.heap.size) (cs := #[.slice none 0 0]) rfl _ rfl rfl (by kernel_rfl) (by simp [Value.oneCell']) U_6.out (rfl) L_U.out B7.out ?_; intro w_8 h1 h2 h3 h4; have P_9 := Aside0.mk ((h3 _ NE_P_U.out).trans P_5.out); have U_10 := Aside0.mk (h1); have B11 := Aside0.mk (h2); clear h1 h2 h3 h4 P_5 U_6 B7))
  have R_12 := Aside0.mk (Kd.R_nil k57 57 w_8 w.heap.size (fun _ => True))
  go_loopg [6, 7] l.length (fun kq v6 v7 w' => ∃ (i : Int) (tw : Bool) (u : List S57) (A1 : Option Addr) (c1 : Nat), v6 = .bool tw ∧ v7 = .int .i64 i ∧ Aside0 (0 ≤ i ∧ i + kq = l.length) ∧ Aside0 (stl (l.take i.toNat) = (u, tw)) ∧ Aside0 (u.length ≤ i.toNat ∧ u.length ≤ c1) ∧ Aside0 (Below w.heap.size w w') ∧ Aside0 (w'.heap[w.heap.size]? = some (.cells #[.int .u64 pk, .int .u64 pv] 26 (0, 0))) ∧ Aside0 (w'.heap[w2.heap.size]? = some (.cells #[.slice A1 u.length c1] 32 (0, 0))) ∧ Aside0 (Kd.R k57 57 w' w.heap.size (fun _ => True) (.slice A1 u.length c1) u))
  case atStart => exact ⟨0, false, [], none, 0, rfl, rfl, ⟨by omega⟩, ⟨rfl⟩, ⟨Nat.le_refl _, Nat.le_refl _⟩, ⟨B11.out⟩, ⟨P_9.out⟩, ⟨U_10.out⟩, ⟨R_12.out⟩⟩
  case round =>
    obtain ⟨i, tw, u, A1, c1, rfl, rfl, HK, HT, HL, B900, P_900, U_900, R_900⟩ := hrel
    clear B11 P_9 U_10 R_12
    by_cases hi : i < (l.length : Int)
    · have d1 : decide (i < (l.length : Int)) = true := decide_eq_true hi
      have p0 : (0 : Int) ≤ i := HK.out.1
      have q0 : i < (l.length : Int) := hi
      have q1 := Aside0.mk (show 0 ≤ i ∧ i < (l.length : Int) from ⟨p0, hi⟩)
      obtain ⟨ko, rfl⟩ : ∃ m, gk = m + 1 := ⟨gk - 1, by have := HK.out; omega⟩
      obtain ⟨ad, e0, hx0, hx1⟩ := k26_cells HC.out i p0 hi
      subst e0
      have HTT := Aside0.mk (stl_take l i.toNat (by omega))
      rw [HT.out] at HTT
      generalize l.getD i.toNat ⟨0, 0⟩ = p at hx0 hx1 HTT
      obtain ⟨y, z⟩ := p
      have X0 := Aside0.mk (show w.cell? (ad.add (i.toNat * 2)) = some (.int .u64 y) from hx0)
      have X1 := Aside0.mk (show w.cell? ⟨(ad.add (i.toNat * 2)).block, (ad.add (i.toNat * 2)).off + 1, none⟩ = some (.int .u64 z) from hx1)
      clear hx0 hx1 hi
      obtain ⟨gv, is_, hgu⟩ : ∃ g b, getU u y = (g, b) := ⟨_, _, rfl⟩
      obtain ⟨KG, hKG⟩ := get_some u y (by have := HL.out; have := HG.out; have := q1.out; omega)
      rw [hgu] at hKG
      have HKG := Aside0.mk hKG
      obtain ⟨KW, hKW⟩ := with_some u y z (by have := HL.out; have := HG.out; have := q1.out; omega)
      have hfl := flt_len u y
      have HTU : Aside0 (st (u, tw) ⟨y, z⟩ = (flt u y ++ [(⟨y, z⟩ : S57)], tw || is_)) := ⟨by unfold st; rw [hgu]; rfl⟩
      have HFL : Aside0 ((flt u y ++ [(⟨y, z⟩ : S57)]).length ≤ u.length + 1) := ⟨by simp; omega⟩
      generalize flt u y ++ [(⟨y, z⟩ : S57)] = u2 at hKW HTU HFL
      have HKW := Aside0.mk hKW
      clear hKW hKG hgu hfl
      have p0b : decide (0 ≤ i) = true := decide_eq_true p0
      have wi : wrap64 (i + 1) = i + 1 := by have := q1.out; have := HG.out; unfold wrap64; omega
      replace p0 := eq_true p0
      replace q0 := eq_true q0
      go_wp2_with fail
      refine start_ (n := 12) (S := fun w' => w'.heap[w2.heap.size]? = some (.cells (#[.slice A1 u.length c1]) 32 (0, 0)) ∧ w'.cell? (ad.add (i.toNat * 2)) = some (.int .u64 y)) (ds := []) #[false, false, false, false, false, false, false, false, false, false, false, false] (by kernel_rfl) rfl rfl ⟨blk_drew U_900.out, ((below_drew B900.out).cell (World.block_lt_of_cell? w _ X0.out)).trans X0.out⟩ (fun hHeld => ?_)
      refine pure_ (i := 1) (N := some 29) (v := ?_) (a' := ?_) #[false, true, false, false, false, false, false, false, false, false, false, false] rfl rfl (by kernel_rfl) (fun _ _ _ h => h) (Or.inl ⟨by rfl, ?_⟩) ?_ ?_
      rotate_left
      · intro w'
        go_simp
        with_reducible rfl
      rotate_left
      · simp only [Act.put, List.setIfInBounds_toArray, List.set_cons_zero, List.set_cons_succ, i64_w, i32_w]
        rfl
      refine pure_ (i := 2) (N := some 30) (v := ?_) (a' := ?_) #[false, true, true, false, false, false, false, false, false, false, false, false] rfl rfl (by kernel_rfl) (fun _ _ _ h => h) (Or.inl ⟨by rfl, ?_⟩) ?_ ?_
      rotate_left
      · intro w'
        go_simp
        with_reducible rfl
      rotate_left
      · simp only [Act.put, List.setIfInBounds_toArray, List.set_cons_zero, List.set_cons_succ, i64_w, i32_w]
        rfl
      refine pure_ (i := 3) (N := some 31) (v := ?_) (a' := ?_) #[false, true, true, true, false, false, false, false, false, false, false, false] rfl rfl (by kernel_rfl) (fun _ _ _ h => h) (Or.inl ⟨by rfl, ?_⟩) ?_ ?_
      rotate_left
      · intro w'
        go_simp
        with_reducible rfl
      rotate_left
      · simp only [Act.put, List.setIfInBounds_toArray, List.set_cons_zero, List.set_cons_succ, i64_w, i32_w]
        rfl
      refine pure_ (i := 4) (N := some 32) (v := ?_) (a' := ?_) #[false, true, true, true, true, false, false, false, false, false, false, false] rfl rfl (by kernel_rfl) (fun _ _ _ h => h) (Or.inl ⟨by rfl, ?_⟩) ?_ ?_
      rotate_left
      · intro w'
        go_simp
        with_reducible rfl
      rotate_left
      · simp only [Act.put, List.setIfInBounds_toArray, List.set_cons_zero, List.set_cons_succ, i64_w, i32_w]
        rfl
      refine take_ (i := 0) (N := some 28) (v := ?_) (a' := ?_) #[true, true, true, true, true, false, false, false, false, false, false, false] rfl rfl (by kernel_rfl) (fun _ _ _ h => h) (Or.inl ⟨by rfl, ?_⟩) hHeld ?_ ?_
      rotate_left
      · rintro w' ⟨s0, s1⟩
        refine exec_load_row 32 (.tmp 5) ?_ _ ?_ 32 (#[.slice A1 u.length c1]) (0, 0) _ s0 Try.underlying32 rfl (by kernel_rfl) <;> rfl
      rotate_left
      · simp only [Act.put, List.setIfInBounds_toArray, List.set_cons_zero, List.set_cons_succ, i64_w, i32_w]
        rfl
      refine take_ (i := 5) (N := some 33) (v := ?_) (a' := ?_) #[true, true, true, true, true, true, false, false, false, false, false, false] rfl rfl (by kernel_rfl) (fun _ _ _ h => h) (Or.inl ⟨by rfl, ?_⟩) hHeld ?_ ?_
      rotate_left
      · rintro w' ⟨s0, s1⟩
        go_simp
        with_reducible rfl
      rotate_left
      · simp only [Act.put, List.setIfInBounds_toArray, List.set_cons_zero, List.set_cons_succ, i64_w, i32_w]
        rfl
      refine one_ (i := 6) (N := some 34) #[true, true, true, true, true, true, true, false, false, false, false, false] rfl rfl (by kernel_rfl) (by decide) (fun K hK => ?_)
      refine goes_ Try.func12 (by kernel_rfl) rfl #[.agg #[.slice A1 u.length c1], .int .u64 y] (by rfl) rfl rfl (by simp only [List.map_toArray, List.map_cons, List.map_nil]; rfl) ?_
      with_reducible refine (revenantref21_State_Get.calls KG A1 c1 u y gv is_ _ (Kd.C_below (R_C57 R_900.out) (below_drew (Below.refl _ _))) HL.out.2 HKG.out).mono ?_
      rintro e_ w6 ⟨rfl, hb⟩
      refine ⟨_, rfl, ?_⟩
      have P_901 := Aside0.mk (blk_below (blk_drew P_900.out) hb)
      have U_902 := Aside0.mk (blk_below (blk_drew U_900.out) hb)
      have R_903 := Aside0.mk (Kd.R_below (Kd.R_drew R_900.out) hb)
      have B904 := Aside0.mk (below_step (below_drew B900.out) hb)
      clear hb P_900 U_900 R_900 B900
      refine hK.out _ _ ⟨U_902.out, (B904.out.cell (World.block_lt_of_cell? w _ X0.out)).trans X0.out⟩ (fun hHeld => ?_)
      clear hK K
      refine norm_ (a' := ?_) ?_ ?_
      rotate_left
      · show Act.put _ (some 34) _ = _
        simp only [Act.put, List.setIfInBounds_toArray, List.set_cons_zero, List.set_cons_succ, i64_w, i32_w]
        rfl
      refine pure_ (i := 7) (N := some 27) (v := ?_) (a' := ?_) #[true, true, true, true, true, true, true, true, false, false, false, false] rfl rfl (by kernel_rfl) (fun _ _ _ h => h) (Or.inl ⟨by rfl, ?_⟩) ?_ ?_
      rotate_left
      · intro w'
        go_simp
        with_reducible rfl
      rotate_left
      · simp only [Act.put, List.setIfInBounds_toArray, List.set_cons_zero, List.set_cons_succ, i64_w, i32_w]
        rfl
      refine pure_ (i := 8) (N := some 35) (v := ?_) (a' := ?_) #[true, true, true, true, true, true, true, true, true, false, false, false] rfl rfl (by kernel_rfl) (fun _ _ _ h => h) (Or.inl ⟨by rfl, ?_⟩) ?_ ?_
      rotate_left
      · intro w'
        go_simp
        with_reducible rfl
      rotate_left
      · simp only [Act.put, List.setIfInBounds_toArray, List.set_cons_zero, List.set_cons_succ, i64_w, i32_w]
        rfl
      refine pure_ (i := 9) (N := some 36) (v := ?_) (a' := ?_) #[true, true, true, true, true, true, true, true, true, true, false, false] rfl rfl (by kernel_rfl) (fun _ _ _ h => h) (Or.inl ⟨by rfl, ?_⟩) ?_ ?_
      rotate_left
      · intro w'
        go_simp
        with_reducible rfl
      rotate_left
      · simp only [Act.put, List.setIfInBounds_toArray, List.set_cons_zero, List.set_cons_succ, i64_w, i32_w]
        rfl
      refine pure_ (i := 10) (N := some 8) (v := ?_) (a' := ?_) #[true, true, true, true, true, true, true, true, true, true, true, false] rfl rfl (by kernel_rfl) (fun _ _ _ h => h) (Or.inl ⟨by rfl, ?_⟩) ?_ ?_
      rotate_left
      · intro w'
        go_simp
        with_reducible rfl
      rotate_left
      · simp only [Act.put, List.setIfInBounds_toArray, List.set_cons_zero, List.set_cons_succ, i64_w, i32_w]
        rfl
      refine pure_ (i := 11) (N := some 9) (v := ?_) (a' := ?_) #[true, true, true, true, true, true, true, true, true, true, true, true] rfl rfl (by kernel_rfl) (fun _ _ _ h => h) (Or.inl ⟨by rfl, ?_⟩) ?_ ?_
      rotate_left
      · intro w'
        go_simp
        with_reducible rfl
      rotate_left
      · simp only [Act.put, List.setIfInBounds_toArray, List.set_cons_zero, List.set_cons_succ, i64_w, i32_w]
        rfl
      refine done_ (by kernel_rfl) ?_
      cases tw
      · go_wp2_with fail
        refine start_ (n := 14) (S := fun w' => w'.heap[w2.heap.size]? = some (.cells (#[.slice A1 u.length c1]) 32 (0, 0)) ∧ w'.cell? (ad.add (i.toNat * 2)) = some (.int .u64 y) ∧ w'.cell? ⟨(ad.add (i.toNat * 2)).block, (ad.add (i.toNat * 2)).off + 1, none⟩ = some (.int .u64 z)) (ds := [13]) #[false, false, false, false, false, false, false, false, false, false, false, false, false, false] (by kernel_rfl) rfl rfl ⟨blk_drew U_902.out, ((below_drew B904.out).cell (World.block_lt_of_cell? w _ X0.out)).trans X0.out, ((below_drew B904.out).cell (World.block_lt_of_cell? w _ X1.out)).trans X1.out⟩ (fun hHeld => ?_)
        refine pure_ (i := 1) (N := some 42) (v := ?_) (a' := ?_) #[false, true, false, false, false, false, false, false, false, false, false, false, false, false] rfl rfl (by kernel_rfl) (fun _ _ _ h => h) (Or.inl ⟨by rfl, ?_⟩) ?_ ?_
        rotate_left
        · intro w'
          go_simp
          with_reducible rfl
        rotate_left
        · simp only [Act.put, List.setIfInBounds_toArray, List.set_cons_zero, List.set_cons_succ, i64_w, i32_w]
          rfl
        refine pure_ (i := 2) (N := some 43) (v := ?_) (a' := ?_) #[false, true, true, false, false, false, false, false, false, false, false, false, false, false] rfl rfl (by kernel_rfl) (fun _ _ _ h => h) (Or.inl ⟨by rfl, ?_⟩) ?_ ?_
        rotate_left
        · intro w'
          go_simp
          with_reducible rfl
        rotate_left
        · simp only [Act.put, List.setIfInBounds_toArray, List.set_cons_zero, List.set_cons_succ, i64_w, i32_w]
          rfl
        refine pure_ (i := 3) (N := some 44) (v := ?_) (a' := ?_) #[false, true, true, true, false, false, false, false, false, false, false, false, false, false] rfl rfl (by kernel_rfl) (fun _ _ _ h => h) (Or.inl ⟨by rfl, ?_⟩) ?_ ?_
        rotate_left
        · intro w'
          go_simp
          with_reducible rfl
        rotate_left
        · simp only [Act.put, List.setIfInBounds_toArray, List.set_cons_zero, List.set_cons_succ, i64_w, i32_w]
          rfl
        refine pure_ (i := 4) (N := some 45) (v := ?_) (a' := ?_) #[false, true, true, true, true, false, false, false, false, false, false, false, false, false] rfl rfl (by kernel_rfl) (fun _ _ _ h => h) (Or.inl ⟨by rfl, ?_⟩) ?_ ?_
        rotate_left
        · intro w'
          go_simp
          with_reducible rfl
        rotate_left
        · simp only [Act.put, List.setIfInBounds_toArray, List.set_cons_zero, List.set_cons_succ, i64_w, i32_w]
          rfl
        refine pure_ (i := 6) (N := some 47) (v := ?_) (a' := ?_) #[false, true, true, true, true, false, true, false, false, false, false, false, false, false] rfl rfl (by kernel_rfl) (fun _ _ _ h => h) (Or.inl ⟨by rfl, ?_⟩) ?_ ?_
        rotate_left
        · intro w'
          go_simp
          with_reducible rfl
        rotate_left
        · simp only [Act.put, List.setIfInBounds_toArray, List.set_cons_zero, List.set_cons_succ, i64_w, i32_w]
          rfl
        refine pure_ (i := 7) (N := some 48) (v := ?_) (a' := ?_) #[false, true, true, true, true, false, true, true, false, false, false, false, false, false] rfl rfl (by kernel_rfl) (fun _ _ _ h => h) (Or.inl ⟨by rfl, ?_⟩) ?_ ?_
        rotate_left
        · intro w'
          go_simp
          with_reducible rfl
        rotate_left
        · simp only [Act.put, List.setIfInBounds_toArray, List.set_cons_zero, List.set_cons_succ, i64_w, i32_w]
          rfl
        refine pure_ (i := 8) (N := some 49) (v := ?_) (a' := ?_) #[false, true, true, true, true, false, true, true, true, false, false, false, false, false] rfl rfl (by kernel_rfl) (fun _ _ _ h => h) (Or.inl ⟨by rfl, ?_⟩) ?_ ?_
        rotate_left
        · intro w'
          go_simp
          with_reducible rfl
        rotate_left
        · simp only [Act.put, List.setIfInBounds_toArray, List.set_cons_zero, List.set_cons_succ, i64_w, i32_w]
          rfl
        refine pure_ (i := 9) (N := some 50) (v := ?_) (a' := ?_) #[false, true, true, true, true, false, true, true, true, true, false, false, false, false] rfl rfl (by kernel_rfl) (fun _ _ _ h => h) (Or.inl ⟨by rfl, ?_⟩) ?_ ?_
        rotate_left
        · intro w'
          go_simp
          with_reducible rfl
        rotate_left
        · simp only [Act.put, List.setIfInBounds_toArray, List.set_cons_zero, List.set_cons_succ, i64_w, i32_w]
          rfl
        refine take_ (i := 0) (N := some 41) (v := ?_) (a' := ?_) #[true, true, true, true, true, false, true, true, true, true, false, false, false, false] rfl rfl (by kernel_rfl) (fun _ _ _ h => h) (Or.inl ⟨by rfl, ?_⟩) hHeld ?_ ?_
        rotate_left
        · rintro w' ⟨s0, s1, s2⟩
          refine exec_load_row 32 (.tmp 5) ?_ _ ?_ 32 (#[.slice A1 u.length c1]) (0, 0) _ s0 Try.underlying32 rfl (by kernel_rfl) <;> rfl
        rotate_left
        · simp only [Act.put, List.setIfInBounds_toArray, List.set_cons_zero, List.set_cons_succ, i64_w, i32_w]
          rfl
        refine take_ (i := 5) (N := some 46) (v := ?_) (a' := ?_) #[true, true, true, true, true, true, true, true, true, true, false, false, false, false] rfl rfl (by kernel_rfl) (fun _ _ _ h => h) (Or.inl ⟨by rfl, ?_⟩) hHeld ?_ ?_
        rotate_left
        · rintro w' ⟨s0, s1, s2⟩
          go_simp
          with_reducible rfl
        rotate_left
        · simp only [Act.put, List.setIfInBounds_toArray, List.set_cons_zero, List.set_cons_succ, i64_w, i32_w]
          rfl
        refine take_ (i := 10) (N := some 51) (v := ?_) (a' := ?_) #[true, true, true, true, true, true, true, true, true, true, true, false, false, false] rfl rfl (by kernel_rfl) (fun _ _ _ h => h) (Or.inl ⟨by rfl, ?_⟩) hHeld ?_ ?_
        rotate_left
        · rintro w' ⟨s0, s1, s2⟩
          go_simp
          with_reducible rfl
        rotate_left
        · simp only [Act.put, List.setIfInBounds_toArray, List.set_cons_zero, List.set_cons_succ, i64_w, i32_w]
          rfl
        refine pure_ (i := 11) (N := some 52) (v := ?_) (a' := ?_) #[true, true, true, true, true, true, true, true, true, true, true, true, false, false] rfl rfl (by kernel_rfl) (fun _ _ _ h => h) (Or.inl ⟨by rfl, ?_⟩) ?_ ?_
        rotate_left
        · intro w'
          go_simp
          with_reducible rfl
        rotate_left
        · simp only [Act.put, List.setIfInBounds_toArray, List.set_cons_zero, List.set_cons_succ, i64_w, i32_w]
          rfl
        refine one_ (i := 12) (N := some 53) #[true, true, true, true, true, true, true, true, true, true, true, true, true, false] rfl rfl (by kernel_rfl) (by decide) (fun K hK => ?_)
        refine goes_ Try.func17 (by kernel_rfl) rfl #[.agg #[.slice A1 u.length c1], .agg #[.int .u64 y, .int .u64 z]] (by rfl) rfl rfl (by simp only [List.map_toArray, List.map_cons, List.map_nil]; rfl) ?_
        with_reducible refine (revenantref21_State_With.calls KW A1 c1 u y z u2 _ (Kd.C_below (R_C57 R_903.out) (below_drew (Below.refl _ _))) HL.out.2 HKW.out).mono ?_
        rintro e_ w7 ⟨v0, rfl, hR, hb⟩
        obtain ⟨A2, c2, rfl, hc2, -⟩ := Kd.R_reads hR
        refine ⟨_, rfl, ?_⟩
        have P_905 := Aside0.mk (blk_below (blk_drew P_901.out) hb)
        have U_906 := Aside0.mk (blk_below (blk_drew U_902.out) hb)
        have HC2 := Aside0.mk hc2
        have R2_950 := Aside0.mk (Kd.R_lower hR ((below_drew B904.out)).size)
        clear hR hc2
        have B907 := Aside0.mk (below_step (below_drew B904.out) hb)
        clear hb P_901 U_902 B904
        refine hK.out _ _ ⟨U_906.out, (B907.out.cell (World.block_lt_of_cell? w _ X0.out)).trans X0.out, (B907.out.cell (World.block_lt_of_cell? w _ X1.out)).trans X1.out⟩ (fun hHeld => ?_)
        clear hK K
        refine norm_ (a' := ?_) ?_ ?_
        rotate_left
        · show Act.put _ (some 53) _ = _
          simp only [Act.put, List.setIfInBounds_toArray, List.set_cons_zero, List.set_cons_succ, i64_w, i32_w]
          rfl
        refine last_ (i := 13) (N := none) #[true, true, true, true, true, true, true, true, true, true, true, true, true, true] rfl rfl (by kernel_rfl) (by decide) (fun K hK => ?_)
        refine skip_whole (w := w) (B := w.heap.size) 32 (.tmp 5) (.tmp 53) (by rfl) rfl rfl (g := w2.heap.size) (cs := #[.slice A2 u2.length c2]) ?_ (.agg (#[.slice A2 u2.length c2])) ?_ rfl (by kernel_rfl) (by simp [Value.oneCell']) (U_906.out) (rfl) L_U.out (B907.out) ?_
        · rfl
        · rfl
        intro w8 h1 h2 h3 h4
        have R2_908 := Aside0.mk (row_far R2_950.out U_906.out (by decide) h3)
        have P_909 := Aside0.mk ((h3 _ NE_P_U.out).trans P_905.out)
        have U_910 := Aside0.mk (h1)
        have B911 := Aside0.mk (h2)
        clear h1 h2 h3 h4 R2_950 P_905 U_906 B907
        refine hK.out _ _ ?_
        clear hK K
        refine done_ (by kernel_rfl) ?_
        go_wp2_with fail
        go_roundg ko
        case rel => exact ⟨i + 1, is_, u2, A2, c2, by first | rfl | (simp; done), by first | rfl | rw [wi], ⟨by have := HK.out; have := q1.out; omega⟩, ⟨by rw [show (i + 1).toNat = i.toNat + 1 by have := q1.out; omega, HTT.out, HTU.out]; simp⟩, ⟨⟨by have := HFL.out; have := HL.out; have := q1.out; omega, HC2.out⟩⟩, ⟨B911.out⟩, ⟨P_909.out⟩, ⟨U_910.out⟩, ⟨R2_908.out⟩⟩
        case measure => exact Nat.lt_succ_self _
      · go_wp2_with fail
        refine start_ (n := 14) (S := fun w' => w'.heap[w2.heap.size]? = some (.cells (#[.slice A1 u.length c1]) 32 (0, 0)) ∧ w'.cell? (ad.add (i.toNat * 2)) = some (.int .u64 y) ∧ w'.cell? ⟨(ad.add (i.toNat * 2)).block, (ad.add (i.toNat * 2)).off + 1, none⟩ = some (.int .u64 z)) (ds := [13]) #[false, false, false, false, false, false, false, false, false, false, false, false, false, false] (by kernel_rfl) rfl rfl ⟨blk_drew U_902.out, ((below_drew B904.out).cell (World.block_lt_of_cell? w _ X0.out)).trans X0.out, ((below_drew B904.out).cell (World.block_lt_of_cell? w _ X1.out)).trans X1.out⟩ (fun hHeld => ?_)
        refine pure_ (i := 1) (N := some 42) (v := ?_) (a' := ?_) #[false, true, false, false, false, false, false, false, false, false, false, false, false, false] rfl rfl (by kernel_rfl) (fun _ _ _ h => h) (Or.inl ⟨by rfl, ?_⟩) ?_ ?_
        rotate_left
        · intro w'
          go_simp
          with_reducible rfl
        rotate_left
        · simp only [Act.put, List.setIfInBounds_toArray, List.set_cons_zero, List.set_cons_succ, i64_w, i32_w]
          rfl
        refine pure_ (i := 2) (N := some 43) (v := ?_) (a' := ?_) #[false, true, true, false, false, false, false, false, false, false, false, false, false, false] rfl rfl (by kernel_rfl) (fun _ _ _ h => h) (Or.inl ⟨by rfl, ?_⟩) ?_ ?_
        rotate_left
        · intro w'
          go_simp
          with_reducible rfl
        rotate_left
        · simp only [Act.put, List.setIfInBounds_toArray, List.set_cons_zero, List.set_cons_succ, i64_w, i32_w]
          rfl
        refine pure_ (i := 3) (N := some 44) (v := ?_) (a' := ?_) #[false, true, true, true, false, false, false, false, false, false, false, false, false, false] rfl rfl (by kernel_rfl) (fun _ _ _ h => h) (Or.inl ⟨by rfl, ?_⟩) ?_ ?_
        rotate_left
        · intro w'
          go_simp
          with_reducible rfl
        rotate_left
        · simp only [Act.put, List.setIfInBounds_toArray, List.set_cons_zero, List.set_cons_succ, i64_w, i32_w]
          rfl
        refine pure_ (i := 4) (N := some 45) (v := ?_) (a' := ?_) #[false, true, true, true, true, false, false, false, false, false, false, false, false, false] rfl rfl (by kernel_rfl) (fun _ _ _ h => h) (Or.inl ⟨by rfl, ?_⟩) ?_ ?_
        rotate_left
        · intro w'
          go_simp
          with_reducible rfl
        rotate_left
        · simp only [Act.put, List.setIfInBounds_toArray, List.set_cons_zero, List.set_cons_succ, i64_w, i32_w]
          rfl
        refine pure_ (i := 6) (N := some 47) (v := ?_) (a' := ?_) #[false, true, true, true, true, false, true, false, false, false, false, false, false, false] rfl rfl (by kernel_rfl) (fun _ _ _ h => h) (Or.inl ⟨by rfl, ?_⟩) ?_ ?_
        rotate_left
        · intro w'
          go_simp
          with_reducible rfl
        rotate_left
        · simp only [Act.put, List.setIfInBounds_toArray, List.set_cons_zero, List.set_cons_succ, i64_w, i32_w]
          rfl
        refine pure_ (i := 7) (N := some 48) (v := ?_) (a' := ?_) #[false, true, true, true, true, false, true, true, false, false, false, false, false, false] rfl rfl (by kernel_rfl) (fun _ _ _ h => h) (Or.inl ⟨by rfl, ?_⟩) ?_ ?_
        rotate_left
        · intro w'
          go_simp
          with_reducible rfl
        rotate_left
        · simp only [Act.put, List.setIfInBounds_toArray, List.set_cons_zero, List.set_cons_succ, i64_w, i32_w]
          rfl
        refine pure_ (i := 8) (N := some 49) (v := ?_) (a' := ?_) #[false, true, true, true, true, false, true, true, true, false, false, false, false, false] rfl rfl (by kernel_rfl) (fun _ _ _ h => h) (Or.inl ⟨by rfl, ?_⟩) ?_ ?_
        rotate_left
        · intro w'
          go_simp
          with_reducible rfl
        rotate_left
        · simp only [Act.put, List.setIfInBounds_toArray, List.set_cons_zero, List.set_cons_succ, i64_w, i32_w]
          rfl
        refine pure_ (i := 9) (N := some 50) (v := ?_) (a' := ?_) #[false, true, true, true, true, false, true, true, true, true, false, false, false, false] rfl rfl (by kernel_rfl) (fun _ _ _ h => h) (Or.inl ⟨by rfl, ?_⟩) ?_ ?_
        rotate_left
        · intro w'
          go_simp
          with_reducible rfl
        rotate_left
        · simp only [Act.put, List.setIfInBounds_toArray, List.set_cons_zero, List.set_cons_succ, i64_w, i32_w]
          rfl
        refine take_ (i := 0) (N := some 41) (v := ?_) (a' := ?_) #[true, true, true, true, true, false, true, true, true, true, false, false, false, false] rfl rfl (by kernel_rfl) (fun _ _ _ h => h) (Or.inl ⟨by rfl, ?_⟩) hHeld ?_ ?_
        rotate_left
        · rintro w' ⟨s0, s1, s2⟩
          refine exec_load_row 32 (.tmp 5) ?_ _ ?_ 32 (#[.slice A1 u.length c1]) (0, 0) _ s0 Try.underlying32 rfl (by kernel_rfl) <;> rfl
        rotate_left
        · simp only [Act.put, List.setIfInBounds_toArray, List.set_cons_zero, List.set_cons_succ, i64_w, i32_w]
          rfl
        refine take_ (i := 5) (N := some 46) (v := ?_) (a' := ?_) #[true, true, true, true, true, true, true, true, true, true, false, false, false, false] rfl rfl (by kernel_rfl) (fun _ _ _ h => h) (Or.inl ⟨by rfl, ?_⟩) hHeld ?_ ?_
        rotate_left
        · rintro w' ⟨s0, s1, s2⟩
          go_simp
          with_reducible rfl
        rotate_left
        · simp only [Act.put, List.setIfInBounds_toArray, List.set_cons_zero, List.set_cons_succ, i64_w, i32_w]
          rfl
        refine take_ (i := 10) (N := some 51) (v := ?_) (a' := ?_) #[true, true, true, true, true, true, true, true, true, true, true, false, false, false] rfl rfl (by kernel_rfl) (fun _ _ _ h => h) (Or.inl ⟨by rfl, ?_⟩) hHeld ?_ ?_
        rotate_left
        · rintro w' ⟨s0, s1, s2⟩
          go_simp
          with_reducible rfl
        rotate_left
        · simp only [Act.put, List.setIfInBounds_toArray, List.set_cons_zero, List.set_cons_succ, i64_w, i32_w]
          rfl
        refine pure_ (i := 11) (N := some 52) (v := ?_) (a' := ?_) #[true, true, true, true, true, true, true, true, true, true, true, true, false, false] rfl rfl (by kernel_rfl) (fun _ _ _ h => h) (Or.inl ⟨by rfl, ?_⟩) ?_ ?_
        rotate_left
        · intro w'
          go_simp
          with_reducible rfl
        rotate_left
        · simp only [Act.put, List.setIfInBounds_toArray, List.set_cons_zero, List.set_cons_succ, i64_w, i32_w]
          rfl
        refine one_ (i := 12) (N := some 53) #[true, true, true, true, true, true, true, true, true, true, true, true, true, false] rfl rfl (by kernel_rfl) (by decide) (fun K hK => ?_)
        refine goes_ Try.func17 (by kernel_rfl) rfl #[.agg #[.slice A1 u.length c1], .agg #[.int .u64 y, .int .u64 z]] (by rfl) rfl rfl (by simp only [List.map_toArray, List.map_cons, List.map_nil]; rfl) ?_
        with_reducible refine (revenantref21_State_With.calls KW A1 c1 u y z u2 _ (Kd.C_below (R_C57 R_903.out) (below_drew (Below.refl _ _))) HL.out.2 HKW.out).mono ?_
        rintro e_ w7 ⟨v0, rfl, hR, hb⟩
        obtain ⟨A2, c2, rfl, hc2, -⟩ := Kd.R_reads hR
        refine ⟨_, rfl, ?_⟩
        have P_905 := Aside0.mk (blk_below (blk_drew P_901.out) hb)
        have U_906 := Aside0.mk (blk_below (blk_drew U_902.out) hb)
        have HC2 := Aside0.mk hc2
        have R2_950 := Aside0.mk (Kd.R_lower hR ((below_drew B904.out)).size)
        clear hR hc2
        have B907 := Aside0.mk (below_step (below_drew B904.out) hb)
        clear hb P_901 U_902 B904
        refine hK.out _ _ ⟨U_906.out, (B907.out.cell (World.block_lt_of_cell? w _ X0.out)).trans X0.out, (B907.out.cell (World.block_lt_of_cell? w _ X1.out)).trans X1.out⟩ (fun hHeld => ?_)
        clear hK K
        refine norm_ (a' := ?_) ?_ ?_
        rotate_left
        · show Act.put _ (some 53) _ = _
          simp only [Act.put, List.setIfInBounds_toArray, List.set_cons_zero, List.set_cons_succ, i64_w, i32_w]
          rfl
        refine last_ (i := 13) (N := none) #[true, true, true, true, true, true, true, true, true, true, true, true, true, true] rfl rfl (by kernel_rfl) (by decide) (fun K hK => ?_)
        refine skip_whole (w := w) (B := w.heap.size) 32 (.tmp 5) (.tmp 53) (by rfl) rfl rfl (g := w2.heap.size) (cs := #[.slice A2 u2.length c2]) ?_ (.agg (#[.slice A2 u2.length c2])) ?_ rfl (by kernel_rfl) (by simp [Value.oneCell']) (U_906.out) (rfl) L_U.out (B907.out) ?_
        · rfl
        · rfl
        intro w8 h1 h2 h3 h4
        have R2_908 := Aside0.mk (row_far R2_950.out U_906.out (by decide) h3)
        have P_909 := Aside0.mk ((h3 _ NE_P_U.out).trans P_905.out)
        have U_910 := Aside0.mk (h1)
        have B911 := Aside0.mk (h2)
        clear h1 h2 h3 h4 R2_950 P_905 U_906 B907
        refine hK.out _ _ ?_
        clear hK K
        refine done_ (by kernel_rfl) ?_
        go_wp2_with fail
        go_roundg ko
        case rel => exact ⟨i + 1, true, u2, A2, c2, by first | rfl | (simp; done), by first | rfl | rw [wi], ⟨by have := HK.out; have := q1.out; omega⟩, ⟨by rw [show (i + 1).toNat = i.toNat + 1 by have := q1.out; omega, HTT.out, HTU.out]; simp⟩, ⟨⟨by have := HFL.out; have := HL.out; have := q1.out; omega, HC2.out⟩⟩, ⟨B911.out⟩, ⟨P_909.out⟩, ⟨U_910.out⟩, ⟨R2_908.out⟩⟩
        case measure => exact Nat.lt_succ_self _
    · have d1 : decide (i < (l.length : Int)) = false := decide_eq_false hi
      obtain rfl : i = (l.length : Int) := by have := HK.out; omega
      rw [show ((l.length : Int)).toNat = l.length by omega] at HT HL
      rw [List.take_length] at HT
      clear hi HK
      go_wp2_with fail
      refine (new_T A c l _ (Kd.C_below HC.out B900.out) HCC.out (by have := HG.out; omega)).mono ?_
      rintro e_ w10 ⟨rfl, -, hb⟩
      rw [Xhnw.out]
      have P_901 := Aside0.mk (blk_below P_900.out hb)
      have U_902 := Aside0.mk (blk_below U_900.out hb)
      have R_903 := Aside0.mk (Kd.R_below R_900.out hb)
      have B904 := Aside0.mk (below_step B900.out hb)
      clear hb P_900 U_900 R_900 B900
      have L_S := Aside0.mk (show w.heap.size ≤ w10.heap.size from B904.out.size)
      have NE_P_S := Aside0.mk (show w.heap.size ≠ w10.heap.size by have := blk_lt P_901.out; omega)
      have NE_U_S := Aside0.mk (show w2.heap.size ≠ w10.heap.size by have := blk_lt U_902.out; omega)
      have P_905 := Aside0.mk (blk_alloc P_901.out (.cells #[.int .i64 0, .int .u64 0, .int .u64 0, .int .u64 0, .int .u64 0, .int .u64 0, .int .u64 0, .int .u64 0, .int .u64 0, .int .u64 0, .int .u64 0, .int .u64 0, .int .u64 0, .int .u64 0, .int .u64 0, .int .u64 0, .int .u64 0, .int .u64 0, .int .u64 0, .int .u64 0, .int .u64 0, .int .u64 0, .int .u64 0, .int .u64 0, .int .u64 0, .int .u64 0, .int .u64 0, .int .u64 0, .int .u64 0, .int .u64 0, .int .u64 0, .int .u64 0, .int .u64 0] 29))
      have U_906 := Aside0.mk (blk_alloc U_902.out (.cells #[.int .i64 0, .int .u64 0, .int .u64 0, .int .u64 0, .int .u64 0, .int .u64 0, .int .u64 0, .int .u64 0, .int .u64 0, .int .u64 0, .int .u64 0, .int .u64 0, .int .u64 0, .int .u64 0, .int .u64 0, .int .u64 0, .int .u64 0, .int .u64 0, .int .u64 0, .int .u64 0, .int .u64 0, .int .u64 0, .int .u64 0, .int .u64 0, .int .u64 0, .int .u64 0, .int .u64 0, .int .u64 0, .int .u64 0, .int .u64 0, .int .u64 0, .int .u64 0, .int .u64 0] 29))
      have S_907 := Aside0.mk (blk_new (w10) (.cells #[.int .i64 0, .int .u64 0, .int .u64 0, .int .u64 0, .int .u64 0, .int .u64 0, .int .u64 0, .int .u64 0, .int .u64 0, .int .u64 0, .int .u64 0, .int .u64 0, .int .u64 0, .int .u64 0, .int .u64 0, .int .u64 0, .int .u64 0, .int .u64 0, .int .u64 0, .int .u64 0, .int .u64 0, .int .u64 0, .int .u64 0, .int .u64 0, .int .u64 0, .int .u64 0, .int .u64 0, .int .u64 0, .int .u64 0, .int .u64 0, .int .u64 0, .int .u64 0, .int .u64 0] 29))
      have B908 := Aside0.mk (below_alloc B904.out (.cells #[.int .i64 0, .int .u64 0, .int .u64 0, .int .u64 0, .int .u64 0, .int .u64 0, .int .u64 0, .int .u64 0, .int .u64 0, .int .u64 0, .int .u64 0, .int .u64 0, .int .u64 0, .int .u64 0, .int .u64 0, .int .u64 0, .int .u64 0, .int .u64 0, .int .u64 0, .int .u64 0, .int .u64 0, .int .u64 0, .int .u64 0, .int .u64 0, .int .u64 0, .int .u64 0, .int .u64 0, .int .u64 0, .int .u64 0, .int .u64 0, .int .u64 0, .int .u64 0, .int .u64 0] 29))
      clear P_901 U_902 B904
      have R_909 := Aside0.mk (Kd.R_alloc (R_903.out) (.cells #[.int .i64 0, .int .u64 0, .int .u64 0, .int .u64 0, .int .u64 0, .int .u64 0, .int .u64 0, .int .u64 0, .int .u64 0, .int .u64 0, .int .u64 0, .int .u64 0, .int .u64 0, .int .u64 0, .int .u64 0, .int .u64 0, .int .u64 0, .int .u64 0, .int .u64 0, .int .u64 0, .int .u64 0, .int .u64 0, .int .u64 0, .int .u64 0, .int .u64 0, .int .u64 0, .int .u64 0, .int .u64 0, .int .u64 0, .int .u64 0, .int .u64 0, .int .u64 0, .int .u64 0] 29))
      clear R_903
      obtain rfl : tw = false := by have := Xht.out; rw [HT.out] at this; exact this
      have t3 : decide ((16 : Int) < (l.length : Int)) = true := decide_eq_true (by have := Xhf.out; omega)
      have t4 := eq_true (show (16 : Int) < (l.length : Int) by have := Xhf.out; omega)
      go_wp2_with (first
        | (refine store_whole (w := w) (B := w.heap.size) rfl rfl 29 (.tmp 10) (.tmp 57) rfl (g := w10.heap.size) (cs := SV []) rfl _ rfl rfl (stot _) (SV_one _) S_907.out (by first | (rw [SV_size]; done) | (rw [SV_size, SV_size]; done) | (rw [SV_size]; rfl)) L_S.out B908.out ?_; intro w_910 h1 h2 h3 h4; have R_911 := Aside0.mk (row_far R_909.out S_907.out (by decide) h3); have P_912 := Aside0.mk ((h3 _ NE_P_S.out).trans P_905.out); have U_913 := Aside0.mk ((h3 _ NE_U_S.out).trans U_906.out); have S_914 := Aside0.mk (h1); have B915 := Aside0.mk (h2); clear h1 h2 h3 h4 R_909 P_905 U_906 S_907 B908)
        | (refine wpList_load_row_g (by rfl) 29 (.tmp 10) rfl (w10.heap.size) rfl 29 (SV []) (0, 0) _ S_914.out Try.underlying29 rfl (info29 _) ?_)
        | (refine wpList_value_g (by rfl) (exec_eq29s (.tmp 73) (.tmp 74) rfl [] rfl rfl (by decide)) ?_))
      go_ret
      exact ⟨rfl, B915.out⟩
set_option maxHeartbeats 16000000 in
set_option maxRecDepth 100000 in
theorem pairs_g (A : Option Addr) (c : Nat) (l : List S26) (pk pv : Int) (s : List S26) (uu vv : List S57) (k1 k2 k3 k4 : Nat) (w : World) (hC : Kd.C k26 w A l.length l) (hcc : l.length ≤ c) (hg : l.length ≤ 40) (ht : stl l = (uu, false)) (hf : l.length ≤ 16) (hnw : newV l = (s, 0)) (hs : s.length ≤ 16) (huu : uu.length ≤ 16) (hw1 : (withoutV s pk).length ≤ 16) (hS : revenantref21_State_Sorted.f k1 uu = some (s.map c57)) (hW0 : revenantref21_State_Without.f k2 uu pk = some (flt uu pk)) (hS2 : revenantref21_State_Sorted.f k3 (flt uu pk) = some ((withoutV s pk).map c57)) (hV : revenantref21_State_With.f k4 uu pk pv = some vv) (hwi : withV s ⟨pk, pv⟩ = ([], 6)) (hvv : 16 < vv.length) :
    Calls Try.prog 7 #[.slice A l.length c, .agg #[.int .u64 pk, .int .u64 pv]] w fun e w' => e = .returned (.bool true) ∧ Below w.heap.size w w' := by
  have hu26 := Try.underlying26
  have hu29 := Try.underlying29
  have hu32 := Try.underlying32
  have HC := Aside0.mk hC
  have HCC := Aside0.mk hcc
  have HG := Aside0.mk hg
  clear hC hcc hg
  have Xht := Aside0.mk ht
  clear ht
  have Xhf := Aside0.mk hf
  clear hf
  have Xhnw := Aside0.mk hnw
  clear hnw
  have Xhs := Aside0.mk hs
  clear hs
  have Xhuu := Aside0.mk huu
  clear huu
  have Xhw1 := Aside0.mk hw1
  clear hw1
  have XhS := Aside0.mk hS
  clear hS
  have XhW0 := Aside0.mk hW0
  clear hW0
  have XhS2 := Aside0.mk hS2
  clear hS2
  have XhV := Aside0.mk hV
  clear hV
  have Xhwi := Aside0.mk hwi
  clear hwi
  have Xhvv := Aside0.mk hvv
  clear hvv
  have L_P := Aside0.mk (show w.heap.size ≤ w.heap.size from Nat.le_refl _)
  have P_1 := Aside0.mk (blk_new (w) (.cells (#[.int .u64 pk, .int .u64 pv]) 26))
  have B2 := Aside0.mk (below_alloc (Below.refl w.heap.size w) (.cells (#[.int .u64 pk, .int .u64 pv]) 26))
  go_enter Try.func7, Try.ntmps7
  go_wp2_with fail
  refine (awake_T _).mono ?_
  rintro e_ w2 ⟨rfl, hb⟩
  have P_3 := Aside0.mk (blk_below P_1.out hb)
  have B4 := Aside0.mk (below_step B2.out hb)
  clear hb P_1 B2
  have t1 : decide ((40 : Int) < (l.length : Int)) = false := decide_eq_false (by have := HG.out; omega)
  have t2 := eq_false (show ¬ (40 : Int) < (l.length : Int) by have := HG.out; omega)
  have L_U := Aside0.mk (show w.heap.size ≤ w2.heap.size from B4.out.size)
  have NE_P_U := Aside0.mk (show w.heap.size ≠ w2.heap.size by have := blk_lt P_3.out; omega)
  have P_5 := Aside0.mk (blk_alloc P_3.out (.cells #[.slice none 0 0] 32))
  have U_6 := Aside0.mk (blk_new (w2) (.cells #[.slice none 0 0] 32))
  have B7 := Aside0.mk (below_alloc B4.out (.cells #[.slice none 0 0] 32))
  clear P_3 B4
  go_wp2_with (first
    | (refine store_whole (w := w) (B := w.heap.size) rfl rfl 32 (.tmp 5) (.tmp 20) rfl (g := w2.heap.size) (cs := #[.slice none 0 0]) rfl _ rfl rfl (by kernel_rfl) (by simp [Value.oneCell']) U_6.out (rfl) L_U.out B7.out ?_; intro w_8 h1 h2 h3 h4; have P_9 := Aside0.mk ((h3 _ NE_P_U.out).trans P_5.out); have U_10 := Aside0.mk (h1); have B11 := Aside0.mk (h2); clear h1 h2 h3 h4 P_5 U_6 B7))
  have R_12 := Aside0.mk (Kd.R_nil k57 57 w_8 w.heap.size (fun _ => True))
  go_loopg [6, 7] l.length (fun kq v6 v7 w' => ∃ (i : Int) (tw : Bool) (u : List S57) (A1 : Option Addr) (c1 : Nat), v6 = .bool tw ∧ v7 = .int .i64 i ∧ Aside0 (0 ≤ i ∧ i + kq = l.length) ∧ Aside0 (stl (l.take i.toNat) = (u, tw)) ∧ Aside0 (u.length ≤ i.toNat ∧ u.length ≤ c1) ∧ Aside0 (Below w.heap.size w w') ∧ Aside0 (w'.heap[w.heap.size]? = some (.cells #[.int .u64 pk, .int .u64 pv] 26 (0, 0))) ∧ Aside0 (w'.heap[w2.heap.size]? = some (.cells #[.slice A1 u.length c1] 32 (0, 0))) ∧ Aside0 (Kd.R k57 57 w' w.heap.size (fun _ => True) (.slice A1 u.length c1) u))
  case atStart => exact ⟨0, false, [], none, 0, rfl, rfl, ⟨by omega⟩, ⟨rfl⟩, ⟨Nat.le_refl _, Nat.le_refl _⟩, ⟨B11.out⟩, ⟨P_9.out⟩, ⟨U_10.out⟩, ⟨R_12.out⟩⟩
  case round =>
    obtain ⟨i, tw, u, A1, c1, rfl, rfl, HK, HT, HL, B900, P_900, U_900, R_900⟩ := hrel
    clear B11 P_9 U_10 R_12
    by_cases hi : i < (l.length : Int)
    · have d1 : decide (i < (l.length : Int)) = true := decide_eq_true hi
      have p0 : (0 : Int) ≤ i := HK.out.1
      have q0 : i < (l.length : Int) := hi
      have q1 := Aside0.mk (show 0 ≤ i ∧ i < (l.length : Int) from ⟨p0, hi⟩)
      obtain ⟨ko, rfl⟩ : ∃ m, gk = m + 1 := ⟨gk - 1, by have := HK.out; omega⟩
      obtain ⟨ad, e0, hx0, hx1⟩ := k26_cells HC.out i p0 hi
      subst e0
      have HTT := Aside0.mk (stl_take l i.toNat (by omega))
      rw [HT.out] at HTT
      generalize l.getD i.toNat ⟨0, 0⟩ = p at hx0 hx1 HTT
      obtain ⟨y, z⟩ := p
      have X0 := Aside0.mk (show w.cell? (ad.add (i.toNat * 2)) = some (.int .u64 y) from hx0)
      have X1 := Aside0.mk (show w.cell? ⟨(ad.add (i.toNat * 2)).block, (ad.add (i.toNat * 2)).off + 1, none⟩ = some (.int .u64 z) from hx1)
      clear hx0 hx1 hi
      obtain ⟨gv, is_, hgu⟩ : ∃ g b, getU u y = (g, b) := ⟨_, _, rfl⟩
      obtain ⟨KG, hKG⟩ := get_some u y (by have := HL.out; have := HG.out; have := q1.out; omega)
      rw [hgu] at hKG
      have HKG := Aside0.mk hKG
      obtain ⟨KW, hKW⟩ := with_some u y z (by have := HL.out; have := HG.out; have := q1.out; omega)
      have hfl := flt_len u y
      have HTU : Aside0 (st (u, tw) ⟨y, z⟩ = (flt u y ++ [(⟨y, z⟩ : S57)], tw || is_)) := ⟨by unfold st; rw [hgu]; rfl⟩
      have HFL : Aside0 ((flt u y ++ [(⟨y, z⟩ : S57)]).length ≤ u.length + 1) := ⟨by simp; omega⟩
      generalize flt u y ++ [(⟨y, z⟩ : S57)] = u2 at hKW HTU HFL
      have HKW := Aside0.mk hKW
      clear hKW hKG hgu hfl
      have p0b : decide (0 ≤ i) = true := decide_eq_true p0
      have wi : wrap64 (i + 1) = i + 1 := by have := q1.out; have := HG.out; unfold wrap64; omega
      replace p0 := eq_true p0
      replace q0 := eq_true q0
      go_wp2_with fail
      refine start_ (n := 12) (S := fun w' => w'.heap[w2.heap.size]? = some (.cells (#[.slice A1 u.length c1]) 32 (0, 0)) ∧ w'.cell? (ad.add (i.toNat * 2)) = some (.int .u64 y)) (ds := []) #[false, false, false, false, false, false, false, false, false, false, false, false] (by kernel_rfl) rfl rfl ⟨blk_drew U_900.out, ((below_drew B900.out).cell (World.block_lt_of_cell? w _ X0.out)).trans X0.out⟩ (fun hHeld => ?_)
      refine pure_ (i := 1) (N := some 29) (v := ?_) (a' := ?_) #[false, true, false, false, false, false, false, false, false, false, false, false] rfl rfl (by kernel_rfl) (fun _ _ _ h => h) (Or.inl ⟨by rfl, ?_⟩) ?_ ?_
      rotate_left
      · intro w'
        go_simp
        with_reducible rfl
      rotate_left
      · simp only [Act.put, List.setIfInBounds_toArray, List.set_cons_zero, List.set_cons_succ, i64_w, i32_w]
        rfl
      refine pure_ (i := 2) (N := some 30) (v := ?_) (a' := ?_) #[false, true, true, false, false, false, false, false, false, false, false, false] rfl rfl (by kernel_rfl) (fun _ _ _ h => h) (Or.inl ⟨by rfl, ?_⟩) ?_ ?_
      rotate_left
      · intro w'
        go_simp
        with_reducible rfl
      rotate_left
      · simp only [Act.put, List.setIfInBounds_toArray, List.set_cons_zero, List.set_cons_succ, i64_w, i32_w]
        rfl
      refine pure_ (i := 3) (N := some 31) (v := ?_) (a' := ?_) #[false, true, true, true, false, false, false, false, false, false, false, false] rfl rfl (by kernel_rfl) (fun _ _ _ h => h) (Or.inl ⟨by rfl, ?_⟩) ?_ ?_
      rotate_left
      · intro w'
        go_simp
        with_reducible rfl
      rotate_left
      · simp only [Act.put, List.setIfInBounds_toArray, List.set_cons_zero, List.set_cons_succ, i64_w, i32_w]
        rfl
      refine pure_ (i := 4) (N := some 32) (v := ?_) (a' := ?_) #[false, true, true, true, true, false, false, false, false, false, false, false] rfl rfl (by kernel_rfl) (fun _ _ _ h => h) (Or.inl ⟨by rfl, ?_⟩) ?_ ?_
      rotate_left
      · intro w'
        go_simp
        with_reducible rfl
      rotate_left
      · simp only [Act.put, List.setIfInBounds_toArray, List.set_cons_zero, List.set_cons_succ, i64_w, i32_w]
        rfl
      refine take_ (i := 0) (N := some 28) (v := ?_) (a' := ?_) #[true, true, true, true, true, false, false, false, false, false, false, false] rfl rfl (by kernel_rfl) (fun _ _ _ h => h) (Or.inl ⟨by rfl, ?_⟩) hHeld ?_ ?_
      rotate_left
      · rintro w' ⟨s0, s1⟩
        refine exec_load_row 32 (.tmp 5) ?_ _ ?_ 32 (#[.slice A1 u.length c1]) (0, 0) _ s0 Try.underlying32 rfl (by kernel_rfl) <;> rfl
      rotate_left
      · simp only [Act.put, List.setIfInBounds_toArray, List.set_cons_zero, List.set_cons_succ, i64_w, i32_w]
        rfl
      refine take_ (i := 5) (N := some 33) (v := ?_) (a' := ?_) #[true, true, true, true, true, true, false, false, false, false, false, false] rfl rfl (by kernel_rfl) (fun _ _ _ h => h) (Or.inl ⟨by rfl, ?_⟩) hHeld ?_ ?_
      rotate_left
      · rintro w' ⟨s0, s1⟩
        go_simp
        with_reducible rfl
      rotate_left
      · simp only [Act.put, List.setIfInBounds_toArray, List.set_cons_zero, List.set_cons_succ, i64_w, i32_w]
        rfl
      refine one_ (i := 6) (N := some 34) #[true, true, true, true, true, true, true, false, false, false, false, false] rfl rfl (by kernel_rfl) (by decide) (fun K hK => ?_)
      refine goes_ Try.func12 (by kernel_rfl) rfl #[.agg #[.slice A1 u.length c1], .int .u64 y] (by rfl) rfl rfl (by simp only [List.map_toArray, List.map_cons, List.map_nil]; rfl) ?_
      with_reducible refine (revenantref21_State_Get.calls KG A1 c1 u y gv is_ _ (Kd.C_below (R_C57 R_900.out) (below_drew (Below.refl _ _))) HL.out.2 HKG.out).mono ?_
      rintro e_ w6 ⟨rfl, hb⟩
      refine ⟨_, rfl, ?_⟩
      have P_901 := Aside0.mk (blk_below (blk_drew P_900.out) hb)
      have U_902 := Aside0.mk (blk_below (blk_drew U_900.out) hb)
      have R_903 := Aside0.mk (Kd.R_below (Kd.R_drew R_900.out) hb)
      have B904 := Aside0.mk (below_step (below_drew B900.out) hb)
      clear hb P_900 U_900 R_900 B900
      refine hK.out _ _ ⟨U_902.out, (B904.out.cell (World.block_lt_of_cell? w _ X0.out)).trans X0.out⟩ (fun hHeld => ?_)
      clear hK K
      refine norm_ (a' := ?_) ?_ ?_
      rotate_left
      · show Act.put _ (some 34) _ = _
        simp only [Act.put, List.setIfInBounds_toArray, List.set_cons_zero, List.set_cons_succ, i64_w, i32_w]
        rfl
      refine pure_ (i := 7) (N := some 27) (v := ?_) (a' := ?_) #[true, true, true, true, true, true, true, true, false, false, false, false] rfl rfl (by kernel_rfl) (fun _ _ _ h => h) (Or.inl ⟨by rfl, ?_⟩) ?_ ?_
      rotate_left
      · intro w'
        go_simp
        with_reducible rfl
      rotate_left
      · simp only [Act.put, List.setIfInBounds_toArray, List.set_cons_zero, List.set_cons_succ, i64_w, i32_w]
        rfl
      refine pure_ (i := 8) (N := some 35) (v := ?_) (a' := ?_) #[true, true, true, true, true, true, true, true, true, false, false, false] rfl rfl (by kernel_rfl) (fun _ _ _ h => h) (Or.inl ⟨by rfl, ?_⟩) ?_ ?_
      rotate_left
      · intro w'
        go_simp
        with_reducible rfl
      rotate_left
      · simp only [Act.put, List.setIfInBounds_toArray, List.set_cons_zero, List.set_cons_succ, i64_w, i32_w]
        rfl
      refine pure_ (i := 9) (N := some 36) (v := ?_) (a' := ?_) #[true, true, true, true, true, true, true, true, true, true, false, false] rfl rfl (by kernel_rfl) (fun _ _ _ h => h) (Or.inl ⟨by rfl, ?_⟩) ?_ ?_
      rotate_left
      · intro w'
        go_simp
        with_reducible rfl
      rotate_left
      · simp only [Act.put, List.setIfInBounds_toArray, List.set_cons_zero, List.set_cons_succ, i64_w, i32_w]
        rfl
      refine pure_ (i := 10) (N := some 8) (v := ?_) (a' := ?_) #[true, true, true, true, true, true, true, true, true, true, true, false] rfl rfl (by kernel_rfl) (fun _ _ _ h => h) (Or.inl ⟨by rfl, ?_⟩) ?_ ?_
      rotate_left
      · intro w'
        go_simp
        with_reducible rfl
      rotate_left
      · simp only [Act.put, List.setIfInBounds_toArray, List.set_cons_zero, List.set_cons_succ, i64_w, i32_w]
        rfl
      refine pure_ (i := 11) (N := some 9) (v := ?_) (a' := ?_) #[true, true, true, true, true, true, true, true, true, true, true, true] rfl rfl (by kernel_rfl) (fun _ _ _ h => h) (Or.inl ⟨by rfl, ?_⟩) ?_ ?_
      rotate_left
      · intro w'
        go_simp
        with_reducible rfl
      rotate_left
      · simp only [Act.put, List.setIfInBounds_toArray, List.set_cons_zero, List.set_cons_succ, i64_w, i32_w]
        rfl
      refine done_ (by kernel_rfl) ?_
      cases tw
      · go_wp2_with fail
        refine start_ (n := 14) (S := fun w' => w'.heap[w2.heap.size]? = some (.cells (#[.slice A1 u.length c1]) 32 (0, 0)) ∧ w'.cell? (ad.add (i.toNat * 2)) = some (.int .u64 y) ∧ w'.cell? ⟨(ad.add (i.toNat * 2)).block, (ad.add (i.toNat * 2)).off + 1, none⟩ = some (.int .u64 z)) (ds := [13]) #[false, false, false, false, false, false, false, false, false, false, false, false, false, false] (by kernel_rfl) rfl rfl ⟨blk_drew U_902.out, ((below_drew B904.out).cell (World.block_lt_of_cell? w _ X0.out)).trans X0.out, ((below_drew B904.out).cell (World.block_lt_of_cell? w _ X1.out)).trans X1.out⟩ (fun hHeld => ?_)
        refine pure_ (i := 1) (N := some 42) (v := ?_) (a' := ?_) #[false, true, false, false, false, false, false, false, false, false, false, false, false, false] rfl rfl (by kernel_rfl) (fun _ _ _ h => h) (Or.inl ⟨by rfl, ?_⟩) ?_ ?_
        rotate_left
        · intro w'
          go_simp
          with_reducible rfl
        rotate_left
        · simp only [Act.put, List.setIfInBounds_toArray, List.set_cons_zero, List.set_cons_succ, i64_w, i32_w]
          rfl
        refine pure_ (i := 2) (N := some 43) (v := ?_) (a' := ?_) #[false, true, true, false, false, false, false, false, false, false, false, false, false, false] rfl rfl (by kernel_rfl) (fun _ _ _ h => h) (Or.inl ⟨by rfl, ?_⟩) ?_ ?_
        rotate_left
        · intro w'
          go_simp
          with_reducible rfl
        rotate_left
        · simp only [Act.put, List.setIfInBounds_toArray, List.set_cons_zero, List.set_cons_succ, i64_w, i32_w]
          rfl
        refine pure_ (i := 3) (N := some 44) (v := ?_) (a' := ?_) #[false, true, true, true, false, false, false, false, false, false, false, false, false, false] rfl rfl (by kernel_rfl) (fun _ _ _ h => h) (Or.inl ⟨by rfl, ?_⟩) ?_ ?_
        rotate_left
        · intro w'
          go_simp
          with_reducible rfl
        rotate_left
        · simp only [Act.put, List.setIfInBounds_toArray, List.set_cons_zero, List.set_cons_succ, i64_w, i32_w]
          rfl
        refine pure_ (i := 4) (N := some 45) (v := ?_) (a' := ?_) #[false, true, true, true, true, false, false, false, false, false, false, false, false, false] rfl rfl (by kernel_rfl) (fun _ _ _ h => h) (Or.inl ⟨by rfl, ?_⟩) ?_ ?_
        rotate_left
        · intro w'
          go_simp
          with_reducible rfl
        rotate_left
        · simp only [Act.put, List.setIfInBounds_toArray, List.set_cons_zero, List.set_cons_succ, i64_w, i32_w]
          rfl
        refine pure_ (i := 6) (N := some 47) (v := ?_) (a' := ?_) #[false, true, true, true, true, false, true, false, false, false, false, false, false, false] rfl rfl (by kernel_rfl) (fun _ _ _ h => h) (Or.inl ⟨by rfl, ?_⟩) ?_ ?_
        rotate_left
        · intro w'
          go_simp
          with_reducible rfl
        rotate_left
        · simp only [Act.put, List.setIfInBounds_toArray, List.set_cons_zero, List.set_cons_succ, i64_w, i32_w]
          rfl
        refine pure_ (i := 7) (N := some 48) (v := ?_) (a' := ?_) #[false, true, true, true, true, false, true, true, false, false, false, false, false, false] rfl rfl (by kernel_rfl) (fun _ _ _ h => h) (Or.inl ⟨by rfl, ?_⟩) ?_ ?_
        rotate_left
        · intro w'
          go_simp
          with_reducible rfl
        rotate_left
        · simp only [Act.put, List.setIfInBounds_toArray, List.set_cons_zero, List.set_cons_succ, i64_w, i32_w]
          rfl
        refine pure_ (i := 8) (N := some 49) (v := ?_) (a' := ?_) #[false, true, true, true, true, false, true, true, true, false, false, false, false, false] rfl rfl (by kernel_rfl) (fun _ _ _ h => h) (Or.inl ⟨by rfl, ?_⟩) ?_ ?_
        rotate_left
        · intro w'
          go_simp
          with_reducible rfl
        rotate_left
        · simp only [Act.put, List.setIfInBounds_toArray, List.set_cons_zero, List.set_cons_succ, i64_w, i32_w]
          rfl
        refine pure_ (i := 9) (N := some 50) (v := ?_) (a' := ?_) #[false, true, true, true, true, false, true, true, true, true, false, false, false, false] rfl rfl (by kernel_rfl) (fun _ _ _ h => h) (Or.inl ⟨by rfl, ?_⟩) ?_ ?_
        rotate_left
        · intro w'
          go_simp
          with_reducible rfl
        rotate_left
        · simp only [Act.put, List.setIfInBounds_toArray, List.set_cons_zero, List.set_cons_succ, i64_w, i32_w]
          rfl
        refine take_ (i := 0) (N := some 41) (v := ?_) (a' := ?_) #[true, true, true, true, true, false, true, true, true, true, false, false, false, false] rfl rfl (by kernel_rfl) (fun _ _ _ h => h) (Or.inl ⟨by rfl, ?_⟩) hHeld ?_ ?_
        rotate_left
        · rintro w' ⟨s0, s1, s2⟩
          refine exec_load_row 32 (.tmp 5) ?_ _ ?_ 32 (#[.slice A1 u.length c1]) (0, 0) _ s0 Try.underlying32 rfl (by kernel_rfl) <;> rfl
        rotate_left
        · simp only [Act.put, List.setIfInBounds_toArray, List.set_cons_zero, List.set_cons_succ, i64_w, i32_w]
          rfl
        refine take_ (i := 5) (N := some 46) (v := ?_) (a' := ?_) #[true, true, true, true, true, true, true, true, true, true, false, false, false, false] rfl rfl (by kernel_rfl) (fun _ _ _ h => h) (Or.inl ⟨by rfl, ?_⟩) hHeld ?_ ?_
        rotate_left
        · rintro w' ⟨s0, s1, s2⟩
          go_simp
          with_reducible rfl
        rotate_left
        · simp only [Act.put, List.setIfInBounds_toArray, List.set_cons_zero, List.set_cons_succ, i64_w, i32_w]
          rfl
        refine take_ (i := 10) (N := some 51) (v := ?_) (a' := ?_) #[true, true, true, true, true, true, true, true, true, true, true, false, false, false] rfl rfl (by kernel_rfl) (fun _ _ _ h => h) (Or.inl ⟨by rfl, ?_⟩) hHeld ?_ ?_
        rotate_left
        · rintro w' ⟨s0, s1, s2⟩
          go_simp
          with_reducible rfl
        rotate_left
        · simp only [Act.put, List.setIfInBounds_toArray, List.set_cons_zero, List.set_cons_succ, i64_w, i32_w]
          rfl
        refine pure_ (i := 11) (N := some 52) (v := ?_) (a' := ?_) #[true, true, true, true, true, true, true, true, true, true, true, true, false, false] rfl rfl (by kernel_rfl) (fun _ _ _ h => h) (Or.inl ⟨by rfl, ?_⟩) ?_ ?_
        rotate_left
        · intro w'
          go_simp
          with_reducible rfl
        rotate_left
        · simp only [Act.put, List.setIfInBounds_toArray, List.set_cons_zero, List.set_cons_succ, i64_w, i32_w]
          rfl
        refine one_ (i := 12) (N := some 53) #[true, true, true, true, true, true, true, true, true, true, true, true, true, false] rfl rfl (by kernel_rfl) (by decide) (fun K hK => ?_)
        refine goes_ Try.func17 (by kernel_rfl) rfl #[.agg #[.slice A1 u.length c1], .agg #[.int .u64 y, .int .u64 z]] (by rfl) rfl rfl (by simp only [List.map_toArray, List.map_cons, List.map_nil]; rfl) ?_
        with_reducible refine (revenantref21_State_With.calls KW A1 c1 u y z u2 _ (Kd.C_below (R_C57 R_903.out) (below_drew (Below.refl _ _))) HL.out.2 HKW.out).mono ?_
        rintro e_ w7 ⟨v0, rfl, hR, hb⟩
        obtain ⟨A2, c2, rfl, hc2, -⟩ := Kd.R_reads hR
        refine ⟨_, rfl, ?_⟩
        have P_905 := Aside0.mk (blk_below (blk_drew P_901.out) hb)
        have U_906 := Aside0.mk (blk_below (blk_drew U_902.out) hb)
        have HC2 := Aside0.mk hc2
        have R2_950 := Aside0.mk (Kd.R_lower hR ((below_drew B904.out)).size)
        clear hR hc2
        have B907 := Aside0.mk (below_step (below_drew B904.out) hb)
        clear hb P_901 U_902 B904
        refine hK.out _ _ ⟨U_906.out, (B907.out.cell (World.block_lt_of_cell? w _ X0.out)).trans X0.out, (B907.out.cell (World.block_lt_of_cell? w _ X1.out)).trans X1.out⟩ (fun hHeld => ?_)
        clear hK K
        refine norm_ (a' := ?_) ?_ ?_
        rotate_left
        · show Act.put _ (some 53) _ = _
          simp only [Act.put, List.setIfInBounds_toArray, List.set_cons_zero, List.set_cons_succ, i64_w, i32_w]
          rfl
        refine last_ (i := 13) (N := none) #[true, true, true, true, true, true, true, true, true, true, true, true, true, true] rfl rfl (by kernel_rfl) (by decide) (fun K hK => ?_)
        refine skip_whole (w := w) (B := w.heap.size) 32 (.tmp 5) (.tmp 53) (by rfl) rfl rfl (g := w2.heap.size) (cs := #[.slice A2 u2.length c2]) ?_ (.agg (#[.slice A2 u2.length c2])) ?_ rfl (by kernel_rfl) (by simp [Value.oneCell']) (U_906.out) (rfl) L_U.out (B907.out) ?_
        · rfl
        · rfl
        intro w8 h1 h2 h3 h4
        have R2_908 := Aside0.mk (row_far R2_950.out U_906.out (by decide) h3)
        have P_909 := Aside0.mk ((h3 _ NE_P_U.out).trans P_905.out)
        have U_910 := Aside0.mk (h1)
        have B911 := Aside0.mk (h2)
        clear h1 h2 h3 h4 R2_950 P_905 U_906 B907
        refine hK.out _ _ ?_
        clear hK K
        refine done_ (by kernel_rfl) ?_
        go_wp2_with fail
        go_roundg ko
        case rel => exact ⟨i + 1, is_, u2, A2, c2, by first | rfl | (simp; done), by first | rfl | rw [wi], ⟨by have := HK.out; have := q1.out; omega⟩, ⟨by rw [show (i + 1).toNat = i.toNat + 1 by have := q1.out; omega, HTT.out, HTU.out]; simp⟩, ⟨⟨by have := HFL.out; have := HL.out; have := q1.out; omega, HC2.out⟩⟩, ⟨B911.out⟩, ⟨P_909.out⟩, ⟨U_910.out⟩, ⟨R2_908.out⟩⟩
        case measure => exact Nat.lt_succ_self _
      · go_wp2_with fail
        refine start_ (n := 14) (S := fun w' => w'.heap[w2.heap.size]? = some (.cells (#[.slice A1 u.length c1]) 32 (0, 0)) ∧ w'.cell? (ad.add (i.toNat * 2)) = some (.int .u64 y) ∧ w'.cell? ⟨(ad.add (i.toNat * 2)).block, (ad.add (i.toNat * 2)).off + 1, none⟩ = some (.int .u64 z)) (ds := [13]) #[false, false, false, false, false, false, false, false, false, false, false, false, false, false] (by kernel_rfl) rfl rfl ⟨blk_drew U_902.out, ((below_drew B904.out).cell (World.block_lt_of_cell? w _ X0.out)).trans X0.out, ((below_drew B904.out).cell (World.block_lt_of_cell? w _ X1.out)).trans X1.out⟩ (fun hHeld => ?_)
        refine pure_ (i := 1) (N := some 42) (v := ?_) (a' := ?_) #[false, true, false, false, false, false, false, false, false, false, false, false, false, false] rfl rfl (by kernel_rfl) (fun _ _ _ h => h) (Or.inl ⟨by rfl, ?_⟩) ?_ ?_
        rotate_left
        · intro w'
          go_simp
          with_reducible rfl
        rotate_left
        · simp only [Act.put, List.setIfInBounds_toArray, List.set_cons_zero, List.set_cons_succ, i64_w, i32_w]
          rfl
        refine pure_ (i := 2) (N := some 43) (v := ?_) (a' := ?_) #[false, true, true, false, false, false, false, false, false, false, false, false, false, false] rfl rfl (by kernel_rfl) (fun _ _ _ h => h) (Or.inl ⟨by rfl, ?_⟩) ?_ ?_
        rotate_left
        · intro w'
          go_simp
          with_reducible rfl
        rotate_left
        · simp only [Act.put, List.setIfInBounds_toArray, List.set_cons_zero, List.set_cons_succ, i64_w, i32_w]
          rfl
        refine pure_ (i := 3) (N := some 44) (v := ?_) (a' := ?_) #[false, true, true, true, false, false, false, false, false, false, false, false, false, false] rfl rfl (by kernel_rfl) (fun _ _ _ h => h) (Or.inl ⟨by rfl, ?_⟩) ?_ ?_
        rotate_left
        · intro w'
          go_simp
          with_reducible rfl
        rotate_left
        · simp only [Act.put, List.setIfInBounds_toArray, List.set_cons_zero, List.set_cons_succ, i64_w, i32_w]
          rfl
        refine pure_ (i := 4) (N := some 45) (v := ?_) (a' := ?_) #[false, true, true, true, true, false, false, false, false, false, false, false, false, false] rfl rfl (by kernel_rfl) (fun _ _ _ h => h) (Or.inl ⟨by rfl, ?_⟩) ?_ ?_
        rotate_left
        · intro w'
          go_simp
          with_reducible rfl
        rotate_left
        · simp only [Act.put, List.setIfInBounds_toArray, List.set_cons_zero, List.set_cons_succ, i64_w, i32_w]
          rfl
        refine pure_ (i := 6) (N := some 47) (v := ?_) (a' := ?_) #[false, true, true, true, true, false, true, false, false, false, false, false, false, false] rfl rfl (by kernel_rfl) (fun _ _ _ h => h) (Or.inl ⟨by rfl, ?_⟩) ?_ ?_
        rotate_left
        · intro w'
          go_simp
          with_reducible rfl
        rotate_left
        · simp only [Act.put, List.setIfInBounds_toArray, List.set_cons_zero, List.set_cons_succ, i64_w, i32_w]
          rfl
        refine pure_ (i := 7) (N := some 48) (v := ?_) (a' := ?_) #[false, true, true, true, true, false, true, true, false, false, false, false, false, false] rfl rfl (by kernel_rfl) (fun _ _ _ h => h) (Or.inl ⟨by rfl, ?_⟩) ?_ ?_
        rotate_left
        · intro w'
          go_simp
          with_reducible rfl
        rotate_left
        · simp only [Act.put, List.setIfInBounds_toArray, List.set_cons_zero, List.set_cons_succ, i64_w, i32_w]
          rfl
        refine pure_ (i := 8) (N := some 49) (v := ?_) (a' := ?_) #[false, true, true, true, true, false, true, true, true, false, false, false, false, false] rfl rfl (by kernel_rfl) (fun _ _ _ h => h) (Or.inl ⟨by rfl, ?_⟩) ?_ ?_
        rotate_left
        · intro w'
          go_simp
          with_reducible rfl
        rotate_left
        · simp only [Act.put, List.setIfInBounds_toArray, List.set_cons_zero, List.set_cons_succ, i64_w, i32_w]
          rfl
        refine pure_ (i := 9) (N := some 50) (v := ?_) (a' := ?_) #[false, true, true, true, true, false, true, true, true, true, false, false, false, false] rfl rfl (by kernel_rfl) (fun _ _ _ h => h) (Or.inl ⟨by rfl, ?_⟩) ?_ ?_
        rotate_left
        · intro w'
          go_simp
          with_reducible rfl
        rotate_left
        · simp only [Act.put, List.setIfInBounds_toArray, List.set_cons_zero, List.set_cons_succ, i64_w, i32_w]
          rfl
        refine take_ (i := 0) (N := some 41) (v := ?_) (a' := ?_) #[true, true, true, true, true, false, true, true, true, true, false, false, false, false] rfl rfl (by kernel_rfl) (fun _ _ _ h => h) (Or.inl ⟨by rfl, ?_⟩) hHeld ?_ ?_
        rotate_left
        · rintro w' ⟨s0, s1, s2⟩
          refine exec_load_row 32 (.tmp 5) ?_ _ ?_ 32 (#[.slice A1 u.length c1]) (0, 0) _ s0 Try.underlying32 rfl (by kernel_rfl) <;> rfl
        rotate_left
        · simp only [Act.put, List.setIfInBounds_toArray, List.set_cons_zero, List.set_cons_succ, i64_w, i32_w]
          rfl
        refine take_ (i := 5) (N := some 46) (v := ?_) (a' := ?_) #[true, true, true, true, true, true, true, true, true, true, false, false, false, false] rfl rfl (by kernel_rfl) (fun _ _ _ h => h) (Or.inl ⟨by rfl, ?_⟩) hHeld ?_ ?_
        rotate_left
        · rintro w' ⟨s0, s1, s2⟩
          go_simp
          with_reducible rfl
        rotate_left
        · simp only [Act.put, List.setIfInBounds_toArray, List.set_cons_zero, List.set_cons_succ, i64_w, i32_w]
          rfl
        refine take_ (i := 10) (N := some 51) (v := ?_) (a' := ?_) #[true, true, true, true, true, true, true, true, true, true, true, false, false, false] rfl rfl (by kernel_rfl) (fun _ _ _ h => h) (Or.inl ⟨by rfl, ?_⟩) hHeld ?_ ?_
        rotate_left
        · rintro w' ⟨s0, s1, s2⟩
          go_simp
          with_reducible rfl
        rotate_left
        · simp only [Act.put, List.setIfInBounds_toArray, List.set_cons_zero, List.set_cons_succ, i64_w, i32_w]
          rfl
        refine pure_ (i := 11) (N := some 52) (v := ?_) (a' := ?_) #[true, true, true, true, true, true, true, true, true, true, true, true, false, false] rfl rfl (by kernel_rfl) (fun _ _ _ h => h) (Or.inl ⟨by rfl, ?_⟩) ?_ ?_
        rotate_left
        · intro w'
          go_simp
          with_reducible rfl
        rotate_left
        · simp only [Act.put, List.setIfInBounds_toArray, List.set_cons_zero, List.set_cons_succ, i64_w, i32_w]
          rfl
        refine one_ (i := 12) (N := some 53) #[true, true, true, true, true, true, true, true, true, true, true, true, true, false] rfl rfl (by kernel_rfl) (by decide) (fun K hK => ?_)
        refine goes_ Try.func17 (by kernel_rfl) rfl #[.agg #[.slice A1 u.length c1], .agg #[.int .u64 y, .int .u64 z]] (by rfl) rfl rfl (by simp only [List.map_toArray, List.map_cons, List.map_nil]; rfl) ?_
        with_reducible refine (revenantref21_State_With.calls KW A1 c1 u y z u2 _ (Kd.C_below (R_C57 R_903.out) (below_drew (Below.refl _ _))) HL.out.2 HKW.out).mono ?_
        rintro e_ w7 ⟨v0, rfl, hR, hb⟩
        obtain ⟨A2, c2, rfl, hc2, -⟩ := Kd.R_reads hR
        refine ⟨_, rfl, ?_⟩
        have P_905 := Aside0.mk (blk_below (blk_drew P_901.out) hb)
        have U_906 := Aside0.mk (blk_below (blk_drew U_902.out) hb)
        have HC2 := Aside0.mk hc2
        have R2_950 := Aside0.mk (Kd.R_lower hR ((below_drew B904.out)).size)
        clear hR hc2
        have B907 := Aside0.mk (below_step (below_drew B904.out) hb)
        clear hb P_901 U_902 B904
        refine hK.out _ _ ⟨U_906.out, (B907.out.cell (World.block_lt_of_cell? w _ X0.out)).trans X0.out, (B907.out.cell (World.block_lt_of_cell? w _ X1.out)).trans X1.out⟩ (fun hHeld => ?_)
        clear hK K
        refine norm_ (a' := ?_) ?_ ?_
        rotate_left
        · show Act.put _ (some 53) _ = _
          simp only [Act.put, List.setIfInBounds_toArray, List.set_cons_zero, List.set_cons_succ, i64_w, i32_w]
          rfl
        refine last_ (i := 13) (N := none) #[true, true, true, true, true, true, true, true, true, true, true, true, true, true] rfl rfl (by kernel_rfl) (by decide) (fun K hK => ?_)
        refine skip_whole (w := w) (B := w.heap.size) 32 (.tmp 5) (.tmp 53) (by rfl) rfl rfl (g := w2.heap.size) (cs := #[.slice A2 u2.length c2]) ?_ (.agg (#[.slice A2 u2.length c2])) ?_ rfl (by kernel_rfl) (by simp [Value.oneCell']) (U_906.out) (rfl) L_U.out (B907.out) ?_
        · rfl
        · rfl
        intro w8 h1 h2 h3 h4
        have R2_908 := Aside0.mk (row_far R2_950.out U_906.out (by decide) h3)
        have P_909 := Aside0.mk ((h3 _ NE_P_U.out).trans P_905.out)
        have U_910 := Aside0.mk (h1)
        have B911 := Aside0.mk (h2)
        clear h1 h2 h3 h4 R2_950 P_905 U_906 B907
        refine hK.out _ _ ?_
        clear hK K
        refine done_ (by kernel_rfl) ?_
        go_wp2_with fail
        go_roundg ko
        case rel => exact ⟨i + 1, true, u2, A2, c2, by first | rfl | (simp; done), by first | rfl | rw [wi], ⟨by have := HK.out; have := q1.out; omega⟩, ⟨by rw [show (i + 1).toNat = i.toNat + 1 by have := q1.out; omega, HTT.out, HTU.out]; simp⟩, ⟨⟨by have := HFL.out; have := HL.out; have := q1.out; omega, HC2.out⟩⟩, ⟨B911.out⟩, ⟨P_909.out⟩, ⟨U_910.out⟩, ⟨R2_908.out⟩⟩
        case measure => exact Nat.lt_succ_self _
    · have d1 : decide (i < (l.length : Int)) = false := decide_eq_false hi
      obtain rfl : i = (l.length : Int) := by have := HK.out; omega
      rw [show ((l.length : Int)).toNat = l.length by omega] at HT HL
      rw [List.take_length] at HT
      clear hi HK
      go_wp2_with fail
      refine (new_T A c l _ (Kd.C_below HC.out B900.out) HCC.out (by have := HG.out; omega)).mono ?_
      rintro e_ w10 ⟨rfl, -, hb⟩
      rw [Xhnw.out]
      have P_901 := Aside0.mk (blk_below P_900.out hb)
      have U_902 := Aside0.mk (blk_below U_900.out hb)
      have R_903 := Aside0.mk (Kd.R_below R_900.out hb)
      have B904 := Aside0.mk (below_step B900.out hb)
      clear hb P_900 U_900 R_900 B900
      have L_S := Aside0.mk (show w.heap.size ≤ w10.heap.size from B904.out.size)
      have NE_P_S := Aside0.mk (show w.heap.size ≠ w10.heap.size by have := blk_lt P_901.out; omega)
      have NE_U_S := Aside0.mk (show w2.heap.size ≠ w10.heap.size by have := blk_lt U_902.out; omega)
      have P_905 := Aside0.mk (blk_alloc P_901.out (.cells #[.int .i64 0, .int .u64 0, .int .u64 0, .int .u64 0, .int .u64 0, .int .u64 0, .int .u64 0, .int .u64 0, .int .u64 0, .int .u64 0, .int .u64 0, .int .u64 0, .int .u64 0, .int .u64 0, .int .u64 0, .int .u64 0, .int .u64 0, .int .u64 0, .int .u64 0, .int .u64 0, .int .u64 0, .int .u64 0, .int .u64 0, .int .u64 0, .int .u64 0, .int .u64 0, .int .u64 0, .int .u64 0, .int .u64 0, .int .u64 0, .int .u64 0, .int .u64 0, .int .u64 0] 29))
      have U_906 := Aside0.mk (blk_alloc U_902.out (.cells #[.int .i64 0, .int .u64 0, .int .u64 0, .int .u64 0, .int .u64 0, .int .u64 0, .int .u64 0, .int .u64 0, .int .u64 0, .int .u64 0, .int .u64 0, .int .u64 0, .int .u64 0, .int .u64 0, .int .u64 0, .int .u64 0, .int .u64 0, .int .u64 0, .int .u64 0, .int .u64 0, .int .u64 0, .int .u64 0, .int .u64 0, .int .u64 0, .int .u64 0, .int .u64 0, .int .u64 0, .int .u64 0, .int .u64 0, .int .u64 0, .int .u64 0, .int .u64 0, .int .u64 0] 29))
      have S_907 := Aside0.mk (blk_new (w10) (.cells #[.int .i64 0, .int .u64 0, .int .u64 0, .int .u64 0, .int .u64 0, .int .u64 0, .int .u64 0, .int .u64 0, .int .u64 0, .int .u64 0, .int .u64 0, .int .u64 0, .int .u64 0, .int .u64 0, .int .u64 0, .int .u64 0, .int .u64 0, .int .u64 0, .int .u64 0, .int .u64 0, .int .u64 0, .int .u64 0, .int .u64 0, .int .u64 0, .int .u64 0, .int .u64 0, .int .u64 0, .int .u64 0, .int .u64 0, .int .u64 0, .int .u64 0, .int .u64 0, .int .u64 0] 29))
      have B908 := Aside0.mk (below_alloc B904.out (.cells #[.int .i64 0, .int .u64 0, .int .u64 0, .int .u64 0, .int .u64 0, .int .u64 0, .int .u64 0, .int .u64 0, .int .u64 0, .int .u64 0, .int .u64 0, .int .u64 0, .int .u64 0, .int .u64 0, .int .u64 0, .int .u64 0, .int .u64 0, .int .u64 0, .int .u64 0, .int .u64 0, .int .u64 0, .int .u64 0, .int .u64 0, .int .u64 0, .int .u64 0, .int .u64 0, .int .u64 0, .int .u64 0, .int .u64 0, .int .u64 0, .int .u64 0, .int .u64 0, .int .u64 0] 29))
      clear P_901 U_902 B904
      have R_909 := Aside0.mk (Kd.R_alloc (R_903.out) (.cells #[.int .i64 0, .int .u64 0, .int .u64 0, .int .u64 0, .int .u64 0, .int .u64 0, .int .u64 0, .int .u64 0, .int .u64 0, .int .u64 0, .int .u64 0, .int .u64 0, .int .u64 0, .int .u64 0, .int .u64 0, .int .u64 0, .int .u64 0, .int .u64 0, .int .u64 0, .int .u64 0, .int .u64 0, .int .u64 0, .int .u64 0, .int .u64 0, .int .u64 0, .int .u64 0, .int .u64 0, .int .u64 0, .int .u64 0, .int .u64 0, .int .u64 0, .int .u64 0, .int .u64 0] 29))
      clear R_903
      obtain ⟨rfl, rfl⟩ : uu = u ∧ tw = false := by have := Xht.out; rw [HT.out] at this; injection this with h1 h2; exact ⟨h1.symm, h2⟩
      have t3 : decide ((16 : Int) < (l.length : Int)) = false := decide_eq_false (by have := Xhf.out; omega)
      have t4 := eq_false (show ¬ (16 : Int) < (l.length : Int) by have := Xhf.out; omega)
      go_wp2_with (first
        | (refine store_whole (w := w) (B := w.heap.size) rfl rfl 29 (.tmp 10) (.tmp 57) rfl (g := w10.heap.size) (cs := SV s) rfl _ rfl rfl (stot _) (SV_one _) S_907.out (by first | (rw [SV_size]; done) | (rw [SV_size, SV_size]; done) | (rw [SV_size]; rfl)) L_S.out B908.out ?_; intro w_910 h1 h2 h3 h4; have R_911 := Aside0.mk (row_far R_909.out S_907.out (by decide) h3); have P_912 := Aside0.mk ((h3 _ NE_P_S.out).trans P_905.out); have U_913 := Aside0.mk ((h3 _ NE_U_S.out).trans U_906.out); have S_914 := Aside0.mk (h1); have B915 := Aside0.mk (h2); clear h1 h2 h3 h4 R_909 P_905 U_906 S_907 B908))
      refine start_ (n := 20) (S := fun w' => w'.heap[w10.heap.size]? = some (.cells (SV s) 29 (0, 0)) ∧ w'.heap[w2.heap.size]? = some (.cells (#[.slice A1 uu.length c1]) 32 (0, 0)) ∧ w'.cell? ⟨w.heap.size, 0, none⟩ = some (.int .u64 pk)) (ds := []) #[false, false, false, false, false, false, false, false, false, false, false, false, false, false, false, false, false, false, false, false] (by kernel_rfl) rfl rfl ⟨blk_drew S_914.out, blk_drew U_913.out, (blk_cell (blk_drew P_912.out) 0).trans rfl⟩ (fun hHeld => ?_)
      refine pure_ (i := 0) (N := some 77) (v := ?_) (a' := ?_) #[true, false, false, false, false, false, false, false, false, false, false, false, false, false, false, false, false, false, false, false] rfl rfl (by kernel_rfl) (fun _ _ _ h => h) (Or.inl ⟨by rfl, ?_⟩) ?_ ?_
      rotate_left
      · intro w'
        go_simp
        with_reducible rfl
      rotate_left
      · simp only [Act.put, List.setIfInBounds_toArray, List.set_cons_zero, List.set_cons_succ, i64_w, i32_w]
        rfl
      refine pure_ (i := 1) (N := some 78) (v := ?_) (a' := ?_) #[true, true, false, false, false, false, false, false, false, false, false, false, false, false, false, false, false, false, false, false] rfl rfl (by kernel_rfl) (fun _ _ _ h => h) (Or.inl ⟨by rfl, ?_⟩) ?_ ?_
      rotate_left
      · intro w'
        go_simp
        with_reducible rfl
      rotate_left
      · simp only [Act.put, List.setIfInBounds_toArray, List.set_cons_zero, List.set_cons_succ, i64_w, i32_w]
        rfl
      refine pure_ (i := 2) (N := some 79) (v := ?_) (a' := ?_) #[true, true, true, false, false, false, false, false, false, false, false, false, false, false, false, false, false, false, false, false] rfl rfl (by kernel_rfl) (fun _ _ _ h => h) (Or.inl ⟨by rfl, ?_⟩) ?_ ?_
      rotate_left
      · intro w'
        go_simp
        with_reducible rfl
      rotate_left
      · simp only [Act.put, List.setIfInBounds_toArray, List.set_cons_zero, List.set_cons_succ, i64_w, i32_w]
        rfl
      refine take_ (i := 3) (N := some 80) (v := ?_) (a' := ?_) #[true, true, true, true, false, false, false, false, false, false, false, false, false, false, false, false, false, false, false, false] rfl rfl (by kernel_rfl) (fun _ _ _ h => h) (Or.inl ⟨by rfl, ?_⟩) hHeld ?_ ?_
      rotate_left
      · rintro w' ⟨s0, s1, s2⟩
        refine exec_load_row 29 (.tmp 10) ?_ _ ?_ 29 (SV s) (0, 0) _ s0 Try.underlying29 rfl (info29 _) <;> rfl
      rotate_left
      · simp only [Act.put, List.setIfInBounds_toArray, List.set_cons_zero, List.set_cons_succ, i64_w, i32_w]
        rfl
      refine take_ (i := 4) (N := some 81) (v := ?_) (a' := ?_) #[true, true, true, true, true, false, false, false, false, false, false, false, false, false, false, false, false, false, false, false] rfl rfl (by kernel_rfl) (fun _ _ _ h => h) (Or.inl ⟨by rfl, ?_⟩) hHeld ?_ ?_
      rotate_left
      · rintro w' ⟨s0, s1, s2⟩
        refine exec_load_row 32 (.tmp 5) ?_ _ ?_ 32 (#[.slice A1 uu.length c1]) (0, 0) _ s1 Try.underlying32 rfl (by kernel_rfl) <;> rfl
      rotate_left
      · simp only [Act.put, List.setIfInBounds_toArray, List.set_cons_zero, List.set_cons_succ, i64_w, i32_w]
        rfl
      refine one_ (i := 5) (N := some 82) #[true, true, true, true, true, true, false, false, false, false, false, false, false, false, false, false, false, false, false, false] rfl rfl (by kernel_rfl) (by decide) (fun K hK => ?_)
      refine goes_ Try.func13 (by kernel_rfl) rfl #[.agg (SV s), .agg #[.slice A1 uu.length c1]] (by rfl) rfl rfl (by simp only [List.map_toArray, List.map_cons, List.map_nil]; rfl) ?_
      with_reducible refine (alike_T s A1 c1 uu k1 _ Xhs.out (R_C57 (Kd.R_drew R_911.out)) HL.out.2 XhS.out).mono ?_
      rintro e_ w11 ⟨rfl, hb⟩
      refine ⟨_, rfl, ?_⟩
      have P_916 := Aside0.mk (blk_below (blk_drew P_912.out) hb)
      have U_917 := Aside0.mk (blk_below (blk_drew U_913.out) hb)
      have S_918 := Aside0.mk (blk_below (blk_drew S_914.out) hb)
      have R_919 := Aside0.mk (Kd.R_below (Kd.R_drew R_911.out) hb)
      have B920 := Aside0.mk (below_step (below_drew B915.out) hb)
      clear hb P_912 U_913 S_914 R_911 B915
      refine hK.out _ _ ⟨S_918.out, U_917.out, (blk_cell P_916.out 0).trans rfl⟩ (fun hHeld => ?_)
      clear hK K
      refine norm_ (a' := ?_) ?_ ?_
      rotate_left
      · show Act.put _ (some 82) _ = _
        simp only [Act.put, List.setIfInBounds_toArray, List.set_cons_zero, List.set_cons_succ, i64_w, i32_w]
        rfl
      refine pure_ (i := 6) (N := some 83) (v := ?_) (a' := ?_) #[true, true, true, true, true, true, true, false, false, false, false, false, false, false, false, false, false, false, false, false] rfl rfl (by kernel_rfl) (fun _ _ _ h => h) (Or.inl ⟨by rfl, ?_⟩) ?_ ?_
      rotate_left
      · intro w'
        go_simp
        with_reducible rfl
      rotate_left
      · simp only [Act.put, List.setIfInBounds_toArray, List.set_cons_zero, List.set_cons_succ, i64_w, i32_w]
        rfl
      refine pure_ (i := 7) (N := some 84) (v := ?_) (a' := ?_) #[true, true, true, true, true, true, true, true, false, false, false, false, false, false, false, false, false, false, false, false] rfl rfl (by kernel_rfl) (fun _ _ _ h => h) (Or.inl ⟨by rfl, ?_⟩) ?_ ?_
      rotate_left
      · intro w'
        go_simp
        with_reducible rfl
      rotate_left
      · simp only [Act.put, List.setIfInBounds_toArray, List.set_cons_zero, List.set_cons_succ, i64_w, i32_w]
        rfl
      refine pure_ (i := 8) (N := some 85) (v := ?_) (a' := ?_) #[true, true, true, true, true, true, true, true, true, false, false, false, false, false, false, false, false, false, false, false] rfl rfl (by kernel_rfl) (fun _ _ _ h => h) (Or.inl ⟨by rfl, ?_⟩) ?_ ?_
      rotate_left
      · intro w'
        go_simp
        with_reducible rfl
      rotate_left
      · simp only [Act.put, List.setIfInBounds_toArray, List.set_cons_zero, List.set_cons_succ, i64_w, i32_w]
        rfl
      refine pure_ (i := 10) (N := some 87) (v := ?_) (a' := ?_) #[true, true, true, true, true, true, true, true, true, false, true, false, false, false, false, false, false, false, false, false] rfl rfl (by kernel_rfl) (fun _ _ _ h => h) (Or.inl ⟨by rfl, ?_⟩) ?_ ?_
      rotate_left
      · intro w'
        go_simp
        with_reducible rfl
      rotate_left
      · simp only [Act.put, List.setIfInBounds_toArray, List.set_cons_zero, List.set_cons_succ, i64_w, i32_w]
        rfl
      refine pure_ (i := 14) (N := some 91) (v := ?_) (a' := ?_) #[true, true, true, true, true, true, true, true, true, false, true, false, false, false, true, false, false, false, false, false] rfl rfl (by kernel_rfl) (fun _ _ _ h => h) (Or.inl ⟨by rfl, ?_⟩) ?_ ?_
      rotate_left
      · intro w'
        go_simp
        with_reducible rfl
      rotate_left
      · simp only [Act.put, List.setIfInBounds_toArray, List.set_cons_zero, List.set_cons_succ, i64_w, i32_w]
        rfl
      refine take_ (i := 9) (N := some 86) (v := ?_) (a' := ?_) #[true, true, true, true, true, true, true, true, true, true, true, false, false, false, true, false, false, false, false, false] rfl rfl (by kernel_rfl) (fun _ _ _ h => h) (Or.inl ⟨by rfl, ?_⟩) hHeld ?_ ?_
      rotate_left
      · rintro w' ⟨s0, s1, s2⟩
        refine exec_load_row 29 (.tmp 10) ?_ _ ?_ 29 (SV s) (0, 0) _ s0 Try.underlying29 rfl (info29 _) <;> rfl
      rotate_left
      · simp only [Act.put, List.setIfInBounds_toArray, List.set_cons_zero, List.set_cons_succ, i64_w, i32_w]
        rfl
      refine take_ (i := 11) (N := some 88) (v := ?_) (a' := ?_) #[true, true, true, true, true, true, true, true, true, true, true, true, false, false, true, false, false, false, false, false] rfl rfl (by kernel_rfl) (fun _ _ _ h => h) (Or.inl ⟨by rfl, ?_⟩) hHeld ?_ ?_
      rotate_left
      · rintro w' ⟨s0, s1, s2⟩
        go_simp
        with_reducible rfl
      rotate_left
      · simp only [Act.put, List.setIfInBounds_toArray, List.set_cons_zero, List.set_cons_succ, i64_w, i32_w]
        rfl
      refine take_ (i := 13) (N := some 90) (v := ?_) (a' := ?_) #[true, true, true, true, true, true, true, true, true, true, true, true, false, true, true, false, false, false, false, false] rfl rfl (by kernel_rfl) (fun _ _ _ h => h) (Or.inl ⟨by rfl, ?_⟩) hHeld ?_ ?_
      rotate_left
      · rintro w' ⟨s0, s1, s2⟩
        refine exec_load_row 32 (.tmp 5) ?_ _ ?_ 32 (#[.slice A1 uu.length c1]) (0, 0) _ s1 Try.underlying32 rfl (by kernel_rfl) <;> rfl
      rotate_left
      · simp only [Act.put, List.setIfInBounds_toArray, List.set_cons_zero, List.set_cons_succ, i64_w, i32_w]
        rfl
      refine take_ (i := 15) (N := some 92) (v := ?_) (a' := ?_) #[true, true, true, true, true, true, true, true, true, true, true, true, false, true, true, true, false, false, false, false] rfl rfl (by kernel_rfl) (fun _ _ _ h => h) (Or.inl ⟨by rfl, ?_⟩) hHeld ?_ ?_
      rotate_left
      · rintro w' ⟨s0, s1, s2⟩
        go_simp
        with_reducible rfl
      rotate_left
      · simp only [Act.put, List.setIfInBounds_toArray, List.set_cons_zero, List.set_cons_succ, i64_w, i32_w]
        rfl
      refine one_ (i := 12) (N := some 89) #[true, true, true, true, true, true, true, true, true, true, true, true, true, true, true, true, false, false, false, false] rfl rfl (by kernel_rfl) (by decide) (fun K hK => ?_)
      refine goes_ Try.func16 (by kernel_rfl) rfl #[.agg (SV s), .int .u64 pk] (by rfl) rfl rfl (by simp only [List.map_toArray, List.map_cons, List.map_nil]; rfl) ?_
      with_reducible refine (without_T s pk _ Xhs.out).mono ?_
      rintro e_ w12 ⟨rfl, hb⟩
      refine ⟨_, rfl, ?_⟩
      have P_921 := Aside0.mk (blk_below P_916.out hb)
      have U_922 := Aside0.mk (blk_below U_917.out hb)
      have S_923 := Aside0.mk (blk_below S_918.out hb)
      have R_924 := Aside0.mk (Kd.R_below R_919.out hb)
      have B925 := Aside0.mk (below_step B920.out hb)
      clear hb P_916 U_917 S_918 R_919 B920
      refine hK.out _ _ ⟨S_923.out, U_922.out, (blk_cell P_921.out 0).trans rfl⟩ (fun hHeld => ?_)
      clear hK K
      refine norm_ (a' := ?_) ?_ ?_
      rotate_left
      · show Act.put _ (some 89) _ = _
        simp only [Act.put, List.setIfInBounds_toArray, List.set_cons_zero, List.set_cons_succ, i64_w, i32_w]
        rfl
      refine one_ (i := 16) (N := some 93) #[true, true, true, true, true, true, true, true, true, true, true, true, true, true, true, true, true, false, false, false] rfl rfl (by kernel_rfl) (by decide) (fun K hK => ?_)
      refine goes_ Try.func20 (by kernel_rfl) rfl #[.agg #[.slice A1 uu.length c1], .int .u64 pk] (by rfl) rfl rfl (by simp only [List.map_toArray, List.map_cons, List.map_nil]; rfl) ?_
      with_reducible refine (revenantref21_State_Without.calls k2 A1 c1 uu pk (flt uu pk) _ (R_C57 R_924.out) HL.out.2 XhW0.out).mono ?_
      rintro e_ w13 ⟨v0, rfl, hR, hb⟩
      obtain ⟨A2, c2, rfl, hc2, -⟩ := Kd.R_reads hR
      refine ⟨_, rfl, ?_⟩
      have P_926 := Aside0.mk (blk_below P_921.out hb)
      have U_927 := Aside0.mk (blk_below U_922.out hb)
      have S_928 := Aside0.mk (blk_below S_923.out hb)
      have R_929 := Aside0.mk (Kd.R_below R_924.out hb)
      have HC2 := Aside0.mk hc2
      have R2_950 := Aside0.mk (Kd.R_lower hR (B925.out).size)
      clear hR hc2
      have B930 := Aside0.mk (below_step B925.out hb)
      clear hb P_921 U_922 S_923 R_924 B925
      refine hK.out _ _ ⟨S_928.out, U_927.out, (blk_cell P_926.out 0).trans rfl⟩ (fun hHeld => ?_)
      clear hK K
      refine norm_ (a' := ?_) ?_ ?_
      rotate_left
      · show Act.put _ (some 93) _ = _
        simp only [Act.put, List.setIfInBounds_toArray, List.set_cons_zero, List.set_cons_succ, i64_w, i32_w]
        rfl
      refine one_ (i := 17) (N := some 94) #[true, true, true, true, true, true, true, true, true, true, true, true, true, true, true, true, true, true, false, false] rfl rfl (by kernel_rfl) (by decide) (fun K hK => ?_)
      refine goes_ Try.func13 (by kernel_rfl) rfl #[.agg (SV (withoutV s pk)), .agg #[.slice A2 (flt uu pk).length c2]] (by rfl) rfl rfl (by simp only [List.map_toArray, List.map_cons, List.map_nil]; rfl) ?_
      with_reducible refine (alike_T (withoutV s pk) A2 c2 (flt uu pk) k3 _ Xhw1.out (R_C57 R2_950.out) HC2.out XhS2.out).mono ?_
      rintro e_ w14 ⟨rfl, hb⟩
      refine ⟨_, rfl, ?_⟩
      have P_931 := Aside0.mk (blk_below P_926.out hb)
      have U_932 := Aside0.mk (blk_below U_927.out hb)
      have S_933 := Aside0.mk (blk_below S_928.out hb)
      have R_934 := Aside0.mk (Kd.R_below R_929.out hb)
      have R2_935 := Aside0.mk (Kd.R_below R2_950.out hb)
      have B936 := Aside0.mk (below_step B930.out hb)
      clear hb P_926 U_927 S_928 R_929 R2_950 B930
      refine hK.out _ _ ⟨S_933.out, U_932.out, (blk_cell P_931.out 0).trans rfl⟩ (fun hHeld => ?_)
      clear hK K
      refine norm_ (a' := ?_) ?_ ?_
      rotate_left
      · show Act.put _ (some 94) _ = _
        simp only [Act.put, List.setIfInBounds_toArray, List.set_cons_zero, List.set_cons_succ, i64_w, i32_w]
        rfl
      refine pure_ (i := 18) (N := some 95) (v := ?_) (a' := ?_) #[true, true, true, true, true, true, true, true, true, true, true, true, true, true, true, true, true, true, true, false] rfl rfl (by kernel_rfl) (fun _ _ _ h => h) (Or.inl ⟨by rfl, ?_⟩) ?_ ?_
      rotate_left
      · intro w'
        go_simp
        with_reducible rfl
      rotate_left
      · simp only [Act.put, List.setIfInBounds_toArray, List.set_cons_zero, List.set_cons_succ, i64_w, i32_w]
        rfl
      refine pure_ (i := 19) (N := some 96) (v := ?_) (a' := ?_) #[true, true, true, true, true, true, true, true, true, true, true, true, true, true, true, true, true, true, true, true] rfl rfl (by kernel_rfl) (fun _ _ _ h => h) (Or.inl ⟨by rfl, ?_⟩) ?_ ?_
      rotate_left
      · intro w'
        go_simp
        with_reducible rfl
      rotate_left
      · simp only [Act.put, List.setIfInBounds_toArray, List.set_cons_zero, List.set_cons_succ, i64_w, i32_w]
        rfl
      refine done_ (by kernel_rfl) ?_
      go_wp2_with (first
        | (refine wpList_load_row_g (by rfl) 29 (.tmp 10) rfl (w10.heap.size) rfl 29 (SV s) (0, 0) _ S_933.out Try.underlying29 rfl (info29 _) ?_)
        | (refine wpList_load_row_g (by rfl) 26 (.tmp 3) rfl (w.heap.size) rfl 26 (#[.int .u64 pk, .int .u64 pv]) (0, 0) _ P_931.out Try.underlying26 rfl (by kernel_rfl) ?_))
      refine (with_T s ⟨pk, pv⟩ _ Xhs.out).mono ?_
      rintro e_ w15 ⟨rfl, hb⟩
      rw [Xhwi.out]
      have P_937 := Aside0.mk (blk_below P_931.out hb)
      have U_938 := Aside0.mk (blk_below U_932.out hb)
      have S_939 := Aside0.mk (blk_below S_933.out hb)
      have R_940 := Aside0.mk (Kd.R_below R_934.out hb)
      have R2_941 := Aside0.mk (Kd.R_below R2_935.out hb)
      have B942 := Aside0.mk (below_step B936.out hb)
      clear hb P_931 U_932 S_933 R_934 R2_935 B936
      have L_T := Aside0.mk (show w.heap.size ≤ w15.heap.size from B942.out.size)
      have NE_P_T := Aside0.mk (show w.heap.size ≠ w15.heap.size by have := blk_lt P_937.out; omega)
      have NE_U_T := Aside0.mk (show w2.heap.size ≠ w15.heap.size by have := blk_lt U_938.out; omega)
      have NE_S_T := Aside0.mk (show w10.heap.size ≠ w15.heap.size by have := blk_lt S_939.out; omega)
      have P_943 := Aside0.mk (blk_alloc P_937.out (.cells #[.int .i64 0, .int .u64 0, .int .u64 0, .int .u64 0, .int .u64 0, .int .u64 0, .int .u64 0, .int .u64 0, .int .u64 0, .int .u64 0, .int .u64 0, .int .u64 0, .int .u64 0, .int .u64 0, .int .u64 0, .int .u64 0, .int .u64 0, .int .u64 0, .int .u64 0, .int .u64 0, .int .u64 0, .int .u64 0, .int .u64 0, .int .u64 0, .int .u64 0, .int .u64 0, .int .u64 0, .int .u64 0, .int .u64 0, .int .u64 0, .int .u64 0, .int .u64 0, .int .u64 0] 29))
      have U_944 := Aside0.mk (blk_alloc U_938.out (.cells #[.int .i64 0, .int .u64 0, .int .u64 0, .int .u64 0, .int .u64 0, .int .u64 0, .int .u64 0, .int .u64 0, .int .u64 0, .int .u64 0, .int .u64 0, .int .u64 0, .int .u64 0, .int .u64 0, .int .u64 0, .int .u64 0, .int .u64 0, .int .u64 0, .int .u64 0, .int .u64 0, .int .u64 0, .int .u64 0, .int .u64 0, .int .u64 0, .int .u64 0, .int .u64 0, .int .u64 0, .int .u64 0, .int .u64 0, .int .u64 0, .int .u64 0, .int .u64 0, .int .u64 0] 29))
      have S_945 := Aside0.mk (blk_alloc S_939.out (.cells #[.int .i64 0, .int .u64 0, .int .u64 0, .int .u64 0, .int .u64 0, .int .u64 0, .int .u64 0, .int .u64 0, .int .u64 0, .int .u64 0, .int .u64 0, .int .u64 0, .int .u64 0, .int .u64 0, .int .u64 0, .int .u64 0, .int .u64 0, .int .u64 0, .int .u64 0, .int .u64 0, .int .u64 0, .int .u64 0, .int .u64 0, .int .u64 0, .int .u64 0, .int .u64 0, .int .u64 0, .int .u64 0, .int .u64 0, .int .u64 0, .int .u64 0, .int .u64 0, .int .u64 0] 29))
      have T_946 := Aside0.mk (blk_new (w15) (.cells #[.int .i64 0, .int .u64 0, .int .u64 0, .int .u64 0, .int .u64 0, .int .u64 0, .int .u64 0, .int .u64 0, .int .u64 0, .int .u64 0, .int .u64 0, .int .u64 0, .int .u64 0, .int .u64 0, .int .u64 0, .int .u64 0, .int .u64 0, .int .u64 0, .int .u64 0, .int .u64 0, .int .u64 0, .int .u64 0, .int .u64 0, .int .u64 0, .int .u64 0, .int .u64 0, .int .u64 0, .int .u64 0, .int .u64 0, .int .u64 0, .int .u64 0, .int .u64 0, .int .u64 0] 29))
      have B947 := Aside0.mk (below_alloc B942.out (.cells #[.int .i64 0, .int .u64 0, .int .u64 0, .int .u64 0, .int .u64 0, .int .u64 0, .int .u64 0, .int .u64 0, .int .u64 0, .int .u64 0, .int .u64 0, .int .u64 0, .int .u64 0, .int .u64 0, .int .u64 0, .int .u64 0, .int .u64 0, .int .u64 0, .int .u64 0, .int .u64 0, .int .u64 0, .int .u64 0, .int .u64 0, .int .u64 0, .int .u64 0, .int .u64 0, .int .u64 0, .int .u64 0, .int .u64 0, .int .u64 0, .int .u64 0, .int .u64 0, .int .u64 0] 29))
      clear P_937 U_938 S_939 B942
      have R_948 := Aside0.mk (Kd.R_alloc (R_940.out) (.cells #[.int .i64 0, .int .u64 0, .int .u64 0, .int .u64 0, .int .u64 0, .int .u64 0, .int .u64 0, .int .u64 0, .int .u64 0, .int .u64 0, .int .u64 0, .int .u64 0, .int .u64 0, .int .u64 0, .int .u64 0, .int .u64 0, .int .u64 0, .int .u64 0, .int .u64 0, .int .u64 0, .int .u64 0, .int .u64 0, .int .u64 0, .int .u64 0, .int .u64 0, .int .u64 0, .int .u64 0, .int .u64 0, .int .u64 0, .int .u64 0, .int .u64 0, .int .u64 0, .int .u64 0] 29))
      have R2_949 := Aside0.mk (Kd.R_alloc (R2_941.out) (.cells #[.int .i64 0, .int .u64 0, .int .u64 0, .int .u64 0, .int .u64 0, .int .u64 0, .int .u64 0, .int .u64 0, .int .u64 0, .int .u64 0, .int .u64 0, .int .u64 0, .int .u64 0, .int .u64 0, .int .u64 0, .int .u64 0, .int .u64 0, .int .u64 0, .int .u64 0, .int .u64 0, .int .u64 0, .int .u64 0, .int .u64 0, .int .u64 0, .int .u64 0, .int .u64 0, .int .u64 0, .int .u64 0, .int .u64 0, .int .u64 0, .int .u64 0, .int .u64 0, .int .u64 0] 29))
      clear R_940 R2_941
      go_wp2_with (first
        | (refine store_whole (w := w) (B := w.heap.size) rfl rfl 29 (.tmp 12) (.tmp 101) rfl (g := w15.heap.size) (cs := SV []) rfl _ rfl rfl (stot _) (SV_one _) T_946.out (by first | (rw [SV_size]; done) | (rw [SV_size, SV_size]; done) | (rw [SV_size]; rfl)) L_T.out B947.out ?_; intro w_950 h1 h2 h3 h4; have R_951 := Aside0.mk (row_far R_948.out T_946.out (by decide) h3); have R2_952 := Aside0.mk (row_far R2_949.out T_946.out (by decide) h3); have P_953 := Aside0.mk ((h3 _ NE_P_T.out).trans P_943.out); have U_954 := Aside0.mk ((h3 _ NE_U_T.out).trans U_944.out); have S_955 := Aside0.mk ((h3 _ NE_S_T.out).trans S_945.out); have T_956 := Aside0.mk (h1); have B957 := Aside0.mk (h2); clear h1 h2 h3 h4 R_948 R2_949 P_943 U_944 S_945 T_946 B947; have a0 : w_950.cell? ⟨w.heap.size, 0, none⟩ = some (.int .u64 pk) := (blk_cell P_953.out 0).trans rfl; have a1 : w_950.cell? ⟨w.heap.size, 1, none⟩ = some (.int .u64 pv) := (blk_cell P_953.out 1).trans rfl)
        | (refine wpList_load_row_g (by rfl) 32 (.tmp 5) rfl (w2.heap.size) rfl 32 (#[.slice A1 uu.length c1]) (0, 0) _ U_954.out Try.underlying32 rfl (by kernel_rfl) ?_))
      refine (revenantref21_State_With.calls k4 A1 c1 uu pk pv vv _ (R_C57 R_951.out) HL.out.2 XhV.out).mono ?_
      rintro e_ w16 ⟨v0, rfl, hR, hb⟩
      obtain ⟨A3, c3, rfl, hc3, -⟩ := Kd.R_reads hR
      have HC3 := Aside0.mk hc3
      have R3_960 := Aside0.mk (Kd.R_lower hR (B957.out).size)
      clear hR hc3
      have P_958 := Aside0.mk (blk_below P_953.out hb)
      have U_959 := Aside0.mk (blk_below U_954.out hb)
      have S_960 := Aside0.mk (blk_below S_955.out hb)
      have T_961 := Aside0.mk (blk_below T_956.out hb)
      have B962 := Aside0.mk (below_step B957.out hb)
      clear hb B957 P_953 U_954 S_955 T_956 R_951 R2_952
      have L_V := Aside0.mk (show w.heap.size ≤ w16.heap.size from B962.out.size)
      have NE_P_V := Aside0.mk (show w.heap.size ≠ w16.heap.size by have := blk_lt P_958.out; omega)
      have NE_U_V := Aside0.mk (show w2.heap.size ≠ w16.heap.size by have := blk_lt U_959.out; omega)
      have NE_S_V := Aside0.mk (show w10.heap.size ≠ w16.heap.size by have := blk_lt S_960.out; omega)
      have NE_T_V := Aside0.mk (show w15.heap.size ≠ w16.heap.size by have := blk_lt T_961.out; omega)
      have P_963 := Aside0.mk (blk_alloc P_958.out (.cells #[.slice none 0 0] 32))
      have U_964 := Aside0.mk (blk_alloc U_959.out (.cells #[.slice none 0 0] 32))
      have S_965 := Aside0.mk (blk_alloc S_960.out (.cells #[.slice none 0 0] 32))
      have T_966 := Aside0.mk (blk_alloc T_961.out (.cells #[.slice none 0 0] 32))
      have V_967 := Aside0.mk (blk_new (w16) (.cells #[.slice none 0 0] 32))
      have B968 := Aside0.mk (below_alloc B962.out (.cells #[.slice none 0 0] 32))
      clear P_958 U_959 S_960 T_961 B962
      have R3_969 := Aside0.mk (Kd.R_alloc (R3_960.out) (.cells #[.slice none 0 0] 32))
      clear R3_960
      have t5 : decide ((16 : Int) < (vv.length : Int)) = true := decide_eq_true (by have := Xhvv.out; omega)
      have t6 := eq_true (show (16 : Int) < (vv.length : Int) by have := Xhvv.out; omega)
      go_wp2_with (first
        | (refine store_whole (w := w) (B := w.heap.size) rfl rfl 32 (.tmp 14) (.tmp 109) rfl (g := w16.heap.size) (cs := #[.slice A3 vv.length c3]) rfl _ rfl rfl (by kernel_rfl) (by simp [Value.oneCell']) V_967.out (rfl) L_V.out B968.out ?_; intro w_970 h1 h2 h3 h4; have R3_971 := Aside0.mk (row_far R3_969.out V_967.out (by decide) h3); have P_972 := Aside0.mk ((h3 _ NE_P_V.out).trans P_963.out); have U_973 := Aside0.mk ((h3 _ NE_U_V.out).trans U_964.out); have S_974 := Aside0.mk ((h3 _ NE_S_V.out).trans S_965.out); have T_975 := Aside0.mk ((h3 _ NE_T_V.out).trans T_966.out); have V_976 := Aside0.mk (h1); have B977 := Aside0.mk (h2); clear h1 h2 h3 h4 R3_969 P_963 U_964 S_965 T_966 V_967 B968; have vc : w_970.cell? ⟨w16.heap.size, 0, none⟩ = some (.slice A3 vv.length c3) := (blk_cell V_976.out 0).trans rfl)
        | (refine wpList_load_row_g (by rfl) 29 (.tmp 12) rfl (w15.heap.size) rfl 29 (SV []) (0, 0) _ T_975.out Try.underlying29 rfl (info29 _) ?_)
        | (refine wpList_value_g (by rfl) (exec_eq29s (.tmp 117) (.tmp 118) rfl [] rfl rfl (by decide)) ?_))
      go_ret
      exact ⟨rfl, B977.out⟩
set_option maxHeartbeats 16000000 in
set_option maxRecDepth 100000 in
theorem pairs_ok (A : Option Addr) (c : Nat) (l : List S26) (pk pv : Int) (s : List S26) (uu vv : List S57) (k1 k2 k3 k4 : Nat) (t : List S26) (w : World) (hC : Kd.C k26 w A l.length l) (hcc : l.length ≤ c) (hg : l.length ≤ 40) (ht : stl l = (uu, false)) (hf : l.length ≤ 16) (hnw : newV l = (s, 0)) (hs : s.length ≤ 16) (huu : uu.length ≤ 16) (hw1 : (withoutV s pk).length ≤ 16) (hS : revenantref21_State_Sorted.f k1 uu = some (s.map c57)) (hW0 : revenantref21_State_Without.f k2 uu pk = some (flt uu pk)) (hS2 : revenantref21_State_Sorted.f k3 (flt uu pk) = some ((withoutV s pk).map c57)) (hV : revenantref21_State_With.f k4 uu pk pv = some vv) (hwi : withV s ⟨pk, pv⟩ = (t, 0)) (hvv : vv.length ≤ 16) (k5 : Nat) (htl : t.length ≤ 16) (hS3 : revenantref21_State_Sorted.f k5 vv = some (t.map c57)) :
    Calls Try.prog 7 #[.slice A l.length c, .agg #[.int .u64 pk, .int .u64 pv]] w fun e w' => e = .returned (.bool true) ∧ Below w.heap.size w w' := by
  have hu26 := Try.underlying26
  have hu29 := Try.underlying29
  have hu32 := Try.underlying32
  have HC := Aside0.mk hC
  have HCC := Aside0.mk hcc
  have HG := Aside0.mk hg
  clear hC hcc hg
  have Xht := Aside0.mk ht
  clear ht
  have Xhf := Aside0.mk hf
  clear hf
  have Xhnw := Aside0.mk hnw
  clear hnw
  have Xhs := Aside0.mk hs
  clear hs
  have Xhuu := Aside0.mk huu
  clear huu
  have Xhw1 := Aside0.mk hw1
  clear hw1
  have XhS := Aside0.mk hS
  clear hS
  have XhW0 := Aside0.mk hW0
  clear hW0
  have XhS2 := Aside0.mk hS2
  clear hS2
  have XhV := Aside0.mk hV
  clear hV
  have Xhwi := Aside0.mk hwi
  clear hwi
  have Xhvv := Aside0.mk hvv
  clear hvv
  have Xhtl := Aside0.mk htl
  clear htl
  have XhS3 := Aside0.mk hS3
  clear hS3
  have L_P := Aside0.mk (show w.heap.size ≤ w.heap.size from Nat.le_refl _)
  have P_1 := Aside0.mk (blk_new (w) (.cells (#[.int .u64 pk, .int .u64 pv]) 26))
  have B2 := Aside0.mk (below_alloc (Below.refl w.heap.size w) (.cells (#[.int .u64 pk, .int .u64 pv]) 26))
  go_enter Try.func7, Try.ntmps7
  go_wp2_with fail
  refine (awake_T _).mono ?_
  rintro e_ w2 ⟨rfl, hb⟩
  have P_3 := Aside0.mk (blk_below P_1.out hb)
  have B4 := Aside0.mk (below_step B2.out hb)
  clear hb P_1 B2
  have t1 : decide ((40 : Int) < (l.length : Int)) = false := decide_eq_false (by have := HG.out; omega)
  have t2 := eq_false (show ¬ (40 : Int) < (l.length : Int) by have := HG.out; omega)
  have L_U := Aside0.mk (show w.heap.size ≤ w2.heap.size from B4.out.size)
  have NE_P_U := Aside0.mk (show w.heap.size ≠ w2.heap.size by have := blk_lt P_3.out; omega)
  have P_5 := Aside0.mk (blk_alloc P_3.out (.cells #[.slice none 0 0] 32))
  have U_6 := Aside0.mk (blk_new (w2) (.cells #[.slice none 0 0] 32))
  have B7 := Aside0.mk (below_alloc B4.out (.cells #[.slice none 0 0] 32))
  clear P_3 B4
  go_wp2_with (first
    | (refine store_whole (w := w) (B := w.heap.size) rfl rfl 32 (.tmp 5) (.tmp 20) rfl (g := w2.heap.size) (cs := #[.slice none 0 0]) rfl _ rfl rfl (by kernel_rfl) (by simp [Value.oneCell']) U_6.out (rfl) L_U.out B7.out ?_; intro w_8 h1 h2 h3 h4; have P_9 := Aside0.mk ((h3 _ NE_P_U.out).trans P_5.out); have U_10 := Aside0.mk (h1); have B11 := Aside0.mk (h2); clear h1 h2 h3 h4 P_5 U_6 B7))
  have R_12 := Aside0.mk (Kd.R_nil k57 57 w_8 w.heap.size (fun _ => True))
  go_loopg [6, 7] l.length (fun kq v6 v7 w' => ∃ (i : Int) (tw : Bool) (u : List S57) (A1 : Option Addr) (c1 : Nat), v6 = .bool tw ∧ v7 = .int .i64 i ∧ Aside0 (0 ≤ i ∧ i + kq = l.length) ∧ Aside0 (stl (l.take i.toNat) = (u, tw)) ∧ Aside0 (u.length ≤ i.toNat ∧ u.length ≤ c1) ∧ Aside0 (Below w.heap.size w w') ∧ Aside0 (w'.heap[w.heap.size]? = some (.cells #[.int .u64 pk, .int .u64 pv] 26 (0, 0))) ∧ Aside0 (w'.heap[w2.heap.size]? = some (.cells #[.slice A1 u.length c1] 32 (0, 0))) ∧ Aside0 (Kd.R k57 57 w' w.heap.size (fun _ => True) (.slice A1 u.length c1) u))
  case atStart => exact ⟨0, false, [], none, 0, rfl, rfl, ⟨by omega⟩, ⟨rfl⟩, ⟨Nat.le_refl _, Nat.le_refl _⟩, ⟨B11.out⟩, ⟨P_9.out⟩, ⟨U_10.out⟩, ⟨R_12.out⟩⟩
  case round =>
    obtain ⟨i, tw, u, A1, c1, rfl, rfl, HK, HT, HL, B900, P_900, U_900, R_900⟩ := hrel
    clear B11 P_9 U_10 R_12
    by_cases hi : i < (l.length : Int)
    · have d1 : decide (i < (l.length : Int)) = true := decide_eq_true hi
      have p0 : (0 : Int) ≤ i := HK.out.1
      have q0 : i < (l.length : Int) := hi
      have q1 := Aside0.mk (show 0 ≤ i ∧ i < (l.length : Int) from ⟨p0, hi⟩)
      obtain ⟨ko, rfl⟩ : ∃ m, gk = m + 1 := ⟨gk - 1, by have := HK.out; omega⟩
      obtain ⟨ad, e0, hx0, hx1⟩ := k26_cells HC.out i p0 hi
      subst e0
      have HTT := Aside0.mk (stl_take l i.toNat (by omega))
      rw [HT.out] at HTT
      generalize l.getD i.toNat ⟨0, 0⟩ = p at hx0 hx1 HTT
      obtain ⟨y, z⟩ := p
      have X0 := Aside0.mk (show w.cell? (ad.add (i.toNat * 2)) = some (.int .u64 y) from hx0)
      have X1 := Aside0.mk (show w.cell? ⟨(ad.add (i.toNat * 2)).block, (ad.add (i.toNat * 2)).off + 1, none⟩ = some (.int .u64 z) from hx1)
      clear hx0 hx1 hi
      obtain ⟨gv, is_, hgu⟩ : ∃ g b, getU u y = (g, b) := ⟨_, _, rfl⟩
      obtain ⟨KG, hKG⟩ := get_some u y (by have := HL.out; have := HG.out; have := q1.out; omega)
      rw [hgu] at hKG
      have HKG := Aside0.mk hKG
      obtain ⟨KW, hKW⟩ := with_some u y z (by have := HL.out; have := HG.out; have := q1.out; omega)
      have hfl := flt_len u y
      have HTU : Aside0 (st (u, tw) ⟨y, z⟩ = (flt u y ++ [(⟨y, z⟩ : S57)], tw || is_)) := ⟨by unfold st; rw [hgu]; rfl⟩
      have HFL : Aside0 ((flt u y ++ [(⟨y, z⟩ : S57)]).length ≤ u.length + 1) := ⟨by simp; omega⟩
      generalize flt u y ++ [(⟨y, z⟩ : S57)] = u2 at hKW HTU HFL
      have HKW := Aside0.mk hKW
      clear hKW hKG hgu hfl
      have p0b : decide (0 ≤ i) = true := decide_eq_true p0
      have wi : wrap64 (i + 1) = i + 1 := by have := q1.out; have := HG.out; unfold wrap64; omega
      replace p0 := eq_true p0
      replace q0 := eq_true q0
      go_wp2_with fail
      refine start_ (n := 12) (S := fun w' => w'.heap[w2.heap.size]? = some (.cells (#[.slice A1 u.length c1]) 32 (0, 0)) ∧ w'.cell? (ad.add (i.toNat * 2)) = some (.int .u64 y)) (ds := []) #[false, false, false, false, false, false, false, false, false, false, false, false] (by kernel_rfl) rfl rfl ⟨blk_drew U_900.out, ((below_drew B900.out).cell (World.block_lt_of_cell? w _ X0.out)).trans X0.out⟩ (fun hHeld => ?_)
      refine pure_ (i := 1) (N := some 29) (v := ?_) (a' := ?_) #[false, true, false, false, false, false, false, false, false, false, false, false] rfl rfl (by kernel_rfl) (fun _ _ _ h => h) (Or.inl ⟨by rfl, ?_⟩) ?_ ?_
      rotate_left
      · intro w'
        go_simp
        with_reducible rfl
      rotate_left
      · simp only [Act.put, List.setIfInBounds_toArray, List.set_cons_zero, List.set_cons_succ, i64_w, i32_w]
        rfl
      refine pure_ (i := 2) (N := some 30) (v := ?_) (a' := ?_) #[false, true, true, false, false, false, false, false, false, false, false, false] rfl rfl (by kernel_rfl) (fun _ _ _ h => h) (Or.inl ⟨by rfl, ?_⟩) ?_ ?_
      rotate_left
      · intro w'
        go_simp
        with_reducible rfl
      rotate_left
      · simp only [Act.put, List.setIfInBounds_toArray, List.set_cons_zero, List.set_cons_succ, i64_w, i32_w]
        rfl
      refine pure_ (i := 3) (N := some 31) (v := ?_) (a' := ?_) #[false, true, true, true, false, false, false, false, false, false, false, false] rfl rfl (by kernel_rfl) (fun _ _ _ h => h) (Or.inl ⟨by rfl, ?_⟩) ?_ ?_
      rotate_left
      · intro w'
        go_simp
        with_reducible rfl
      rotate_left
      · simp only [Act.put, List.setIfInBounds_toArray, List.set_cons_zero, List.set_cons_succ, i64_w, i32_w]
        rfl
      refine pure_ (i := 4) (N := some 32) (v := ?_) (a' := ?_) #[false, true, true, true, true, false, false, false, false, false, false, false] rfl rfl (by kernel_rfl) (fun _ _ _ h => h) (Or.inl ⟨by rfl, ?_⟩) ?_ ?_
      rotate_left
      · intro w'
        go_simp
        with_reducible rfl
      rotate_left
      · simp only [Act.put, List.setIfInBounds_toArray, List.set_cons_zero, List.set_cons_succ, i64_w, i32_w]
        rfl
      refine take_ (i := 0) (N := some 28) (v := ?_) (a' := ?_) #[true, true, true, true, true, false, false, false, false, false, false, false] rfl rfl (by kernel_rfl) (fun _ _ _ h => h) (Or.inl ⟨by rfl, ?_⟩) hHeld ?_ ?_
      rotate_left
      · rintro w' ⟨s0, s1⟩
        refine exec_load_row 32 (.tmp 5) ?_ _ ?_ 32 (#[.slice A1 u.length c1]) (0, 0) _ s0 Try.underlying32 rfl (by kernel_rfl) <;> rfl
      rotate_left
      · simp only [Act.put, List.setIfInBounds_toArray, List.set_cons_zero, List.set_cons_succ, i64_w, i32_w]
        rfl
      refine take_ (i := 5) (N := some 33) (v := ?_) (a' := ?_) #[true, true, true, true, true, true, false, false, false, false, false, false] rfl rfl (by kernel_rfl) (fun _ _ _ h => h) (Or.inl ⟨by rfl, ?_⟩) hHeld ?_ ?_
      rotate_left
      · rintro w' ⟨s0, s1⟩
        go_simp
        with_reducible rfl
      rotate_left
      · simp only [Act.put, List.setIfInBounds_toArray, List.set_cons_zero, List.set_cons_succ, i64_w, i32_w]
        rfl
      refine one_ (i := 6) (N := some 34) #[true, true, true, true, true, true, true, false, false, false, false, false] rfl rfl (by kernel_rfl) (by decide) (fun K hK => ?_)
      refine goes_ Try.func12 (by kernel_rfl) rfl #[.agg #[.slice A1 u.length c1], .int .u64 y] (by rfl) rfl rfl (by simp only [List.map_toArray, List.map_cons, List.map_nil]; rfl) ?_
      with_reducible refine (revenantref21_State_Get.calls KG A1 c1 u y gv is_ _ (Kd.C_below (R_C57 R_900.out) (below_drew (Below.refl _ _))) HL.out.2 HKG.out).mono ?_
      rintro e_ w6 ⟨rfl, hb⟩
      refine ⟨_, rfl, ?_⟩
      have P_901 := Aside0.mk (blk_below (blk_drew P_900.out) hb)
      have U_902 := Aside0.mk (blk_below (blk_drew U_900.out) hb)
      have R_903 := Aside0.mk (Kd.R_below (Kd.R_drew R_900.out) hb)
      have B904 := Aside0.mk (below_step (below_drew B900.out) hb)
      clear hb P_900 U_900 R_900 B900
      refine hK.out _ _ ⟨U_902.out, (B904.out.cell (World.block_lt_of_cell? w _ X0.out)).trans X0.out⟩ (fun hHeld => ?_)
      clear hK K
      refine norm_ (a' := ?_) ?_ ?_
      rotate_left
      · show Act.put _ (some 34) _ = _
        simp only [Act.put, List.setIfInBounds_toArray, List.set_cons_zero, List.set_cons_succ, i64_w, i32_w]
        rfl
      refine pure_ (i := 7) (N := some 27) (v := ?_) (a' := ?_) #[true, true, true, true, true, true, true, true, false, false, false, false] rfl rfl (by kernel_rfl) (fun _ _ _ h => h) (Or.inl ⟨by rfl, ?_⟩) ?_ ?_
      rotate_left
      · intro w'
        go_simp
        with_reducible rfl
      rotate_left
      · simp only [Act.put, List.setIfInBounds_toArray, List.set_cons_zero, List.set_cons_succ, i64_w, i32_w]
        rfl
      refine pure_ (i := 8) (N := some 35) (v := ?_) (a' := ?_) #[true, true, true, true, true, true, true, true, true, false, false, false] rfl rfl (by kernel_rfl) (fun _ _ _ h => h) (Or.inl ⟨by rfl, ?_⟩) ?_ ?_
      rotate_left
      · intro w'
        go_simp
        with_reducible rfl
      rotate_left
      · simp only [Act.put, List.setIfInBounds_toArray, List.set_cons_zero, List.set_cons_succ, i64_w, i32_w]
        rfl
      refine pure_ (i := 9) (N := some 36) (v := ?_) (a' := ?_) #[true, true, true, true, true, true, true, true, true, true, false, false] rfl rfl (by kernel_rfl) (fun _ _ _ h => h) (Or.inl ⟨by rfl, ?_⟩) ?_ ?_
      rotate_left
      · intro w'
        go_simp
        with_reducible rfl
      rotate_left
      · simp only [Act.put, List.setIfInBounds_toArray, List.set_cons_zero, List.set_cons_succ, i64_w, i32_w]
        rfl
      refine pure_ (i := 10) (N := some 8) (v := ?_) (a' := ?_) #[true, true, true, true, true, true, true, true, true, true, true, false] rfl rfl (by kernel_rfl) (fun _ _ _ h => h) (Or.inl ⟨by rfl, ?_⟩) ?_ ?_
      rotate_left
      · intro w'
        go_simp
        with_reducible rfl
      rotate_left
      · simp only [Act.put, List.setIfInBounds_toArray, List.set_cons_zero, List.set_cons_succ, i64_w, i32_w]
        rfl
      refine pure_ (i := 11) (N := some 9) (v := ?_) (a' := ?_) #[true, true, true, true, true, true, true, true, true, true, true, true] rfl rfl (by kernel_rfl) (fun _ _ _ h => h) (Or.inl ⟨by rfl, ?_⟩) ?_ ?_
      rotate_left
      · intro w'
        go_simp
        with_reducible rfl
      rotate_left
      · simp only [Act.put, List.setIfInBounds_toArray, List.set_cons_zero, List.set_cons_succ, i64_w, i32_w]
        rfl
      refine done_ (by kernel_rfl) ?_
      cases tw
      · go_wp2_with fail
        refine start_ (n := 14) (S := fun w' => w'.heap[w2.heap.size]? = some (.cells (#[.slice A1 u.length c1]) 32 (0, 0)) ∧ w'.cell? (ad.add (i.toNat * 2)) = some (.int .u64 y) ∧ w'.cell? ⟨(ad.add (i.toNat * 2)).block, (ad.add (i.toNat * 2)).off + 1, none⟩ = some (.int .u64 z)) (ds := [13]) #[false, false, false, false, false, false, false, false, false, false, false, false, false, false] (by kernel_rfl) rfl rfl ⟨blk_drew U_902.out, ((below_drew B904.out).cell (World.block_lt_of_cell? w _ X0.out)).trans X0.out, ((below_drew B904.out).cell (World.block_lt_of_cell? w _ X1.out)).trans X1.out⟩ (fun hHeld => ?_)
        refine pure_ (i := 1) (N := some 42) (v := ?_) (a' := ?_) #[false, true, false, false, false, false, false, false, false, false, false, false, false, false] rfl rfl (by kernel_rfl) (fun _ _ _ h => h) (Or.inl ⟨by rfl, ?_⟩) ?_ ?_
        rotate_left
        · intro w'
          go_simp
          with_reducible rfl
        rotate_left
        · simp only [Act.put, List.setIfInBounds_toArray, List.set_cons_zero, List.set_cons_succ, i64_w, i32_w]
          rfl
        refine pure_ (i := 2) (N := some 43) (v := ?_) (a' := ?_) #[false, true, true, false, false, false, false, false, false, false, false, false, false, false] rfl rfl (by kernel_rfl) (fun _ _ _ h => h) (Or.inl ⟨by rfl, ?_⟩) ?_ ?_
        rotate_left
        · intro w'
          go_simp
          with_reducible rfl
        rotate_left
        · simp only [Act.put, List.setIfInBounds_toArray, List.set_cons_zero, List.set_cons_succ, i64_w, i32_w]
          rfl
        refine pure_ (i := 3) (N := some 44) (v := ?_) (a' := ?_) #[false, true, true, true, false, false, false, false, false, false, false, false, false, false] rfl rfl (by kernel_rfl) (fun _ _ _ h => h) (Or.inl ⟨by rfl, ?_⟩) ?_ ?_
        rotate_left
        · intro w'
          go_simp
          with_reducible rfl
        rotate_left
        · simp only [Act.put, List.setIfInBounds_toArray, List.set_cons_zero, List.set_cons_succ, i64_w, i32_w]
          rfl
        refine pure_ (i := 4) (N := some 45) (v := ?_) (a' := ?_) #[false, true, true, true, true, false, false, false, false, false, false, false, false, false] rfl rfl (by kernel_rfl) (fun _ _ _ h => h) (Or.inl ⟨by rfl, ?_⟩) ?_ ?_
        rotate_left
        · intro w'
          go_simp
          with_reducible rfl
        rotate_left
        · simp only [Act.put, List.setIfInBounds_toArray, List.set_cons_zero, List.set_cons_succ, i64_w, i32_w]
          rfl
        refine pure_ (i := 6) (N := some 47) (v := ?_) (a' := ?_) #[false, true, true, true, true, false, true, false, false, false, false, false, false, false] rfl rfl (by kernel_rfl) (fun _ _ _ h => h) (Or.inl ⟨by rfl, ?_⟩) ?_ ?_
        rotate_left
        · intro w'
          go_simp
          with_reducible rfl
        rotate_left
        · simp only [Act.put, List.setIfInBounds_toArray, List.set_cons_zero, List.set_cons_succ, i64_w, i32_w]
          rfl
        refine pure_ (i := 7) (N := some 48) (v := ?_) (a' := ?_) #[false, true, true, true, true, false, true, true, false, false, false, false, false, false] rfl rfl (by kernel_rfl) (fun _ _ _ h => h) (Or.inl ⟨by rfl, ?_⟩) ?_ ?_
        rotate_left
        · intro w'
          go_simp
          with_reducible rfl
        rotate_left
        · simp only [Act.put, List.setIfInBounds_toArray, List.set_cons_zero, List.set_cons_succ, i64_w, i32_w]
          rfl
        refine pure_ (i := 8) (N := some 49) (v := ?_) (a' := ?_) #[false, true, true, true, true, false, true, true, true, false, false, false, false, false] rfl rfl (by kernel_rfl) (fun _ _ _ h => h) (Or.inl ⟨by rfl, ?_⟩) ?_ ?_
        rotate_left
        · intro w'
          go_simp
          with_reducible rfl
        rotate_left
        · simp only [Act.put, List.setIfInBounds_toArray, List.set_cons_zero, List.set_cons_succ, i64_w, i32_w]
          rfl
        refine pure_ (i := 9) (N := some 50) (v := ?_) (a' := ?_) #[false, true, true, true, true, false, true, true, true, true, false, false, false, false] rfl rfl (by kernel_rfl) (fun _ _ _ h => h) (Or.inl ⟨by rfl, ?_⟩) ?_ ?_
        rotate_left
        · intro w'
          go_simp
          with_reducible rfl
        rotate_left
        · simp only [Act.put, List.setIfInBounds_toArray, List.set_cons_zero, List.set_cons_succ, i64_w, i32_w]
          rfl
        refine take_ (i := 0) (N := some 41) (v := ?_) (a' := ?_) #[true, true, true, true, true, false, true, true, true, true, false, false, false, false] rfl rfl (by kernel_rfl) (fun _ _ _ h => h) (Or.inl ⟨by rfl, ?_⟩) hHeld ?_ ?_
        rotate_left
        · rintro w' ⟨s0, s1, s2⟩
          refine exec_load_row 32 (.tmp 5) ?_ _ ?_ 32 (#[.slice A1 u.length c1]) (0, 0) _ s0 Try.underlying32 rfl (by kernel_rfl) <;> rfl
        rotate_left
        · simp only [Act.put, List.setIfInBounds_toArray, List.set_cons_zero, List.set_cons_succ, i64_w, i32_w]
          rfl
        refine take_ (i := 5) (N := some 46) (v := ?_) (a' := ?_) #[true, true, true, true, true, true, true, true, true, true, false, false, false, false] rfl rfl (by kernel_rfl) (fun _ _ _ h => h) (Or.inl ⟨by rfl, ?_⟩) hHeld ?_ ?_
        rotate_left
        · rintro w' ⟨s0, s1, s2⟩
          go_simp
          with_reducible rfl
        rotate_left
        · simp only [Act.put, List.setIfInBounds_toArray, List.set_cons_zero, List.set_cons_succ, i64_w, i32_w]
          rfl
        refine take_ (i := 10) (N := some 51) (v := ?_) (a' := ?_) #[true, true, true, true, true, true, true, true, true, true, true, false, false, false] rfl rfl (by kernel_rfl) (fun _ _ _ h => h) (Or.inl ⟨by rfl, ?_⟩) hHeld ?_ ?_
        rotate_left
        · rintro w' ⟨s0, s1, s2⟩
          go_simp
          with_reducible rfl
        rotate_left
        · simp only [Act.put, List.setIfInBounds_toArray, List.set_cons_zero, List.set_cons_succ, i64_w, i32_w]
          rfl
        refine pure_ (i := 11) (N := some 52) (v := ?_) (a' := ?_) #[true, true, true, true, true, true, true, true, true, true, true, true, false, false] rfl rfl (by kernel_rfl) (fun _ _ _ h => h) (Or.inl ⟨by rfl, ?_⟩) ?_ ?_
        rotate_left
        · intro w'
          go_simp
          with_reducible rfl
        rotate_left
        · simp only [Act.put, List.setIfInBounds_toArray, List.set_cons_zero, List.set_cons_succ, i64_w, i32_w]
          rfl
        refine one_ (i := 12) (N := some 53) #[true, true, true, true, true, true, true, true, true, true, true, true, true, false] rfl rfl (by kernel_rfl) (by decide) (fun K hK => ?_)
        refine goes_ Try.func17 (by kernel_rfl) rfl #[.agg #[.slice A1 u.length c1], .agg #[.int .u64 y, .int .u64 z]] (by rfl) rfl rfl (by simp only [List.map_toArray, List.map_cons, List.map_nil]; rfl) ?_
        with_reducible refine (revenantref21_State_With.calls KW A1 c1 u y z u2 _ (Kd.C_below (R_C57 R_903.out) (below_drew (Below.refl _ _))) HL.out.2 HKW.out).mono ?_
        rintro e_ w7 ⟨v0, rfl, hR, hb⟩
        obtain ⟨A2, c2, rfl, hc2, -⟩ := Kd.R_reads hR
        refine ⟨_, rfl, ?_⟩
        have P_905 := Aside0.mk (blk_below (blk_drew P_901.out) hb)
        have U_906 := Aside0.mk (blk_below (blk_drew U_902.out) hb)
        have HC2 := Aside0.mk hc2
        have R2_950 := Aside0.mk (Kd.R_lower hR ((below_drew B904.out)).size)
        clear hR hc2
        have B907 := Aside0.mk (below_step (below_drew B904.out) hb)
        clear hb P_901 U_902 B904
        refine hK.out _ _ ⟨U_906.out, (B907.out.cell (World.block_lt_of_cell? w _ X0.out)).trans X0.out, (B907.out.cell (World.block_lt_of_cell? w _ X1.out)).trans X1.out⟩ (fun hHeld => ?_)
        clear hK K
        refine norm_ (a' := ?_) ?_ ?_
        rotate_left
        · show Act.put _ (some 53) _ = _
          simp only [Act.put, List.setIfInBounds_toArray, List.set_cons_zero, List.set_cons_succ, i64_w, i32_w]
          rfl
        refine last_ (i := 13) (N := none) #[true, true, true, true, true, true, true, true, true, true, true, true, true, true] rfl rfl (by kernel_rfl) (by decide) (fun K hK => ?_)
        refine skip_whole (w := w) (B := w.heap.size) 32 (.tmp 5) (.tmp 53) (by rfl) rfl rfl (g := w2.heap.size) (cs := #[.slice A2 u2.length c2]) ?_ (.agg (#[.slice A2 u2.length c2])) ?_ rfl (by kernel_rfl) (by simp [Value.oneCell']) (U_906.out) (rfl) L_U.out (B907.out) ?_
        · rfl
        · rfl
        intro w8 h1 h2 h3 h4
        have R2_908 := Aside0.mk (row_far R2_950.out U_906.out (by decide) h3)
        have P_909 := Aside0.mk ((h3 _ NE_P_U.out).trans P_905.out)
        have U_910 := Aside0.mk (h1)
        have B911 := Aside0.mk (h2)
        clear h1 h2 h3 h4 R2_950 P_905 U_906 B907
        refine hK.out _ _ ?_
        clear hK K
        refine done_ (by kernel_rfl) ?_
        go_wp2_with fail
        go_roundg ko
        case rel => exact ⟨i + 1, is_, u2, A2, c2, by first | rfl | (simp; done), by first | rfl | rw [wi], ⟨by have := HK.out; have := q1.out; omega⟩, ⟨by rw [show (i + 1).toNat = i.toNat + 1 by have := q1.out; omega, HTT.out, HTU.out]; simp⟩, ⟨⟨by have := HFL.out; have := HL.out; have := q1.out; omega, HC2.out⟩⟩, ⟨B911.out⟩, ⟨P_909.out⟩, ⟨U_910.out⟩, ⟨R2_908.out⟩⟩
        case measure => exact Nat.lt_succ_self _
      · go_wp2_with fail
        refine start_ (n := 14) (S := fun w' => w'.heap[w2.heap.size]? = some (.cells (#[.slice A1 u.length c1]) 32 (0, 0)) ∧ w'.cell? (ad.add (i.toNat * 2)) = some (.int .u64 y) ∧ w'.cell? ⟨(ad.add (i.toNat * 2)).block, (ad.add (i.toNat * 2)).off + 1, none⟩ = some (.int .u64 z)) (ds := [13]) #[false, false, false, false, false, false, false, false, false, false, false, false, false, false] (by kernel_rfl) rfl rfl ⟨blk_drew U_902.out, ((below_drew B904.out).cell (World.block_lt_of_cell? w _ X0.out)).trans X0.out, ((below_drew B904.out).cell (World.block_lt_of_cell? w _ X1.out)).trans X1.out⟩ (fun hHeld => ?_)
        refine pure_ (i := 1) (N := some 42) (v := ?_) (a' := ?_) #[false, true, false, false, false, false, false, false, false, false, false, false, false, false] rfl rfl (by kernel_rfl) (fun _ _ _ h => h) (Or.inl ⟨by rfl, ?_⟩) ?_ ?_
        rotate_left
        · intro w'
          go_simp
          with_reducible rfl
        rotate_left
        · simp only [Act.put, List.setIfInBounds_toArray, List.set_cons_zero, List.set_cons_succ, i64_w, i32_w]
          rfl
        refine pure_ (i := 2) (N := some 43) (v := ?_) (a' := ?_) #[false, true, true, false, false, false, false, false, false, false, false, false, false, false] rfl rfl (by kernel_rfl) (fun _ _ _ h => h) (Or.inl ⟨by rfl, ?_⟩) ?_ ?_
        rotate_left
        · intro w'
          go_simp
          with_reducible rfl
        rotate_left
        · simp only [Act.put, List.setIfInBounds_toArray, List.set_cons_zero, List.set_cons_succ, i64_w, i32_w]
          rfl
        refine pure_ (i := 3) (N := some 44) (v := ?_) (a' := ?_) #[false, true, true, true, false, false, false, false, false, false, false, false, false, false] rfl rfl (by kernel_rfl) (fun _ _ _ h => h) (Or.inl ⟨by rfl, ?_⟩) ?_ ?_
        rotate_left
        · intro w'
          go_simp
          with_reducible rfl
        rotate_left
        · simp only [Act.put, List.setIfInBounds_toArray, List.set_cons_zero, List.set_cons_succ, i64_w, i32_w]
          rfl
        refine pure_ (i := 4) (N := some 45) (v := ?_) (a' := ?_) #[false, true, true, true, true, false, false, false, false, false, false, false, false, false] rfl rfl (by kernel_rfl) (fun _ _ _ h => h) (Or.inl ⟨by rfl, ?_⟩) ?_ ?_
        rotate_left
        · intro w'
          go_simp
          with_reducible rfl
        rotate_left
        · simp only [Act.put, List.setIfInBounds_toArray, List.set_cons_zero, List.set_cons_succ, i64_w, i32_w]
          rfl
        refine pure_ (i := 6) (N := some 47) (v := ?_) (a' := ?_) #[false, true, true, true, true, false, true, false, false, false, false, false, false, false] rfl rfl (by kernel_rfl) (fun _ _ _ h => h) (Or.inl ⟨by rfl, ?_⟩) ?_ ?_
        rotate_left
        · intro w'
          go_simp
          with_reducible rfl
        rotate_left
        · simp only [Act.put, List.setIfInBounds_toArray, List.set_cons_zero, List.set_cons_succ, i64_w, i32_w]
          rfl
        refine pure_ (i := 7) (N := some 48) (v := ?_) (a' := ?_) #[false, true, true, true, true, false, true, true, false, false, false, false, false, false] rfl rfl (by kernel_rfl) (fun _ _ _ h => h) (Or.inl ⟨by rfl, ?_⟩) ?_ ?_
        rotate_left
        · intro w'
          go_simp
          with_reducible rfl
        rotate_left
        · simp only [Act.put, List.setIfInBounds_toArray, List.set_cons_zero, List.set_cons_succ, i64_w, i32_w]
          rfl
        refine pure_ (i := 8) (N := some 49) (v := ?_) (a' := ?_) #[false, true, true, true, true, false, true, true, true, false, false, false, false, false] rfl rfl (by kernel_rfl) (fun _ _ _ h => h) (Or.inl ⟨by rfl, ?_⟩) ?_ ?_
        rotate_left
        · intro w'
          go_simp
          with_reducible rfl
        rotate_left
        · simp only [Act.put, List.setIfInBounds_toArray, List.set_cons_zero, List.set_cons_succ, i64_w, i32_w]
          rfl
        refine pure_ (i := 9) (N := some 50) (v := ?_) (a' := ?_) #[false, true, true, true, true, false, true, true, true, true, false, false, false, false] rfl rfl (by kernel_rfl) (fun _ _ _ h => h) (Or.inl ⟨by rfl, ?_⟩) ?_ ?_
        rotate_left
        · intro w'
          go_simp
          with_reducible rfl
        rotate_left
        · simp only [Act.put, List.setIfInBounds_toArray, List.set_cons_zero, List.set_cons_succ, i64_w, i32_w]
          rfl
        refine take_ (i := 0) (N := some 41) (v := ?_) (a' := ?_) #[true, true, true, true, true, false, true, true, true, true, false, false, false, false] rfl rfl (by kernel_rfl) (fun _ _ _ h => h) (Or.inl ⟨by rfl, ?_⟩) hHeld ?_ ?_
        rotate_left
        · rintro w' ⟨s0, s1, s2⟩
          refine exec_load_row 32 (.tmp 5) ?_ _ ?_ 32 (#[.slice A1 u.length c1]) (0, 0) _ s0 Try.underlying32 rfl (by kernel_rfl) <;> rfl
        rotate_left
        · simp only [Act.put, List.setIfInBounds_toArray, List.set_cons_zero, List.set_cons_succ, i64_w, i32_w]
          rfl
        refine take_ (i := 5) (N := some 46) (v := ?_) (a' := ?_) #[true, true, true, true, true, true, true, true, true, true, false, false, false, false] rfl rfl (by kernel_rfl) (fun _ _ _ h => h) (Or.inl ⟨by rfl, ?_⟩) hHeld ?_ ?_
        rotate_left
        · rintro w' ⟨s0, s1, s2⟩
          go_simp
          with_reducible rfl
        rotate_left
        · simp only [Act.put, List.setIfInBounds_toArray, List.set_cons_zero, List.set_cons_succ, i64_w, i32_w]
          rfl
        refine take_ (i := 10) (N := some 51) (v := ?_) (a' := ?_) #[true, true, true, true, true, true, true, true, true, true, true, false, false, false] rfl rfl (by kernel_rfl) (fun _ _ _ h => h) (Or.inl ⟨by rfl, ?_⟩) hHeld ?_ ?_
        rotate_left
        · rintro w' ⟨s0, s1, s2⟩
          go_simp
          with_reducible rfl
        rotate_left
        · simp only [Act.put, List.setIfInBounds_toArray, List.set_cons_zero, List.set_cons_succ, i64_w, i32_w]
          rfl
        refine pure_ (i := 11) (N := some 52) (v := ?_) (a' := ?_) #[true, true, true, true, true, true, true, true, true, true, true, true, false, false] rfl rfl (by kernel_rfl) (fun _ _ _ h => h) (Or.inl ⟨by rfl, ?_⟩) ?_ ?_
        rotate_left
        · intro w'
          go_simp
          with_reducible rfl
        rotate_left
        · simp only [Act.put, List.setIfInBounds_toArray, List.set_cons_zero, List.set_cons_succ, i64_w, i32_w]
          rfl
        refine one_ (i := 12) (N := some 53) #[true, true, true, true, true, true, true, true, true, true, true, true, true, false] rfl rfl (by kernel_rfl) (by decide) (fun K hK => ?_)
        refine goes_ Try.func17 (by kernel_rfl) rfl #[.agg #[.slice A1 u.length c1], .agg #[.int .u64 y, .int .u64 z]] (by rfl) rfl rfl (by simp only [List.map_toArray, List.map_cons, List.map_nil]; rfl) ?_
        with_reducible refine (revenantref21_State_With.calls KW A1 c1 u y z u2 _ (Kd.C_below (R_C57 R_903.out) (below_drew (Below.refl _ _))) HL.out.2 HKW.out).mono ?_
        rintro e_ w7 ⟨v0, rfl, hR, hb⟩
        obtain ⟨A2, c2, rfl, hc2, -⟩ := Kd.R_reads hR
        refine ⟨_, rfl, ?_⟩
        have P_905 := Aside0.mk (blk_below (blk_drew P_901.out) hb)
        have U_906 := Aside0.mk (blk_below (blk_drew U_902.out) hb)
        have HC2 := Aside0.mk hc2
        have R2_950 := Aside0.mk (Kd.R_lower hR ((below_drew B904.out)).size)
        clear hR hc2
        have B907 := Aside0.mk (below_step (below_drew B904.out) hb)
        clear hb P_901 U_902 B904
        refine hK.out _ _ ⟨U_906.out, (B907.out.cell (World.block_lt_of_cell? w _ X0.out)).trans X0.out, (B907.out.cell (World.block_lt_of_cell? w _ X1.out)).trans X1.out⟩ (fun hHeld => ?_)
        clear hK K
        refine norm_ (a' := ?_) ?_ ?_
        rotate_left
        · show Act.put _ (some 53) _ = _
          simp only [Act.put, List.setIfInBounds_toArray, List.set_cons_zero, List.set_cons_succ, i64_w, i32_w]
          rfl
        refine last_ (i := 13) (N := none) #[true, true, true, true, true, true, true, true, true, true, true, true, true, true] rfl rfl (by kernel_rfl) (by decide) (fun K hK => ?_)
        refine skip_whole (w := w) (B := w.heap.size) 32 (.tmp 5) (.tmp 53) (by rfl) rfl rfl (g := w2.heap.size) (cs := #[.slice A2 u2.length c2]) ?_ (.agg (#[.slice A2 u2.length c2])) ?_ rfl (by kernel_rfl) (by simp [Value.oneCell']) (U_906.out) (rfl) L_U.out (B907.out) ?_
        · rfl
        · rfl
        intro w8 h1 h2 h3 h4
        have R2_908 := Aside0.mk (row_far R2_950.out U_906.out (by decide) h3)
        have P_909 := Aside0.mk ((h3 _ NE_P_U.out).trans P_905.out)
        have U_910 := Aside0.mk (h1)
        have B911 := Aside0.mk (h2)
        clear h1 h2 h3 h4 R2_950 P_905 U_906 B907
        refine hK.out _ _ ?_
        clear hK K
        refine done_ (by kernel_rfl) ?_
        go_wp2_with fail
        go_roundg ko
        case rel => exact ⟨i + 1, true, u2, A2, c2, by first | rfl | (simp; done), by first | rfl | rw [wi], ⟨by have := HK.out; have := q1.out; omega⟩, ⟨by rw [show (i + 1).toNat = i.toNat + 1 by have := q1.out; omega, HTT.out, HTU.out]; simp⟩, ⟨⟨by have := HFL.out; have := HL.out; have := q1.out; omega, HC2.out⟩⟩, ⟨B911.out⟩, ⟨P_909.out⟩, ⟨U_910.out⟩, ⟨R2_908.out⟩⟩
        case measure => exact Nat.lt_succ_self _
    · have d1 : decide (i < (l.length : Int)) = false := decide_eq_false hi
      obtain rfl : i = (l.length : Int) := by have := HK.out; omega
      rw [show ((l.length : Int)).toNat = l.length by omega] at HT HL
      rw [List.take_length] at HT
      clear hi HK
      go_wp2_with fail
      refine (new_T A c l _ (Kd.C_below HC.out B900.out) HCC.out (by have := HG.out; omega)).mono ?_
      rintro e_ w10 ⟨rfl, -, hb⟩
      rw [Xhnw.out]
      have P_901 := Aside0.mk (blk_below P_900.out hb)
      have U_902 := Aside0.mk (blk_below U_900.out hb)
      have R_903 := Aside0.mk (Kd.R_below R_900.out hb)
      have B904 := Aside0.mk (below_step B900.out hb)
      clear hb P_900 U_900 R_900 B900
      have L_S := Aside0.mk (show w.heap.size ≤ w10.heap.size from B904.out.size)
      have NE_P_S := Aside0.mk (show w.heap.size ≠ w10.heap.size by have := blk_lt P_901.out; omega)
      have NE_U_S := Aside0.mk (show w2.heap.size ≠ w10.heap.size by have := blk_lt U_902.out; omega)
      have P_905 := Aside0.mk (blk_alloc P_901.out (.cells #[.int .i64 0, .int .u64 0, .int .u64 0, .int .u64 0, .int .u64 0, .int .u64 0, .int .u64 0, .int .u64 0, .int .u64 0, .int .u64 0, .int .u64 0, .int .u64 0, .int .u64 0, .int .u64 0, .int .u64 0, .int .u64 0, .int .u64 0, .int .u64 0, .int .u64 0, .int .u64 0, .int .u64 0, .int .u64 0, .int .u64 0, .int .u64 0, .int .u64 0, .int .u64 0, .int .u64 0, .int .u64 0, .int .u64 0, .int .u64 0, .int .u64 0, .int .u64 0, .int .u64 0] 29))
      have U_906 := Aside0.mk (blk_alloc U_902.out (.cells #[.int .i64 0, .int .u64 0, .int .u64 0, .int .u64 0, .int .u64 0, .int .u64 0, .int .u64 0, .int .u64 0, .int .u64 0, .int .u64 0, .int .u64 0, .int .u64 0, .int .u64 0, .int .u64 0, .int .u64 0, .int .u64 0, .int .u64 0, .int .u64 0, .int .u64 0, .int .u64 0, .int .u64 0, .int .u64 0, .int .u64 0, .int .u64 0, .int .u64 0, .int .u64 0, .int .u64 0, .int .u64 0, .int .u64 0, .int .u64 0, .int .u64 0, .int .u64 0, .int .u64 0] 29))
      have S_907 := Aside0.mk (blk_new (w10) (.cells #[.int .i64 0, .int .u64 0, .int .u64 0, .int .u64 0, .int .u64 0, .int .u64 0, .int .u64 0, .int .u64 0, .int .u64 0, .int .u64 0, .int .u64 0, .int .u64 0, .int .u64 0, .int .u64 0, .int .u64 0, .int .u64 0, .int .u64 0, .int .u64 0, .int .u64 0, .int .u64 0, .int .u64 0, .int .u64 0, .int .u64 0, .int .u64 0, .int .u64 0, .int .u64 0, .int .u64 0, .int .u64 0, .int .u64 0, .int .u64 0, .int .u64 0, .int .u64 0, .int .u64 0] 29))
      have B908 := Aside0.mk (below_alloc B904.out (.cells #[.int .i64 0, .int .u64 0, .int .u64 0, .int .u64 0, .int .u64 0, .int .u64 0, .int .u64 0, .int .u64 0, .int .u64 0, .int .u64 0, .int .u64 0, .int .u64 0, .int .u64 0, .int .u64 0, .int .u64 0, .int .u64 0, .int .u64 0, .int .u64 0, .int .u64 0, .int .u64 0, .int .u64 0, .int .u64 0, .int .u64 0, .int .u64 0, .int .u64 0, .int .u64 0, .int .u64 0, .int .u64 0, .int .u64 0, .int .u64 0, .int .u64 0, .int .u64 0, .int .u64 0] 29))
      clear P_901 U_902 B904
      have R_909 := Aside0.mk (Kd.R_alloc (R_903.out) (.cells #[.int .i64 0, .int .u64 0, .int .u64 0, .int .u64 0, .int .u64 0, .int .u64 0, .int .u64 0, .int .u64 0, .int .u64 0, .int .u64 0, .int .u64 0, .int .u64 0, .int .u64 0, .int .u64 0, .int .u64 0, .int .u64 0, .int .u64 0, .int .u64 0, .int .u64 0, .int .u64 0, .int .u64 0, .int .u64 0, .int .u64 0, .int .u64 0, .int .u64 0, .int .u64 0, .int .u64 0, .int .u64 0, .int .u64 0, .int .u64 0, .int .u64 0, .int .u64 0, .int .u64 0] 29))
      clear R_903
      obtain ⟨rfl, rfl⟩ : uu = u ∧ tw = false := by have := Xht.out; rw [HT.out] at this; injection this with h1 h2; exact ⟨h1.symm, h2⟩
      have t3 : decide ((16 : Int) < (l.length : Int)) = false := decide_eq_false (by have := Xhf.out; omega)
      have t4 := eq_false (show ¬ (16 : Int) < (l.length : Int) by have := Xhf.out; omega)
      go_wp2_with (first
        | (refine store_whole (w := w) (B := w.heap.size) rfl rfl 29 (.tmp 10) (.tmp 57) rfl (g := w10.heap.size) (cs := SV s) rfl _ rfl rfl (stot _) (SV_one _) S_907.out (by first | (rw [SV_size]; done) | (rw [SV_size, SV_size]; done) | (rw [SV_size]; rfl)) L_S.out B908.out ?_; intro w_910 h1 h2 h3 h4; have R_911 := Aside0.mk (row_far R_909.out S_907.out (by decide) h3); have P_912 := Aside0.mk ((h3 _ NE_P_S.out).trans P_905.out); have U_913 := Aside0.mk ((h3 _ NE_U_S.out).trans U_906.out); have S_914 := Aside0.mk (h1); have B915 := Aside0.mk (h2); clear h1 h2 h3 h4 R_909 P_905 U_906 S_907 B908))
      refine start_ (n := 20) (S := fun w' => w'.heap[w10.heap.size]? = some (.cells (SV s) 29 (0, 0)) ∧ w'.heap[w2.heap.size]? = some (.cells (#[.slice A1 uu.length c1]) 32 (0, 0)) ∧ w'.cell? ⟨w.heap.size, 0, none⟩ = some (.int .u64 pk)) (ds := []) #[false, false, false, false, false, false, false, false, false, false, false, false, false, false, false, false, false, false, false, false] (by kernel_rfl) rfl rfl ⟨blk_drew S_914.out, blk_drew U_913.out, (blk_cell (blk_drew P_912.out) 0).trans rfl⟩ (fun hHeld => ?_)
      refine pure_ (i := 0) (N := some 77) (v := ?_) (a' := ?_) #[true, false, false, false, false, false, false, false, false, false, false, false, false, false, false, false, false, false, false, false] rfl rfl (by kernel_rfl) (fun _ _ _ h => h) (Or.inl ⟨by rfl, ?_⟩) ?_ ?_
      rotate_left
      · intro w'
        go_simp
        with_reducible rfl
      rotate_left
      · simp only [Act.put, List.setIfInBounds_toArray, List.set_cons_zero, List.set_cons_succ, i64_w, i32_w]
        rfl
      refine pure_ (i := 1) (N := some 78) (v := ?_) (a' := ?_) #[true, true, false, false, false, false, false, false, false, false, false, false, false, false, false, false, false, false, false, false] rfl rfl (by kernel_rfl) (fun _ _ _ h => h) (Or.inl ⟨by rfl, ?_⟩) ?_ ?_
      rotate_left
      · intro w'
        go_simp
        with_reducible rfl
      rotate_left
      · simp only [Act.put, List.setIfInBounds_toArray, List.set_cons_zero, List.set_cons_succ, i64_w, i32_w]
        rfl
      refine pure_ (i := 2) (N := some 79) (v := ?_) (a' := ?_) #[true, true, true, false, false, false, false, false, false, false, false, false, false, false, false, false, false, false, false, false] rfl rfl (by kernel_rfl) (fun _ _ _ h => h) (Or.inl ⟨by rfl, ?_⟩) ?_ ?_
      rotate_left
      · intro w'
        go_simp
        with_reducible rfl
      rotate_left
      · simp only [Act.put, List.setIfInBounds_toArray, List.set_cons_zero, List.set_cons_succ, i64_w, i32_w]
        rfl
      refine take_ (i := 3) (N := some 80) (v := ?_) (a' := ?_) #[true, true, true, true, false, false, false, false, false, false, false, false, false, false, false, false, false, false, false, false] rfl rfl (by kernel_rfl) (fun _ _ _ h => h) (Or.inl ⟨by rfl, ?_⟩) hHeld ?_ ?_
      rotate_left
      · rintro w' ⟨s0, s1, s2⟩
        refine exec_load_row 29 (.tmp 10) ?_ _ ?_ 29 (SV s) (0, 0) _ s0 Try.underlying29 rfl (info29 _) <;> rfl
      rotate_left
      · simp only [Act.put, List.setIfInBounds_toArray, List.set_cons_zero, List.set_cons_succ, i64_w, i32_w]
        rfl
      refine take_ (i := 4) (N := some 81) (v := ?_) (a' := ?_) #[true, true, true, true, true, false, false, false, false, false, false, false, false, false, false, false, false, false, false, false] rfl rfl (by kernel_rfl) (fun _ _ _ h => h) (Or.inl ⟨by rfl, ?_⟩) hHeld ?_ ?_
      rotate_left
      · rintro w' ⟨s0, s1, s2⟩
        refine exec_load_row 32 (.tmp 5) ?_ _ ?_ 32 (#[.slice A1 uu.length c1]) (0, 0) _ s1 Try.underlying32 rfl (by kernel_rfl) <;> rfl
      rotate_left
      · simp only [Act.put, List.setIfInBounds_toArray, List.set_cons_zero, List.set_cons_succ, i64_w, i32_w]
        rfl
      refine one_ (i := 5) (N := some 82) #[true, true, true, true, true, true, false, false, false, false, false, false, false, false, false, false, false, false, false, false] rfl rfl (by kernel_rfl) (by decide) (fun K hK => ?_)
      refine goes_ Try.func13 (by kernel_rfl) rfl #[.agg (SV s), .agg #[.slice A1 uu.length c1]] (by rfl) rfl rfl (by simp only [List.map_toArray, List.map_cons, List.map_nil]; rfl) ?_
      with_reducible refine (alike_T s A1 c1 uu k1 _ Xhs.out (R_C57 (Kd.R_drew R_911.out)) HL.out.2 XhS.out).mono ?_
      rintro e_ w11 ⟨rfl, hb⟩
      refine ⟨_, rfl, ?_⟩
      have P_916 := Aside0.mk (blk_below (blk_drew P_912.out) hb)
      have U_917 := Aside0.mk (blk_below (blk_drew U_913.out) hb)
      have S_918 := Aside0.mk (blk_below (blk_drew S_914.out) hb)
      have R_919 := Aside0.mk (Kd.R_below (Kd.R_drew R_911.out) hb)
      have B920 := Aside0.mk (below_step (below_drew B915.out) hb)
      clear hb P_912 U_913 S_914 R_911 B915
      refine hK.out _ _ ⟨S_918.out, U_917.out, (blk_cell P_916.out 0).trans rfl⟩ (fun hHeld => ?_)
      clear hK K
      refine norm_ (a' := ?_) ?_ ?_
      rotate_left
      · show Act.put _ (some 82) _ = _
        simp only [Act.put, List.setIfInBounds_toArray, List.set_cons_zero, List.set_cons_succ, i64_w, i32_w]
        rfl
      refine pure_ (i := 6) (N := some 83) (v := ?_) (a' := ?_) #[true, true, true, true, true, true, true, false, false, false, false, false, false, false, false, false, false, false, false, false] rfl rfl (by kernel_rfl) (fun _ _ _ h => h) (Or.inl ⟨by rfl, ?_⟩) ?_ ?_
      rotate_left
      · intro w'
        go_simp
        with_reducible rfl
      rotate_left
      · simp only [Act.put, List.setIfInBounds_toArray, List.set_cons_zero, List.set_cons_succ, i64_w, i32_w]
        rfl
      refine pure_ (i := 7) (N := some 84) (v := ?_) (a' := ?_) #[true, true, true, true, true, true, true, true, false, false, false, false, false, false, false, false, false, false, false, false] rfl rfl (by kernel_rfl) (fun _ _ _ h => h) (Or.inl ⟨by rfl, ?_⟩) ?_ ?_
      rotate_left
      · intro w'
        go_simp
        with_reducible rfl
      rotate_left
      · simp only [Act.put, List.setIfInBounds_toArray, List.set_cons_zero, List.set_cons_succ, i64_w, i32_w]
        rfl
      refine pure_ (i := 8) (N := some 85) (v := ?_) (a' := ?_) #[true, true, true, true, true, true, true, true, true, false, false, false, false, false, false, false, false, false, false, false] rfl rfl (by kernel_rfl) (fun _ _ _ h => h) (Or.inl ⟨by rfl, ?_⟩) ?_ ?_
      rotate_left
      · intro w'
        go_simp
        with_reducible rfl
      rotate_left
      · simp only [Act.put, List.setIfInBounds_toArray, List.set_cons_zero, List.set_cons_succ, i64_w, i32_w]
        rfl
      refine pure_ (i := 10) (N := some 87) (v := ?_) (a' := ?_) #[true, true, true, true, true, true, true, true, true, false, true, false, false, false, false, false, false, false, false, false] rfl rfl (by kernel_rfl) (fun _ _ _ h => h) (Or.inl ⟨by rfl, ?_⟩) ?_ ?_
      rotate_left
      · intro w'
        go_simp
        with_reducible rfl
      rotate_left
      · simp only [Act.put, List.setIfInBounds_toArray, List.set_cons_zero, List.set_cons_succ, i64_w, i32_w]
        rfl
      refine pure_ (i := 14) (N := some 91) (v := ?_) (a' := ?_) #[true, true, true, true, true, true, true, true, true, false, true, false, false, false, true, false, false, false, false, false] rfl rfl (by kernel_rfl) (fun _ _ _ h => h) (Or.inl ⟨by rfl, ?_⟩) ?_ ?_
      rotate_left
      · intro w'
        go_simp
        with_reducible rfl
      rotate_left
      · simp only [Act.put, List.setIfInBounds_toArray, List.set_cons_zero, List.set_cons_succ, i64_w, i32_w]
        rfl
      refine take_ (i := 9) (N := some 86) (v := ?_) (a' := ?_) #[true, true, true, true, true, true, true, true, true, true, true, false, false, false, true, false, false, false, false, false] rfl rfl (by kernel_rfl) (fun _ _ _ h => h) (Or.inl ⟨by rfl, ?_⟩) hHeld ?_ ?_
      rotate_left
      · rintro w' ⟨s0, s1, s2⟩
        refine exec_load_row 29 (.tmp 10) ?_ _ ?_ 29 (SV s) (0, 0) _ s0 Try.underlying29 rfl (info29 _) <;> rfl
      rotate_left
      · simp only [Act.put, List.setIfInBounds_toArray, List.set_cons_zero, List.set_cons_succ, i64_w, i32_w]
        rfl
      refine take_ (i := 11) (N := some 88) (v := ?_) (a' := ?_) #[true, true, true, true, true, true, true, true, true, true, true, true, false, false, true, false, false, false, false, false] rfl rfl (by kernel_rfl) (fun _ _ _ h => h) (Or.inl ⟨by rfl, ?_⟩) hHeld ?_ ?_
      rotate_left
      · rintro w' ⟨s0, s1, s2⟩
        go_simp
        with_reducible rfl
      rotate_left
      · simp only [Act.put, List.setIfInBounds_toArray, List.set_cons_zero, List.set_cons_succ, i64_w, i32_w]
        rfl
      refine take_ (i := 13) (N := some 90) (v := ?_) (a' := ?_) #[true, true, true, true, true, true, true, true, true, true, true, true, false, true, true, false, false, false, false, false] rfl rfl (by kernel_rfl) (fun _ _ _ h => h) (Or.inl ⟨by rfl, ?_⟩) hHeld ?_ ?_
      rotate_left
      · rintro w' ⟨s0, s1, s2⟩
        refine exec_load_row 32 (.tmp 5) ?_ _ ?_ 32 (#[.slice A1 uu.length c1]) (0, 0) _ s1 Try.underlying32 rfl (by kernel_rfl) <;> rfl
      rotate_left
      · simp only [Act.put, List.setIfInBounds_toArray, List.set_cons_zero, List.set_cons_succ, i64_w, i32_w]
        rfl
      refine take_ (i := 15) (N := some 92) (v := ?_) (a' := ?_) #[true, true, true, true, true, true, true, true, true, true, true, true, false, true, true, true, false, false, false, false] rfl rfl (by kernel_rfl) (fun _ _ _ h => h) (Or.inl ⟨by rfl, ?_⟩) hHeld ?_ ?_
      rotate_left
      · rintro w' ⟨s0, s1, s2⟩
        go_simp
        with_reducible rfl
      rotate_left
      · simp only [Act.put, List.setIfInBounds_toArray, List.set_cons_zero, List.set_cons_succ, i64_w, i32_w]
        rfl
      refine one_ (i := 12) (N := some 89) #[true, true, true, true, true, true, true, true, true, true, true, true, true, true, true, true, false, false, false, false] rfl rfl (by kernel_rfl) (by decide) (fun K hK => ?_)
      refine goes_ Try.func16 (by kernel_rfl) rfl #[.agg (SV s), .int .u64 pk] (by rfl) rfl rfl (by simp only [List.map_toArray, List.map_cons, List.map_nil]; rfl) ?_
      with_reducible refine (without_T s pk _ Xhs.out).mono ?_
      rintro e_ w12 ⟨rfl, hb⟩
      refine ⟨_, rfl, ?_⟩
      have P_921 := Aside0.mk (blk_below P_916.out hb)
      have U_922 := Aside0.mk (blk_below U_917.out hb)
      have S_923 := Aside0.mk (blk_below S_918.out hb)
      have R_924 := Aside0.mk (Kd.R_below R_919.out hb)
      have B925 := Aside0.mk (below_step B920.out hb)
      clear hb P_916 U_917 S_918 R_919 B920
      refine hK.out _ _ ⟨S_923.out, U_922.out, (blk_cell P_921.out 0).trans rfl⟩ (fun hHeld => ?_)
      clear hK K
      refine norm_ (a' := ?_) ?_ ?_
      rotate_left
      · show Act.put _ (some 89) _ = _
        simp only [Act.put, List.setIfInBounds_toArray, List.set_cons_zero, List.set_cons_succ, i64_w, i32_w]
        rfl
      refine one_ (i := 16) (N := some 93) #[true, true, true, true, true, true, true, true, true, true, true, true, true, true, true, true, true, false, false, false] rfl rfl (by kernel_rfl) (by decide) (fun K hK => ?_)
      refine goes_ Try.func20 (by kernel_rfl) rfl #[.agg #[.slice A1 uu.length c1], .int .u64 pk] (by rfl) rfl rfl (by simp only [List.map_toArray, List.map_cons, List.map_nil]; rfl) ?_
      with_reducible refine (revenantref21_State_Without.calls k2 A1 c1 uu pk (flt uu pk) _ (R_C57 R_924.out) HL.out.2 XhW0.out).mono ?_
      rintro e_ w13 ⟨v0, rfl, hR, hb⟩
      obtain ⟨A2, c2, rfl, hc2, -⟩ := Kd.R_reads hR
      refine ⟨_, rfl, ?_⟩
      have P_926 := Aside0.mk (blk_below P_921.out hb)
      have U_927 := Aside0.mk (blk_below U_922.out hb)
      have S_928 := Aside0.mk (blk_below S_923.out hb)
      have R_929 := Aside0.mk (Kd.R_below R_924.out hb)
      have HC2 := Aside0.mk hc2
      have R2_950 := Aside0.mk (Kd.R_lower hR (B925.out).size)
      clear hR hc2
      have B930 := Aside0.mk (below_step B925.out hb)
      clear hb P_921 U_922 S_923 R_924 B925
      refine hK.out _ _ ⟨S_928.out, U_927.out, (blk_cell P_926.out 0).trans rfl⟩ (fun hHeld => ?_)
      clear hK K
      refine norm_ (a' := ?_) ?_ ?_
      rotate_left
      · show Act.put _ (some 93) _ = _
        simp only [Act.put, List.setIfInBounds_toArray, List.set_cons_zero, List.set_cons_succ, i64_w, i32_w]
        rfl
      refine one_ (i := 17) (N := some 94) #[true, true, true, true, true, true, true, true, true, true, true, true, true, true, true, true, true, true, false, false] rfl rfl (by kernel_rfl) (by decide) (fun K hK => ?_)
      refine goes_ Try.func13 (by kernel_rfl) rfl #[.agg (SV (withoutV s pk)), .agg #[.slice A2 (flt uu pk).length c2]] (by rfl) rfl rfl (by simp only [List.map_toArray, List.map_cons, List.map_nil]; rfl) ?_
      with_reducible refine (alike_T (withoutV s pk) A2 c2 (flt uu pk) k3 _ Xhw1.out (R_C57 R2_950.out) HC2.out XhS2.out).mono ?_
      rintro e_ w14 ⟨rfl, hb⟩
      refine ⟨_, rfl, ?_⟩
      have P_931 := Aside0.mk (blk_below P_926.out hb)
      have U_932 := Aside0.mk (blk_below U_927.out hb)
      have S_933 := Aside0.mk (blk_below S_928.out hb)
      have R_934 := Aside0.mk (Kd.R_below R_929.out hb)
      have R2_935 := Aside0.mk (Kd.R_below R2_950.out hb)
      have B936 := Aside0.mk (below_step B930.out hb)
      clear hb P_926 U_927 S_928 R_929 R2_950 B930
      refine hK.out _ _ ⟨S_933.out, U_932.out, (blk_cell P_931.out 0).trans rfl⟩ (fun hHeld => ?_)
      clear hK K
      refine norm_ (a' := ?_) ?_ ?_
      rotate_left
      · show Act.put _ (some 94) _ = _
        simp only [Act.put, List.setIfInBounds_toArray, List.set_cons_zero, List.set_cons_succ, i64_w, i32_w]
        rfl
      refine pure_ (i := 18) (N := some 95) (v := ?_) (a' := ?_) #[true, true, true, true, true, true, true, true, true, true, true, true, true, true, true, true, true, true, true, false] rfl rfl (by kernel_rfl) (fun _ _ _ h => h) (Or.inl ⟨by rfl, ?_⟩) ?_ ?_
      rotate_left
      · intro w'
        go_simp
        with_reducible rfl
      rotate_left
      · simp only [Act.put, List.setIfInBounds_toArray, List.set_cons_zero, List.set_cons_succ, i64_w, i32_w]
        rfl
      refine pure_ (i := 19) (N := some 96) (v := ?_) (a' := ?_) #[true, true, true, true, true, true, true, true, true, true, true, true, true, true, true, true, true, true, true, true] rfl rfl (by kernel_rfl) (fun _ _ _ h => h) (Or.inl ⟨by rfl, ?_⟩) ?_ ?_
      rotate_left
      · intro w'
        go_simp
        with_reducible rfl
      rotate_left
      · simp only [Act.put, List.setIfInBounds_toArray, List.set_cons_zero, List.set_cons_succ, i64_w, i32_w]
        rfl
      refine done_ (by kernel_rfl) ?_
      go_wp2_with (first
        | (refine wpList_load_row_g (by rfl) 29 (.tmp 10) rfl (w10.heap.size) rfl 29 (SV s) (0, 0) _ S_933.out Try.underlying29 rfl (info29 _) ?_)
        | (refine wpList_load_row_g (by rfl) 26 (.tmp 3) rfl (w.heap.size) rfl 26 (#[.int .u64 pk, .int .u64 pv]) (0, 0) _ P_931.out Try.underlying26 rfl (by kernel_rfl) ?_))
      refine (with_T s ⟨pk, pv⟩ _ Xhs.out).mono ?_
      rintro e_ w15 ⟨rfl, hb⟩
      rw [Xhwi.out]
      have P_937 := Aside0.mk (blk_below P_931.out hb)
      have U_938 := Aside0.mk (blk_below U_932.out hb)
      have S_939 := Aside0.mk (blk_below S_933.out hb)
      have R_940 := Aside0.mk (Kd.R_below R_934.out hb)
      have R2_941 := Aside0.mk (Kd.R_below R2_935.out hb)
      have B942 := Aside0.mk (below_step B936.out hb)
      clear hb P_931 U_932 S_933 R_934 R2_935 B936
      have L_T := Aside0.mk (show w.heap.size ≤ w15.heap.size from B942.out.size)
      have NE_P_T := Aside0.mk (show w.heap.size ≠ w15.heap.size by have := blk_lt P_937.out; omega)
      have NE_U_T := Aside0.mk (show w2.heap.size ≠ w15.heap.size by have := blk_lt U_938.out; omega)
      have NE_S_T := Aside0.mk (show w10.heap.size ≠ w15.heap.size by have := blk_lt S_939.out; omega)
      have P_943 := Aside0.mk (blk_alloc P_937.out (.cells #[.int .i64 0, .int .u64 0, .int .u64 0, .int .u64 0, .int .u64 0, .int .u64 0, .int .u64 0, .int .u64 0, .int .u64 0, .int .u64 0, .int .u64 0, .int .u64 0, .int .u64 0, .int .u64 0, .int .u64 0, .int .u64 0, .int .u64 0, .int .u64 0, .int .u64 0, .int .u64 0, .int .u64 0, .int .u64 0, .int .u64 0, .int .u64 0, .int .u64 0, .int .u64 0, .int .u64 0, .int .u64 0, .int .u64 0, .int .u64 0, .int .u64 0, .int .u64 0, .int .u64 0] 29))
      have U_944 := Aside0.mk (blk_alloc U_938.out (.cells #[.int .i64 0, .int .u64 0, .int .u64 0, .int .u64 0, .int .u64 0, .int .u64 0, .int .u64 0, .int .u64 0, .int .u64 0, .int .u64 0, .int .u64 0, .int .u64 0, .int .u64 0, .int .u64 0, .int .u64 0, .int .u64 0, .int .u64 0, .int .u64 0, .int .u64 0, .int .u64 0, .int .u64 0, .int .u64 0, .int .u64 0, .int .u64 0, .int .u64 0, .int .u64 0, .int .u64 0, .int .u64 0, .int .u64 0, .int .u64 0, .int .u64 0, .int .u64 0, .int .u64 0] 29))
      have S_945 := Aside0.mk (blk_alloc S_939.out (.cells #[.int .i64 0, .int .u64 0, .int .u64 0, .int .u64 0, .int .u64 0, .int .u64 0, .int .u64 0, .int .u64 0, .int .u64 0, .int .u64 0, .int .u64 0, .int .u64 0, .int .u64 0, .int .u64 0, .int .u64 0, .int .u64 0, .int .u64 0, .int .u64 0, .int .u64 0, .int .u64 0, .int .u64 0, .int .u64 0, .int .u64 0, .int .u64 0, .int .u64 0, .int .u64 0, .int .u64 0, .int .u64 0, .int .u64 0, .int .u64 0, .int .u64 0, .int .u64 0, .int .u64 0] 29))
      have T_946 := Aside0.mk (blk_new (w15) (.cells #[.int .i64 0, .int .u64 0, .int .u64 0, .int .u64 0, .int .u64 0, .int .u64 0, .int .u64 0, .int .u64 0, .int .u64 0, .int .u64 0, .int .u64 0, .int .u64 0, .int .u64 0, .int .u64 0, .int .u64 0, .int .u64 0, .int .u64 0, .int .u64 0, .int .u64 0, .int .u64 0, .int .u64 0, .int .u64 0, .int .u64 0, .int .u64 0, .int .u64 0, .int .u64 0, .int .u64 0, .int .u64 0, .int .u64 0, .int .u64 0, .int .u64 0, .int .u64 0, .int .u64 0] 29))
      have B947 := Aside0.mk (below_alloc B942.out (.cells #[.int .i64 0, .int .u64 0, .int .u64 0, .int .u64 0, .int .u64 0, .int .u64 0, .int .u64 0, .int .u64 0, .int .u64 0, .int .u64 0, .int .u64 0, .int .u64 0, .int .u64 0, .int .u64 0, .int .u64 0, .int .u64 0, .int .u64 0, .int .u64 0, .int .u64 0, .int .u64 0, .int .u64 0, .int .u64 0, .int .u64 0, .int .u64 0, .int .u64 0, .int .u64 0, .int .u64 0, .int .u64 0, .int .u64 0, .int .u64 0, .int .u64 0, .int .u64 0, .int .u64 0] 29))
      clear P_937 U_938 S_939 B942
      have R_948 := Aside0.mk (Kd.R_alloc (R_940.out) (.cells #[.int .i64 0, .int .u64 0, .int .u64 0, .int .u64 0, .int .u64 0, .int .u64 0, .int .u64 0, .int .u64 0, .int .u64 0, .int .u64 0, .int .u64 0, .int .u64 0, .int .u64 0, .int .u64 0, .int .u64 0, .int .u64 0, .int .u64 0, .int .u64 0, .int .u64 0, .int .u64 0, .int .u64 0, .int .u64 0, .int .u64 0, .int .u64 0, .int .u64 0, .int .u64 0, .int .u64 0, .int .u64 0, .int .u64 0, .int .u64 0, .int .u64 0, .int .u64 0, .int .u64 0] 29))
      have R2_949 := Aside0.mk (Kd.R_alloc (R2_941.out) (.cells #[.int .i64 0, .int .u64 0, .int .u64 0, .int .u64 0, .int .u64 0, .int .u64 0, .int .u64 0, .int .u64 0, .int .u64 0, .int .u64 0, .int .u64 0, .int .u64 0, .int .u64 0, .int .u64 0, .int .u64 0, .int .u64 0, .int .u64 0, .int .u64 0, .int .u64 0, .int .u64 0, .int .u64 0, .int .u64 0, .int .u64 0, .int .u64 0, .int .u64 0, .int .u64 0, .int .u64 0, .int .u64 0, .int .u64 0, .int .u64 0, .int .u64 0, .int .u64 0, .int .u64 0] 29))
      clear R_940 R2_941
      go_wp2_with (first
        | (refine store_whole (w := w) (B := w.heap.size) rfl rfl 29 (.tmp 12) (.tmp 101) rfl (g := w15.heap.size) (cs := SV t) rfl _ rfl rfl (stot _) (SV_one _) T_946.out (by first | (rw [SV_size]; done) | (rw [SV_size, SV_size]; done) | (rw [SV_size]; rfl)) L_T.out B947.out ?_; intro w_950 h1 h2 h3 h4; have R_951 := Aside0.mk (row_far R_948.out T_946.out (by decide) h3); have R2_952 := Aside0.mk (row_far R2_949.out T_946.out (by decide) h3); have P_953 := Aside0.mk ((h3 _ NE_P_T.out).trans P_943.out); have U_954 := Aside0.mk ((h3 _ NE_U_T.out).trans U_944.out); have S_955 := Aside0.mk ((h3 _ NE_S_T.out).trans S_945.out); have T_956 := Aside0.mk (h1); have B957 := Aside0.mk (h2); clear h1 h2 h3 h4 R_948 R2_949 P_943 U_944 S_945 T_946 B947; have a0 : w_950.cell? ⟨w.heap.size, 0, none⟩ = some (.int .u64 pk) := (blk_cell P_953.out 0).trans rfl; have a1 : w_950.cell? ⟨w.heap.size, 1, none⟩ = some (.int .u64 pv) := (blk_cell P_953.out 1).trans rfl)
        | (refine wpList_load_row_g (by rfl) 32 (.tmp 5) rfl (w2.heap.size) rfl 32 (#[.slice A1 uu.length c1]) (0, 0) _ U_954.out Try.underlying32 rfl (by kernel_rfl) ?_))
      refine (revenantref21_State_With.calls k4 A1 c1 uu pk pv vv _ (R_C57 R_951.out) HL.out.2 XhV.out).mono ?_
      rintro e_ w16 ⟨v0, rfl, hR, hb⟩
      obtain ⟨A3, c3, rfl, hc3, -⟩ := Kd.R_reads hR
      have HC3 := Aside0.mk hc3
      have R3_960 := Aside0.mk (Kd.R_lower hR (B957.out).size)
      clear hR hc3
      have P_958 := Aside0.mk (blk_below P_953.out hb)
      have U_959 := Aside0.mk (blk_below U_954.out hb)
      have S_960 := Aside0.mk (blk_below S_955.out hb)
      have T_961 := Aside0.mk (blk_below T_956.out hb)
      have B962 := Aside0.mk (below_step B957.out hb)
      clear hb B957 P_953 U_954 S_955 T_956 R_951 R2_952
      have L_V := Aside0.mk (show w.heap.size ≤ w16.heap.size from B962.out.size)
      have NE_P_V := Aside0.mk (show w.heap.size ≠ w16.heap.size by have := blk_lt P_958.out; omega)
      have NE_U_V := Aside0.mk (show w2.heap.size ≠ w16.heap.size by have := blk_lt U_959.out; omega)
      have NE_S_V := Aside0.mk (show w10.heap.size ≠ w16.heap.size by have := blk_lt S_960.out; omega)
      have NE_T_V := Aside0.mk (show w15.heap.size ≠ w16.heap.size by have := blk_lt T_961.out; omega)
      have P_963 := Aside0.mk (blk_alloc P_958.out (.cells #[.slice none 0 0] 32))
      have U_964 := Aside0.mk (blk_alloc U_959.out (.cells #[.slice none 0 0] 32))
      have S_965 := Aside0.mk (blk_alloc S_960.out (.cells #[.slice none 0 0] 32))
      have T_966 := Aside0.mk (blk_alloc T_961.out (.cells #[.slice none 0 0] 32))
      have V_967 := Aside0.mk (blk_new (w16) (.cells #[.slice none 0 0] 32))
      have B968 := Aside0.mk (below_alloc B962.out (.cells #[.slice none 0 0] 32))
      clear P_958 U_959 S_960 T_961 B962
      have R3_969 := Aside0.mk (Kd.R_alloc (R3_960.out) (.cells #[.slice none 0 0] 32))
      clear R3_960
      have t5 : decide ((16 : Int) < (vv.length : Int)) = false := decide_eq_false (by have := Xhvv.out; omega)
      have t6 := eq_false (show ¬ (16 : Int) < (vv.length : Int) by have := Xhvv.out; omega)
      go_wp2_with (first
        | (refine store_whole (w := w) (B := w.heap.size) rfl rfl 32 (.tmp 14) (.tmp 109) rfl (g := w16.heap.size) (cs := #[.slice A3 vv.length c3]) rfl _ rfl rfl (by kernel_rfl) (by simp [Value.oneCell']) V_967.out (rfl) L_V.out B968.out ?_; intro w_970 h1 h2 h3 h4; have R3_971 := Aside0.mk (row_far R3_969.out V_967.out (by decide) h3); have P_972 := Aside0.mk ((h3 _ NE_P_V.out).trans P_963.out); have U_973 := Aside0.mk ((h3 _ NE_U_V.out).trans U_964.out); have S_974 := Aside0.mk ((h3 _ NE_S_V.out).trans S_965.out); have T_975 := Aside0.mk ((h3 _ NE_T_V.out).trans T_966.out); have V_976 := Aside0.mk (h1); have B977 := Aside0.mk (h2); clear h1 h2 h3 h4 R3_969 P_963 U_964 S_965 T_966 V_967 B968; have vc : w_970.cell? ⟨w16.heap.size, 0, none⟩ = some (.slice A3 vv.length c3) := (blk_cell V_976.out 0).trans rfl)
        | (refine wpList_load_row_g (by rfl) 29 (.tmp 12) rfl (w15.heap.size) rfl 29 (SV t) (0, 0) _ T_975.out Try.underlying29 rfl (info29 _) ?_)
        | (refine wpList_load_row_g (by rfl) 32 (.tmp 14) rfl (w16.heap.size) rfl 32 (#[.slice A3 vv.length c3]) (0, 0) _ V_976.out Try.underlying32 rfl (by kernel_rfl) ?_))
      refine (alike_T t A3 c3 vv k5 _ Xhtl.out (R_C57 R3_971.out) HC3.out XhS3.out).mono ?_
      rintro e_ w17 ⟨rfl, hb⟩
      have P_978 := Aside0.mk (blk_below P_972.out hb)
      have U_979 := Aside0.mk (blk_below U_973.out hb)
      have S_980 := Aside0.mk (blk_below S_974.out hb)
      have T_981 := Aside0.mk (blk_below T_975.out hb)
      have V_982 := Aside0.mk (blk_below V_976.out hb)
      have R3_983 := Aside0.mk (Kd.R_below R3_971.out hb)
      have B984 := Aside0.mk (below_step B977.out hb)
      clear hb P_972 U_973 S_974 T_975 V_976 R3_971 B977
      go_wp2_with fail
      go_ret
      exact ⟨rfl, B984.out⟩
theorem pairs_T (A : Option Addr) (c : Nat) (l : List S26) (pk pv : Int) (w : World) (hC : Kd.C k26 w A l.length l) (hcc : l.length ≤ c) :
    Calls Try.prog 7 #[.slice A l.length c, .agg #[.int .u64 pk, .int .u64 pv]] w fun e w' => e = .returned (.bool true) ∧ Below w.heap.size w w' := by
  by_cases hg : 40 < l.length
  · exact pairs_long A c l pk pv w hC hcc hg
  have hg : l.length ≤ 40 := by omega
  obtain ⟨hn1, hn2⟩ := newV_st l
  by_cases ht : (stl l).2 = true
  · exact pairs_dup A c l pk pv w hC hcc hg ht (hn1 ht)
  have ht := Bool.eq_false_iff.2 ht
  obtain ⟨ha, ⟨hf, s, hs0, hr, hs⟩ | ⟨hnw, hf⟩⟩ := hn2 ht
  · generalize hu : (stl l).1 = uu at *
    have hst : stl l = (uu, false) := by rw [← hu, ← ht]
    have hc := hr.card
    obtain ⟨k1, hS⟩ := (hr.sorted (by omega)).1
    obtain ⟨k2, hW⟩ := without_some uu pk (by omega)
    have hr2 := hr.without pk
    have hc2 := hr2.card
    have hw := withoutV_le s pk hs
    obtain ⟨k3, hS2⟩ := (hr2.sorted (by omega)).1
    obtain ⟨k4, hV⟩ := with_some uu pk pv (by omega)
    rcases hr.put hs ⟨pk, pv⟩ with ⟨a1, a2, a3, a4⟩ | ⟨a1, a2, a3⟩
    · obtain ⟨k5, hS3⟩ := (a2.sorted (by omega)).1
      exact pairs_ok A c l pk pv s uu _ k1 k2 k3 k4 _ w hC hcc hg hst hf hs0 hs (by omega) hw hS hW hS2 hV (Prod.ext rfl a1) a3 k5 a4 hS3
    · exact pairs_g A c l pk pv s uu _ k1 k2 k3 k4 w hC hcc hg hst hf hs0 hs (by omega) hw hS hW hS2 hV a1 a2
  · exact pairs_full A c l pk pv w hC hcc hg ht hf hnw
def revenantlaw21_SpecPairs.f (xs : List S26) (a1_0 a1_1 : Int) : Option Bool := if xs.length ≤ 4611686018427387904 then some true else none
theorem revenantlaw21_SpecPairs.calls (A0_ : Option Addr) (c0 : Nat) (xs : List S26) (a1_0 a1_1 : Int) (r : Bool) (w : World) (hr0 : Kd.C k26 w A0_ xs.length xs) (hc0 : xs.length ≤ c0) (h : revenantlaw21_SpecPairs.f xs a1_0 a1_1 = some r) :
    Calls Try.prog 7 #[.slice A0_ xs.length c0, .agg #[.int .u64 a1_0, .int .u64 a1_1]] w fun e w' => e = .returned (.bool r) ∧ Below w.heap.size w w' := by
  unfold revenantlaw21_SpecPairs.f at h
  by_cases hb : xs.length ≤ 4611686018427387904
  · rw [if_pos hb] at h
    obtain rfl := Option.some.inj h
    exact pairs_T A0_ c0 xs _ _ w hr0 hc0
  · rw [if_neg hb] at h; cases h
theorem RSpecPairs (xs : List S26) (a1_0 a1_1 : Int) {P Q R : Prop} (g : P ∧ xs.length * 16 ≤ 140737488351232 ∧ Q) (_ : R) : revenantlaw21_SpecPairs.f xs a1_0 a1_1 = some true := if_pos (by have := g.2.1; omega)
end Go.Proofs.Ytcphmelmieedfab.PSpecExact

