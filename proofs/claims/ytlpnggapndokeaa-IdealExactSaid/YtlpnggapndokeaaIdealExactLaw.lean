/-
The law IdealExact.
-/
import Derived.Test.YtlpnggapndokeaaRefB
namespace Go.Proofs.Ytlpnggapndokeaa.PIdealKeeps
open Go Go.RowKit Go.Proofs.YtlpnggapndokeaaW.PrintWords Go.Proofs.YtlpnggapndokeaaW.PrintLast Go.Proofs.YtlpnggapndokeaaW.PrintMore Go.Proofs.Ytlpnggapndokeaa.M Go.Proofs.Ytlpnggapndokeaa.U
attribute [local go_sem] max2_int min2_int max_two min_two max_three min_three max_four min_four
set_option linter.unusedVariables false
set_option linter.unusedSimpArgs false
/-- The reference: of nothing. -/
theorem refAt0 {w0 w : World} {tu : TypeId} {orow : Option Nat} (hb : w0.heap.size ≤ w.heap.size) (ho : ∀ k, orow = some k → k < w.heap.size) (ex : List Value) : RefAt w0 (w.alloc (.cells (.slice none 0 0 :: .slice none 0 0 :: .slice none 0 0 :: ex).toArray tu)) w.heap.size tu ex orow U0 :=
  ⟨⟨_, _, _, blk_new w _, Kd.R_nil _ _ _ _ _, Kd.R_nil _ _ _ _ _, Kd.R_nil _ _ _ _ _, fun k hk => by simp [Value.ownBlock] at hk, fun k hk => by simp [Value.ownBlock] at hk⟩, hb, fun k hk => by have := ho k hk; simp; omega⟩
set_option maxHeartbeats 16000000 in
set_option maxRecDepth 100000 in
theorem exact09T (A0_ : Option Addr) (c0 : Nat) (xs : List S50) (w : World) (hr0 : Kd.C k50 w A0_ xs.length xs) (hc0 : xs.length ≤ c0) (hG : ∀ x ∈ xs, x.f3.f1 < 9223372036854775808) :
    Calls Try.prog 5 #[.slice A0_ xs.length c0] w fun e w' => e = .returned (.bool true) ∧ Below w.heap.size w w' := by
  have hu25 := Try.underlying25
  have hu28 := Try.underlying28
  have hu23 := Try.underlying23
  have hu44 := Try.underlying44
  have hu50 := Try.underlying50
  have hu38 := Try.underlying38
  have hu58 := Try.underlying58
  have hu60 := Try.underlying60
  have HR := Aside0.mk hr0
  have HC := Aside0.mk hc0
  have HG := Aside0.mk hG
  clear hr0 hc0 hG
  go_enter Try.func5, Try.ntmps5
  go_wp2_with fail
  refine (awake09_T w).mono ?_
  rintro e w1 ⟨rfl, hb⟩
  have B1 := Aside0.mk hb
  clear hb
  go_wp2_with fail
  refine (inew_T w1).mono ?_
  rintro e w2 ⟨gi, g1, g2, gs, g3, rfl, h1, h2⟩
  have I2 := Aside0.mk (h1.rebase (w0 := w) B1.out.size)
  have B2 := Aside0.mk (below_step B1.out h2)
  clear h1 h2 B1
  have I3 := Aside0.mk (show Ref9 w (w2.alloc (.cells #[.slice none 0 0, .slice none 0 0, .slice none 0 0] 60)) gi g1 g2 gs g3 w2.heap.size A0 U0 from ⟨I2.out.alloc _, by
    rw [I2.out.rowSame (fun cs hc => blk_alloc hc _)]
    exact refAt0 B2.out.size I2.out.rowAt_lt []⟩)
  have B3 := Aside0.mk (below_alloc B2.out (.cells #[.slice none 0 0, .slice none 0 0, .slice none 0 0] 60))
  clear I2 B2
  go_wp2_with fail
  generalize w2.alloc (.cells #[.slice none 0 0, .slice none 0 0, .slice none 0 0] 60) = w3 at *
  generalize w2.heap.size = gu at *
  go_loopg [5, 6] xs.length (fun kq v5 v6 w' => ∃ (i nn : Int) (A : ISt) (U : RSt), v5 = .int .i64 nn ∧ v6 = .int .i64 i ∧ Aside0 (0 ≤ i ∧ i ≤ 150 ∧ i + kq = xs.length) ∧ Aside0 (Ref9 w w' gi g1 g2 gs g3 gu A U) ∧ Aside0 (Rel9 A U) ∧ Aside0 (Below w.heap.size w w') ∧ Aside0 (Lok U i.toNat) ∧ Aside0 (Cok A nn) ∧ Aside0 (0 ≤ nn ∧ nn ≤ i))
  case atStart => exact ⟨0, 0, A0, U0, rfl, rfl, ⟨by omega⟩, I3, ⟨rel9_0⟩, B3, ⟨Nat.le_refl _, Nat.le_refl _, Nat.le_refl _⟩, ⟨Int.le_refl _, Int.le_refl _, Int.le_refl _, Int.le_refl _, rfl⟩, ⟨Int.le_refl _, Int.le_refl _⟩⟩
  case round =>
    clear I3 B3
    obtain ⟨i, nn, A, U, rfl, rfl, HK, JI, JR, JB, JL, JC, JN⟩ := hrel
    by_cases hi : i < (xs.length : Int) ∧ i < 150
    · have t1 : decide (i < (xs.length : Int)) = true := decide_eq_true hi.1
      have t2 : decide (i < 150) = true := decide_eq_true hi.2
      have p0 : (0 : Int) ≤ i := HK.out.1
      have q0 : i < (xs.length : Int) := hi.1
      have q1 := Aside0.mk hi.2
      clear hi
      obtain ⟨ko, rfl⟩ : ∃ m, gk = m + 1 := ⟨gk - 1, by have := HK.out; omega⟩
      obtain ⟨ad, e0, HXS⟩ := at_T50 HR.out i p0 q0
      cases e0
      have hgx := HG.out (xs.getD i.toNat z50) (by rw [List.getD_eq_getElem?_getD, List.getElem?_eq_getElem (by omega)]; exact List.getElem_mem _)
      obtain ⟨x, hx⟩ : ∃ x, xs.getD i.toNat z50 = x := ⟨_, rfl⟩
      rw [hx] at HXS hgx
      obtain ⟨hx0, hx1, hx2, hx3, hx4, hx5, hx6, hx7, hx8, hx9, hx10⟩ := HXS
      clear hx
      obtain ⟨kd, ⟨⟨pk, ps, pp⟩, id⟩, ⟨ox, oy, ost⟩, ⟨vx, vy, vst⟩⟩ := x
      have HGX := Aside0.mk (show vy < 9223372036854775808 from hgx)
      have H0 := Aside0.mk (show w.cell? (ad.add (i.toNat * 11)) = some (.int .i64 kd) from hx0)
      clear hgx
      replace hx0 := (JB.out.cell (World.block_lt_of_cell? w _ hx0)).trans hx0
      replace hx1 := (JB.out.cell (World.block_lt_of_cell? w _ hx1)).trans hx1
      replace hx2 := (JB.out.cell (World.block_lt_of_cell? w _ hx2)).trans hx2
      replace hx3 := (JB.out.cell (World.block_lt_of_cell? w _ hx3)).trans hx3
      replace hx4 := (JB.out.cell (World.block_lt_of_cell? w _ hx4)).trans hx4
      replace hx5 := (JB.out.cell (World.block_lt_of_cell? w _ hx5)).trans hx5
      replace hx6 := (JB.out.cell (World.block_lt_of_cell? w _ hx6)).trans hx6
      replace hx7 := (JB.out.cell (World.block_lt_of_cell? w _ hx7)).trans hx7
      replace hx8 := (JB.out.cell (World.block_lt_of_cell? w _ hx8)).trans hx8
      replace hx9 := (JB.out.cell (World.block_lt_of_cell? w _ hx9)).trans hx9
      replace hx10 := (JB.out.cell (World.block_lt_of_cell? w _ hx10)).trans hx10
      have p0b : decide (0 ≤ i) = true := decide_eq_true p0
      have wi : wrap64 (i + 1) = i + 1 := by have := q1.out; unfold wrap64; omega
      have wn : wrap64 (nn + 1) = nn + 1 := by have := JN.out; have := q1.out; unfold wrap64; omega
      replace p0 := eq_true p0
      replace q0 := eq_true q0
      have RI := Aside0.mk (show 0 ≤ i + 1 ∧ i + 1 ≤ 150 ∧ (i + 1).toNat = i.toNat + 1 by have := HK.out; have := q1.out; omega)
      by_cases hv : vy < 0
      · have t3 : decide (vy < 0) = true := decide_eq_true hv
        clear hv
        go_wp2_with fail
        go_ret
        exact ⟨rfl, JB.out⟩
      · have t3 : decide (vy < 0) = false := decide_eq_false hv
        by_cases h9 : pk = 9
        · have t4 : (pk == 9) = true := beq_iff_eq.2 h9
          clear hv h9
          go_wp2_with fail
          go_ret
          exact ⟨rfl, JB.out⟩
        · have t4 : (pk == 9) = false := beq_eq_false_iff_ne.2 h9
          have H9 := Aside0.mk h9
          have HV := Aside0.mk (show 0 ≤ vy ∧ vy < 9223372036854775808 by have := HGX.out; omega)
          clear hv h9
          go_wp2_with fail
          clear hx0 hx1 hx2 hx3 hx4 hx5 hx6 hx7 hx8 hx9 hx10
          by_cases hk : 1 ≤ kd ∧ kd ≤ 5
          · have t5 : decide (kd ≥ 1) = true := decide_eq_true hk.1
            have t6 : decide (kd ≤ 5) = true := decide_eq_true hk.2
            refine (does9_T gi g1 g2 gs g3 gu A U kd pk ps pp id ox oy ost vx vy vst i.toNat nn (nn + 1) w wr JI.out JB.out JR.out JL.out (by have := q1.out; omega) JC.out (by have := JN.out; have := q1.out; omega) H9.out HV.out (by rw [if_pos hk])).mono ?_
            rintro e w5 ⟨rfl, A', U', h1, h2, h3, h4, h5⟩
            have ZI := Aside0.mk h1
            have ZR := Aside0.mk h2
            have ZB := Aside0.mk h3
            have ZL := Aside0.mk (show Lok U' (i + 1).toNat by rw [RI.out.2.2]; exact h4)
            have ZC := Aside0.mk h5
            have hz0 := (ZB.out.cell (World.block_lt_of_cell? w _ H0.out)).trans H0.out
            clear hk h1 h2 h3 h4 h5
            go_wp2_with fail
            go_roundg ko
            case rel => exact ⟨i + 1, nn + 1, A', U', by first | rfl | rw [wn], by first | rfl | rw [wi], ⟨by have := HK.out; have := RI.out; omega⟩, ZI, ZR, ZB, ZL, ZC, ⟨by have := JN.out; omega⟩⟩
            case measure => exact Nat.lt_succ_self _
          · have tt : decide (kd ≥ 1) = false ∨ (decide (kd ≥ 1) = true ∧ decide (kd ≤ 5) = false) := by
              by_cases h : kd ≥ 1
              · exact .inr ⟨decide_eq_true h, decide_eq_false (fun h2 => hk ⟨h, h2⟩)⟩
              · exact .inl (decide_eq_false h)
            refine (does9_T gi g1 g2 gs g3 gu A U kd pk ps pp id ox oy ost vx vy vst i.toNat nn nn w wr JI.out JB.out JR.out JL.out (by have := q1.out; omega) JC.out (by have := JN.out; have := q1.out; omega) H9.out HV.out (by rw [if_neg hk, Int.add_zero])).mono ?_
            rintro e w5 ⟨rfl, A', U', h1, h2, h3, h4, h5⟩
            have ZI := Aside0.mk h1
            have ZR := Aside0.mk h2
            have ZB := Aside0.mk h3
            have ZL := Aside0.mk (show Lok U' (i + 1).toNat by rw [RI.out.2.2]; exact h4)
            have ZC := Aside0.mk h5
            have hz0 := (ZB.out.cell (World.block_lt_of_cell? w _ H0.out)).trans H0.out
            clear hk h1 h2 h3 h4 h5
            rcases tt with t5 | ⟨t5, t6⟩
            all_goals
              go_wp2_with fail
              go_roundg ko
              case rel => exact ⟨i + 1, nn, A', U', rfl, by first | rfl | rw [wi], ⟨by have := HK.out; have := RI.out; omega⟩, ZI, ZR, ZB, ZL, ZC, ⟨by have := JN.out; omega⟩⟩
              case measure => exact Nat.lt_succ_self _
    · have tt : decide (i < (xs.length : Int)) = false ∨ (decide (i < (xs.length : Int)) = true ∧ decide (i < 150) = false) := by
        by_cases h : i < (xs.length : Int)
        · exact .inr ⟨decide_eq_true h, decide_eq_false (fun h2 => hi ⟨h, h2⟩)⟩
        · exact .inl (decide_eq_false h)
      clear hi
      obtain ⟨s1, hs1⟩ : ∃ s, A.c1 + A.c2 = s := ⟨_, rfl⟩
      obtain ⟨s2, hs2⟩ : ∃ s, s1 + A.c3 = s := ⟨_, rfl⟩
      have b1 : wrap64 (A.c1 + A.c2) = s1 := by have := JC.out; have := JN.out; have := HK.out; unfold Cok at *; unfold wrap64; omega
      have b2 : wrap64 (s1 + A.c3) = s2 := by have := JC.out; have := JN.out; have := HK.out; unfold Cok at *; unfold wrap64; omega
      have b3 : wrap64 (s2 + A.c5) = nn := by have := JC.out; have := JN.out; have := HK.out; unfold Cok at *; unfold wrap64; omega
      clear hs1 hs2
      rcases tt with t1 | ⟨t1, t2⟩
      all_goals
        go_wp2_with fail
        refine (icount_T gi g1 g2 gs g3 A w wr JI.out.I).mono ?_
        rintro e w8 ⟨rfl, hb⟩
        obtain ⟨c1, hc1⟩ : ∃ z, A.c1 = z := ⟨_, rfl⟩
        obtain ⟨c2, hc2⟩ : ∃ z, A.c2 = z := ⟨_, rfl⟩
        obtain ⟨c3, hc3⟩ : ∃ z, A.c3 = z := ⟨_, rfl⟩
        obtain ⟨c4, hc4⟩ : ∃ z, A.c4 = z := ⟨_, rfl⟩
        obtain ⟨c5, hc5⟩ : ∃ z, A.c5 = z := ⟨_, rfl⟩
        rw [hc1, hc2, hc3, hc4, hc5]
        rw [hc1, hc2] at b1
        rw [hc3] at b2
        rw [hc5] at b3
        have K8 := Aside0.mk (blk_drew (blk_new w8 (.cells #[.int .i64 c1, .int .i64 c2, .int .i64 c3, .int .i64 c4, .int .i64 c5] 38)))
        have I8 := Aside0.mk ((JI.out.below hb).alloc (.cells #[.int .i64 c1, .int .i64 c2, .int .i64 c3, .int .i64 c4, .int .i64 c5] 38)).drew
        have B8 := Aside0.mk (below_drew (below_alloc (below_step JB.out hb) (.cells #[.int .i64 c1, .int .i64 c2, .int .i64 c3, .int .i64 c4, .int .i64 c5] 38)))
        clear hb hc1 hc2 hc3 hc4 hc5
        go_wp2_with fail
        obtain ⟨vW, vL, vR, hbu, _, _, hRr, _⟩ := I8.out.R.h
        obtain ⟨Ar, cr, er, _, _⟩ := Kd.R_reads hRr
        subst er
        obtain ⟨vS, hvS⟩ := I8.out.I.soul
        have HVS := Aside0.mk hvS
        have HBU := Aside0.mk hbu
        have RL := Aside0.mk (show (A.row.length : Int) = U.R.length by rw [JR.out.row])
        clear hbu hRr hvS
        generalize w8.alloc (.cells #[.int .i64 c1, .int .i64 c2, .int .i64 c3, .int .i64 c4, .int .i64 c5] 38) = w9 at *
        generalize w8.heap.size = gk8 at *
        refine start_ (n := 26) (S := fun w' => w'.cell? ⟨gk8, 0, none⟩ = some (.int .i64 c1) ∧ w'.cell? ⟨gk8, 1, none⟩ = some (.int .i64 c2) ∧ w'.cell? ⟨gk8, 2, none⟩ = some (.int .i64 c3) ∧ w'.cell? ⟨gk8, 4, none⟩ = some (.int .i64 c5) ∧ w'.cell? ⟨gu, 2, none⟩ = some (.slice Ar U.R.length cr)) (ds := []) #[false, false, false, false, false, false, false, false, false, false, false, false, false, false, false, false, false, false, false, false, false, false, false, false, false, false] (by kernel_rfl) rfl rfl ⟨(blk_cell K8.out 0).trans rfl, (blk_cell K8.out 1).trans rfl, (blk_cell K8.out 2).trans rfl, (blk_cell K8.out 4).trans rfl, (blk_cell HBU.out 2).trans rfl⟩ (fun hHeld => ?_)
        refine pure_ (i := 0) (N := some 66) (v := ?_) (a' := ?_) #[true, false, false, false, false, false, false, false, false, false, false, false, false, false, false, false, false, false, false, false, false, false, false, false, false, false] rfl rfl (by kernel_rfl) (fun _ _ _ h => h) (Or.inl ⟨by rfl, ?_⟩) ?_ ?_
        rotate_left
        · intro w'
          go_simp
          with_reducible rfl
        rotate_left
        · simp only [Act.put, List.setIfInBounds_toArray, List.set_cons_zero, List.set_cons_succ, i64_w, i32_w]
          rfl
        refine pure_ (i := 2) (N := some 68) (v := ?_) (a' := ?_) #[true, false, true, false, false, false, false, false, false, false, false, false, false, false, false, false, false, false, false, false, false, false, false, false, false, false] rfl rfl (by kernel_rfl) (fun _ _ _ h => h) (Or.inl ⟨by rfl, ?_⟩) ?_ ?_
        rotate_left
        · intro w'
          go_simp
          with_reducible rfl
        rotate_left
        · simp only [Act.put, List.setIfInBounds_toArray, List.set_cons_zero, List.set_cons_succ, i64_w, i32_w]
          rfl
        refine pure_ (i := 5) (N := some 71) (v := ?_) (a' := ?_) #[true, false, true, false, false, true, false, false, false, false, false, false, false, false, false, false, false, false, false, false, false, false, false, false, false, false] rfl rfl (by kernel_rfl) (fun _ _ _ h => h) (Or.inl ⟨by rfl, ?_⟩) ?_ ?_
        rotate_left
        · intro w'
          go_simp
          with_reducible rfl
        rotate_left
        · simp only [Act.put, List.setIfInBounds_toArray, List.set_cons_zero, List.set_cons_succ, i64_w, i32_w]
          rfl
        refine pure_ (i := 8) (N := some 74) (v := ?_) (a' := ?_) #[true, false, true, false, false, true, false, false, true, false, false, false, false, false, false, false, false, false, false, false, false, false, false, false, false, false] rfl rfl (by kernel_rfl) (fun _ _ _ h => h) (Or.inl ⟨by rfl, ?_⟩) ?_ ?_
        rotate_left
        · intro w'
          go_simp
          with_reducible rfl
        rotate_left
        · simp only [Act.put, List.setIfInBounds_toArray, List.set_cons_zero, List.set_cons_succ, i64_w, i32_w]
          rfl
        refine pure_ (i := 11) (N := some 77) (v := ?_) (a' := ?_) #[true, false, true, false, false, true, false, false, true, false, false, true, false, false, false, false, false, false, false, false, false, false, false, false, false, false] rfl rfl (by kernel_rfl) (fun _ _ _ h => h) (Or.inl ⟨by rfl, ?_⟩) ?_ ?_
        rotate_left
        · intro w'
          go_simp
          with_reducible rfl
        rotate_left
        · simp only [Act.put, List.setIfInBounds_toArray, List.set_cons_zero, List.set_cons_succ, i64_w, i32_w]
          rfl
        refine take_ (i := 1) (N := some 67) (v := ?_) (a' := ?_) #[true, true, true, false, false, true, false, false, true, false, false, true, false, false, false, false, false, false, false, false, false, false, false, false, false, false] rfl rfl (by kernel_rfl) (fun _ _ _ h => h) (Or.inl ⟨by rfl, ?_⟩) hHeld ?_ ?_
        rotate_left
        · rintro w' ⟨s0, s1, s2, s3, s4⟩
          go_simp
          with_reducible rfl
        rotate_left
        · simp only [Act.put, List.setIfInBounds_toArray, List.set_cons_zero, List.set_cons_succ, i64_w, i32_w]
          rfl
        refine take_ (i := 3) (N := some 69) (v := ?_) (a' := ?_) #[true, true, true, true, false, true, false, false, true, false, false, true, false, false, false, false, false, false, false, false, false, false, false, false, false, false] rfl rfl (by kernel_rfl) (fun _ _ _ h => h) (Or.inl ⟨by rfl, ?_⟩) hHeld ?_ ?_
        rotate_left
        · rintro w' ⟨s0, s1, s2, s3, s4⟩
          go_simp
          with_reducible rfl
        rotate_left
        · simp only [Act.put, List.setIfInBounds_toArray, List.set_cons_zero, List.set_cons_succ, i64_w, i32_w]
          rfl
        refine pure_ (i := 4) (N := some 70) (v := ?_) (a' := ?_) #[true, true, true, true, true, true, false, false, true, false, false, true, false, false, false, false, false, false, false, false, false, false, false, false, false, false] rfl rfl (by kernel_rfl) (fun _ _ _ h => h) (Or.inl ⟨by rfl, ?_⟩) ?_ ?_
        rotate_left
        · intro w'
          go_simp
          with_reducible rfl
        rotate_left
        · simp only [Act.put, List.setIfInBounds_toArray, List.set_cons_zero, List.set_cons_succ, i64_w, i32_w]
          rfl
        refine take_ (i := 6) (N := some 72) (v := ?_) (a' := ?_) #[true, true, true, true, true, true, true, false, true, false, false, true, false, false, false, false, false, false, false, false, false, false, false, false, false, false] rfl rfl (by kernel_rfl) (fun _ _ _ h => h) (Or.inl ⟨by rfl, ?_⟩) hHeld ?_ ?_
        rotate_left
        · rintro w' ⟨s0, s1, s2, s3, s4⟩
          go_simp
          with_reducible rfl
        rotate_left
        · simp only [Act.put, List.setIfInBounds_toArray, List.set_cons_zero, List.set_cons_succ, i64_w, i32_w]
          rfl
        refine pure_ (i := 7) (N := some 73) (v := ?_) (a' := ?_) #[true, true, true, true, true, true, true, true, true, false, false, true, false, false, false, false, false, false, false, false, false, false, false, false, false, false] rfl rfl (by kernel_rfl) (fun _ _ _ h => h) (Or.inl ⟨by rfl, ?_⟩) ?_ ?_
        rotate_left
        · intro w'
          go_simp
          with_reducible rfl
        rotate_left
        · simp only [Act.put, List.setIfInBounds_toArray, List.set_cons_zero, List.set_cons_succ, i64_w, i32_w]
          rfl
        refine take_ (i := 9) (N := some 75) (v := ?_) (a' := ?_) #[true, true, true, true, true, true, true, true, true, true, false, true, false, false, false, false, false, false, false, false, false, false, false, false, false, false] rfl rfl (by kernel_rfl) (fun _ _ _ h => h) (Or.inl ⟨by rfl, ?_⟩) hHeld ?_ ?_
        rotate_left
        · rintro w' ⟨s0, s1, s2, s3, s4⟩
          go_simp
          with_reducible rfl
        rotate_left
        · simp only [Act.put, List.setIfInBounds_toArray, List.set_cons_zero, List.set_cons_succ, i64_w, i32_w]
          rfl
        refine pure_ (i := 10) (N := some 76) (v := ?_) (a' := ?_) #[true, true, true, true, true, true, true, true, true, true, true, true, false, false, false, false, false, false, false, false, false, false, false, false, false, false] rfl rfl (by kernel_rfl) (fun _ _ _ h => h) (Or.inl ⟨by rfl, ?_⟩) ?_ ?_
        rotate_left
        · intro w'
          go_simp
          with_reducible rfl
        rotate_left
        · simp only [Act.put, List.setIfInBounds_toArray, List.set_cons_zero, List.set_cons_succ, i64_w, i32_w]
          rfl
        refine pure_ (i := 12) (N := some 78) (v := ?_) (a' := ?_) #[true, true, true, true, true, true, true, true, true, true, true, true, true, false, false, false, false, false, false, false, false, false, false, false, false, false] rfl rfl (by kernel_rfl) (fun _ _ _ h => h) (Or.inl ⟨by rfl, ?_⟩) ?_ ?_
        rotate_left
        · intro w'
          go_simp
          with_reducible rfl
        rotate_left
        · simp only [Act.put, List.setIfInBounds_toArray, List.set_cons_zero, List.set_cons_succ, i64_w, i32_w]
          rfl
        refine pure_ (i := 13) (N := some 79) (v := ?_) (a' := ?_) #[true, true, true, true, true, true, true, true, true, true, true, true, true, true, false, false, false, false, false, false, false, false, false, false, false, false] rfl rfl (by kernel_rfl) (fun _ _ _ h => h) (Or.inl ⟨by rfl, ?_⟩) ?_ ?_
        rotate_left
        · intro w'
          go_simp
          with_reducible rfl
        rotate_left
        · simp only [Act.put, List.setIfInBounds_toArray, List.set_cons_zero, List.set_cons_succ, i64_w, i32_w]
          rfl
        refine pure_ (i := 14) (N := some 80) (v := ?_) (a' := ?_) #[true, true, true, true, true, true, true, true, true, true, true, true, true, true, true, false, false, false, false, false, false, false, false, false, false, false] rfl rfl (by kernel_rfl) (fun _ _ _ h => h) (Or.inl ⟨by rfl, ?_⟩) ?_ ?_
        rotate_left
        · intro w'
          go_simp
          with_reducible rfl
        rotate_left
        · simp only [Act.put, List.setIfInBounds_toArray, List.set_cons_zero, List.set_cons_succ, i64_w, i32_w]
          rfl
        refine pure_ (i := 17) (N := some 83) (v := ?_) (a' := ?_) #[true, true, true, true, true, true, true, true, true, true, true, true, true, true, true, false, false, true, false, false, false, false, false, false, false, false] rfl rfl (by kernel_rfl) (fun _ _ _ h => h) (Or.inl ⟨by rfl, ?_⟩) ?_ ?_
        rotate_left
        · intro w'
          go_simp
          with_reducible rfl
        rotate_left
        · simp only [Act.put, List.setIfInBounds_toArray, List.set_cons_zero, List.set_cons_succ, i64_w, i32_w]
          rfl
        refine pure_ (i := 18) (N := some 84) (v := ?_) (a' := ?_) #[true, true, true, true, true, true, true, true, true, true, true, true, true, true, true, false, false, true, true, false, false, false, false, false, false, false] rfl rfl (by kernel_rfl) (fun _ _ _ h => h) (Or.inl ⟨by rfl, ?_⟩) ?_ ?_
        rotate_left
        · intro w'
          go_simp
          with_reducible rfl
        rotate_left
        · simp only [Act.put, List.setIfInBounds_toArray, List.set_cons_zero, List.set_cons_succ, i64_w, i32_w]
          rfl
        refine pure_ (i := 19) (N := some 85) (v := ?_) (a' := ?_) #[true, true, true, true, true, true, true, true, true, true, true, true, true, true, true, false, false, true, true, true, false, false, false, false, false, false] rfl rfl (by kernel_rfl) (fun _ _ _ h => h) (Or.inl ⟨by rfl, ?_⟩) ?_ ?_
        rotate_left
        · intro w'
          go_simp
          with_reducible rfl
        rotate_left
        · simp only [Act.put, List.setIfInBounds_toArray, List.set_cons_zero, List.set_cons_succ, i64_w, i32_w]
          rfl
        refine pure_ (i := 20) (N := some 86) (v := ?_) (a' := ?_) #[true, true, true, true, true, true, true, true, true, true, true, true, true, true, true, false, false, true, true, true, true, false, false, false, false, false] rfl rfl (by kernel_rfl) (fun _ _ _ h => h) (Or.inl ⟨by rfl, ?_⟩) ?_ ?_
        rotate_left
        · intro w'
          go_simp
          with_reducible rfl
        rotate_left
        · simp only [Act.put, List.setIfInBounds_toArray, List.set_cons_zero, List.set_cons_succ, i64_w, i32_w]
          rfl
        refine take_ (i := 21) (N := some 87) (v := ?_) (a' := ?_) #[true, true, true, true, true, true, true, true, true, true, true, true, true, true, true, false, false, true, true, true, true, true, false, false, false, false] rfl rfl (by kernel_rfl) (fun _ _ _ h => h) (Or.inl ⟨by rfl, ?_⟩) hHeld ?_ ?_
        rotate_left
        · rintro w' ⟨s0, s1, s2, s3, s4⟩
          go_simp
          with_reducible rfl
        rotate_left
        · simp only [Act.put, List.setIfInBounds_toArray, List.set_cons_zero, List.set_cons_succ, i64_w, i32_w]
          rfl
        refine pure_ (i := 22) (N := some 88) (v := ?_) (a' := ?_) #[true, true, true, true, true, true, true, true, true, true, true, true, true, true, true, false, false, true, true, true, true, true, true, false, false, false] rfl rfl (by kernel_rfl) (fun _ _ _ h => h) (Or.inl ⟨by rfl, ?_⟩) ?_ ?_
        rotate_left
        · intro w'
          go_simp
          with_reducible rfl
        rotate_left
        · simp only [Act.put, List.setIfInBounds_toArray, List.set_cons_zero, List.set_cons_succ, i64_w, i32_w]
          rfl
        refine one_ (i := 15) (N := some 81) #[true, true, true, true, true, true, true, true, true, true, true, true, true, true, true, true, false, true, true, true, true, true, true, false, false, false] rfl rfl (by kernel_rfl) (by decide) (fun K hK => ?_)
        refine goes_ Try.func23 (by kernel_rfl) rfl #[.pointer (some ⟨gi, 0, none⟩)] (by rfl) rfl rfl (by simp only [List.map_toArray, List.map_cons, List.map_nil]; rfl) ?_
        with_reducible refine (isouls_T gi g1 g2 gs g3 A w _ I8.out.I).mono ?_
        rintro e w10 ⟨rfl, rfl⟩
        refine ⟨_, rfl, ?_⟩
        refine hK.out _ _ ⟨(blk_cell K8.out 0).trans rfl, (blk_cell K8.out 1).trans rfl, (blk_cell K8.out 2).trans rfl, (blk_cell K8.out 4).trans rfl, (blk_cell HBU.out 2).trans rfl⟩ (fun hHeld => ?_)
        clear hK K
        refine norm_ (a' := ?_) ?_ ?_
        rotate_left
        · show Act.put _ (some 81) _ = _
          simp only [Act.put, List.setIfInBounds_toArray, List.set_cons_zero, List.set_cons_succ, i64_w, i32_w]
          rfl
        refine one_ (i := 16) (N := some 82) #[true, true, true, true, true, true, true, true, true, true, true, true, true, true, true, true, true, true, true, true, true, true, true, false, false, false] rfl rfl (by kernel_rfl) (by decide) (fun K hK => ?_)
        refine goes_ Try.func29 (by kernel_rfl) rfl #[.pointer (some ⟨gs, 0, none⟩)] (by rfl) rfl rfl (by simp only [List.map_toArray, List.map_cons, List.map_nil]; rfl) ?_
        with_reducible refine (soulCount_T gs g3 vS A.now A.row w _ HVS.out).mono ?_
        rintro e w11 ⟨rfl, hb⟩
        refine ⟨_, rfl, ?_⟩
        rw [RL.out]
        have B11 := Aside0.mk (below_step B8.out hb)
        have K11 := Aside0.mk (blk_below K8.out hb)
        have U11 := Aside0.mk (blk_below HBU.out hb)
        clear hb
        refine hK.out _ _ ⟨(blk_cell K11.out 0).trans rfl, (blk_cell K11.out 1).trans rfl, (blk_cell K11.out 2).trans rfl, (blk_cell K11.out 4).trans rfl, (blk_cell U11.out 2).trans rfl⟩ (fun hHeld => ?_)
        clear hK K
        refine norm_ (a' := ?_) ?_ ?_
        rotate_left
        · show Act.put _ (some 82) _ = _
          simp only [Act.put, List.setIfInBounds_toArray, List.set_cons_zero, List.set_cons_succ, i64_w, i32_w]
          rfl
        refine pure_ (i := 23) (N := some 89) (v := ?_) (a' := ?_) #[true, true, true, true, true, true, true, true, true, true, true, true, true, true, true, true, true, true, true, true, true, true, true, true, false, false] rfl rfl (by kernel_rfl) (fun _ _ _ h => h) (Or.inl ⟨by rfl, ?_⟩) ?_ ?_
        rotate_left
        · intro w'
          go_simp
          with_reducible rfl
        rotate_left
        · simp only [Act.put, List.setIfInBounds_toArray, List.set_cons_zero, List.set_cons_succ, i64_w, i32_w]
          rfl
        refine pure_ (i := 24) (N := some 90) (v := ?_) (a' := ?_) #[true, true, true, true, true, true, true, true, true, true, true, true, true, true, true, true, true, true, true, true, true, true, true, true, true, false] rfl rfl (by kernel_rfl) (fun _ _ _ h => h) (Or.inl ⟨by rfl, ?_⟩) ?_ ?_
        rotate_left
        · intro w'
          go_simp
          with_reducible rfl
        rotate_left
        · simp only [Act.put, List.setIfInBounds_toArray, List.set_cons_zero, List.set_cons_succ, i64_w, i32_w]
          rfl
        refine pure_ (i := 25) (N := some 2) (v := ?_) (a' := ?_) #[true, true, true, true, true, true, true, true, true, true, true, true, true, true, true, true, true, true, true, true, true, true, true, true, true, true] rfl rfl (by kernel_rfl) (fun _ _ _ h => h) (Or.inl ⟨by rfl, ?_⟩) ?_ ?_
        rotate_left
        · intro w'
          go_simp
          with_reducible rfl
        rotate_left
        · simp only [Act.put, List.setIfInBounds_toArray, List.set_cons_zero, List.set_cons_succ, i64_w, i32_w]
          rfl
        refine done_ (by kernel_rfl) ?_
        go_wp2_with fail
        go_ret
        exact ⟨rfl, B11.out⟩
def revenantlaw09_IdealExact.f (xs : List S50) : Option Bool := if ∀ x ∈ xs, x.f3.f1 < 9223372036854775808 then some true else none
theorem revenantlaw09_IdealExact.calls (A0_ : Option Addr) (c0 : Nat) (xs : List S50) (r : Bool) (w : World) (hr0 : Kd.C k50 w A0_ xs.length xs) (hc0 : xs.length ≤ c0) (h : revenantlaw09_IdealExact.f xs = some r) :
    Calls Try.prog 5 #[.slice A0_ xs.length c0] w fun e w' => e = .returned (.bool r) ∧ Below w.heap.size w w' := by
  unfold revenantlaw09_IdealExact.f at h
  by_cases hw : ∀ x ∈ xs, x.f3.f1 < 9223372036854775808
  · rw [if_pos hw] at h
    obtain rfl := Option.some.inj h
    exact exact09T A0_ c0 xs w hr0 hc0 hw
  · rw [if_neg hw] at h
    cases h
theorem RIdealExact (xs : List S50) {P Q : Prop} {B1 B2 B3 B4 B5 : S50 → Prop} (g : P ∧ Q ∧ ∀ x ∈ xs, B1 x ∧ B2 x ∧ B3 x ∧ B4 x ∧ (Lit.int .i64 x.f3.f1).wf = true ∧ B5 x) : revenantlaw09_IdealExact.f xs = some true := if_pos (fun x hx => by have := wf_i64.1 (g.2.2 x hx).2.2.2.2.1; omega)
end Go.Proofs.Ytlpnggapndokeaa.PIdealKeeps

