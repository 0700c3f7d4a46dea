/-
The law ShadeExact.
-/
import Derived.Test.YtlpnggapndokeaaRefS
import Derived.Test.YtlpnggapndokeaaShadeAwX
namespace Go.Proofs.Ytlpnggapndokeaa.PIdealKeeps
open Go Go.RowKit Go.Proofs.YtlpnggapndokeaaW.PrintWords Go.Proofs.YtlpnggapndokeaaW.PrintLast Go.Proofs.YtlpnggapndokeaaW.PrintMore Go.Proofs.Ytlpnggapndokeaa.M Go.Proofs.Ytlpnggapndokeaa.U
attribute [local go_sem] max2_int min2_int max_two min_two max_three min_three max_four min_four
set_option linter.unusedVariables false
set_option linter.unusedSimpArgs false
theorem refAt0 {w0 w : World} {tu : TypeId} {orow : Option Nat} (hb : w0.heap.size ≤ w.heap.size) (ho : ∀ k, orow = some k → k < w.heap.size) (ex : List Value) : RefAt w0 (w.alloc (.cells (.slice none 0 0 :: .slice none 0 0 :: .slice none 0 0 :: ex).toArray tu)) w.heap.size tu ex orow U0 :=
  ⟨⟨_, _, _, blk_new w _, Kd.R_nil _ _ _ _ _, Kd.R_nil _ _ _ _ _, Kd.R_nil _ _ _ _ _, fun k hk => by simp [Value.ownBlock] at hk, fun k hk => by simp [Value.ownBlock] at hk⟩, hb, fun k hk => by have := ho k hk; simp; omega⟩
set_option maxHeartbeats 16000000 in
set_option maxRecDepth 100000 in
theorem exact10T (A0_ A1_ : Option Addr) (c0 c1 : Nat) (ws : List Int) (xs : List S89) (w : World) (hr0 : Kd.C (Kd.int .u64) w A0_ ws.length ws) (hc0 : ws.length ≤ c0) (hr1 : Kd.C k89 w A1_ xs.length xs) (hc1 : xs.length ≤ c1) (hw : ws.length ≤ 17592186044416) (hG : ∀ x ∈ xs, x.f3.f1 < 9223372036854775808) :
    Calls Try.prog 11 #[.slice A0_ ws.length c0, .slice A1_ xs.length c1] w fun e w' => e = .returned (.bool true) ∧ Below w.heap.size w w' := by
  have hu25 := Try.underlying25
  have hu28 := Try.underlying28
  have hu23 := Try.underlying23
  have hu83 := Try.underlying83
  have hu89 := Try.underlying89
  have hu38 := Try.underlying38
  have hu74 := Try.underlying74
  have hu76 := Try.underlying76
  have hu88 := Try.underlying88
  have HW := Aside0.mk hr0
  have HWC := Aside0.mk hc0
  have HWL := Aside0.mk hw
  have HR := Aside0.mk hr1
  have HC := Aside0.mk hc1
  have HG := Aside0.mk hG
  clear hr0 hc0 hr1 hc1 hw hG
  go_enter Try.func11, Try.ntmps11
  go_wp2_with fail
  refine (awake10_T w).mono ?_
  rintro e w1 ⟨rfl, hb⟩
  have B1 := Aside0.mk hb
  clear hb
  go_wp2_with fail
  refine (snew_T A0_ c0 ws w1 (Kd.C_below HW.out B1.out) HWC.out HWL.out).mono ?_
  rintro e w2 ⟨gh, gg, gp, gc, gm, gl, gs, g3, sv, rfl, h1, h2⟩
  have I2 := Aside0.mk (h1.rebase (w0 := w) B1.out.size)
  have B2 := Aside0.mk (below_step B1.out h2)
  clear h1 h2 B1
  have HE := Aside0.mk (R_empty (Kd.int .u64) 26 w2 (fun _ => True) trivial)
  go_wp2_with (first | ((with_reducible refine gate_builtin (b := .append) (xs := #[.tmp 14, .tmp 15]) rfl ?_); at_builtin; refine Kd.R_append_rows (Kd.int .u64) (w0 := w2) w2.heap.size rfl (.tmp 14) (.tmp 15) 82 26 (.int .u64 0) 8 rfl Try.underlying82 infoC26 rfl (by decide) (by omega) (.slice (some ⟨w2.heap.size, 0, none⟩) 0 0) [] ws _ _ _ (fun _ => True) (fun _ => False) rfl rfl ?aO ?aR (fun _ _ h => h) (fun _ h => h.elim) ?aF ?aB ?aS ?aL ?_; (case aO => exact HE.out); (case aR => exact Kd.C_below HW.out (below_alloc B2.out _)); (case aF => exact fun _ _ => trivial); (case aB => exact below_alloc (Below.refl _ _) _); (case aS => exact (below_alloc (Below.refl w2.heap.size w2) _).size); (case aL => exact (by have := HWL.out; simp only [List.length_nil]; omega)); intro v1 w3 R1 B1_ G1 O1; rw [List.nil_append] at R1; obtain ⟨Aw, cw, e1, hk1, hC1⟩ := Kd.R_reads R1; subst e1; have RW := Aside0.mk R1; have RB := Aside0.mk B1_; clear R1 B1_ G1 O1 hk1 hC1))
  have hb := below_alloc RB.out (.cells #[.slice none 0 0, .slice none 0 0, .slice none 0 0, .int .i64 0, .int .i64 0, .slice Aw ws.length cw] 88)
  have M3 := Aside0.mk (I2.out.below hb)
  have Q3 := Aside0.mk (show RefAt w (w3.alloc (.cells #[.slice none 0 0, .slice none 0 0, .slice none 0 0, .int .i64 0, .int .i64 0, .slice Aw ws.length cw] 88)) w3.heap.size 88 (.int .i64 G0.faults :: .int .i64 G0.stale :: .slice Aw ws.length cw :: []) (rowAt (w3.alloc (.cells #[.slice none 0 0, .slice none 0 0, .slice none 0 0, .int .i64 0, .int .i64 0, .slice Aw ws.length cw] 88)) gs) U0 by
    rw [I2.out.ghost.rowSame (fun cs hc => blk_below hc hb)]
    exact refAt0 (Nat.le_trans B2.out.size RB.out.size) (fun k hk => Nat.lt_of_lt_of_le (I2.out.ghost.rowAt_lt hk) RB.out.size) [.int .i64 0, .int .i64 0, .slice Aw ws.length cw])
  have B3 := Aside0.mk (below_step B2.out hb)
  have W3 := Aside0.mk (Kd.R_below (Kd.R_lower RW.out B2.out.size) (below_alloc (Below.refl _ _) (.cells #[.slice none 0 0, .slice none 0 0, .slice none 0 0, .int .i64 0, .int .i64 0, .slice Aw ws.length cw] 88)))
  clear I2 B2 hb RW RB HE
  generalize w3.alloc (.cells #[.slice none 0 0, .slice none 0 0, .slice none 0 0, .int .i64 0, .int .i64 0, .slice Aw ws.length cw] 88) = w4 at *
  generalize w3.heap.size = gu at *
  obtain ⟨vws, hvw⟩ : ∃ z, Value.slice Aw ws.length cw = z := ⟨_, rfl⟩
  rw [hvw] at Q3 W3
  clear hvw
  go_loopg [7] xs.length (fun kq v7 w' => ∃ (i : Int) (G : GSt) (U : RSt), v7 = .int .i64 i ∧ Aside0 (0 ≤ i ∧ i ≤ 150 ∧ i + kq = xs.length) ∧ Aside0 (ShadeIs w w' gh gg gp gc gm gl gs g3 G sv ws) ∧ Aside0 (RefAt w w' gu 88 (.int .i64 G.faults :: .int .i64 G.stale :: vws :: []) (rowAt w' gs) U) ∧ Aside0 (Rel8 G U) ∧ Aside0 (Below w.heap.size w w') ∧ Aside0 (Lok U i.toNat) ∧ Aside0 (StOk G i.toNat) ∧ Aside0 ((Kd.int .u64).R 26 w' w.heap.size (fun _ => True) vws ws))
  case atStart => exact ⟨0, G0, U0, rfl, ⟨by omega⟩, M3, Q3, ⟨rel8_0⟩, B3, ⟨Nat.le_refl _, Nat.le_refl _, Nat.le_refl _⟩, ⟨Int.le_refl _, Int.le_refl _⟩, W3⟩
  case round =>
    clear M3 Q3 B3 W3
    obtain ⟨i, G, U, rfl, HK, JM, JQ, JR, JB, JL, JS, JW⟩ := hrel
    by_cases hi : i < (xs.length : Int) ∧ i < 150
    · have t1 : decide (i < (xs.length : Int)) = true := decide_eq_true hi.1
      have t2 : decide (i < 150) = true := decide_eq_true hi.2
      have p0 : (0 : Int) ≤ i := HK.out.1
      have q0 : i < (xs.length : Int) := hi.1
      have q1 := Aside0.mk hi.2
      clear hi
      obtain ⟨ko, rfl⟩ : ∃ m, gk = m + 1 := ⟨gk - 1, by have := HK.out; omega⟩
      obtain ⟨ad, e0, HXS⟩ := at_T89 HR.out i p0 q0
      cases e0
      have hgx := HG.out (xs.getD i.toNat z89) (by rw [List.getD_eq_getElem?_getD, List.getElem?_eq_getElem (by omega)]; exact List.getElem_mem _)
      obtain ⟨x, hx⟩ : ∃ x, xs.getD i.toNat z89 = x := ⟨_, rfl⟩
      rw [hx] at HXS hgx
      obtain ⟨hx0, hx1, hx2, hx3, hx4, hx5, hx6, hx7, hx8, hx9, hx10⟩ := HXS
      clear hx
      obtain ⟨kd, ⟨⟨pk, ps, pp⟩, id⟩, ⟨ox, oy, ost⟩, ⟨vx, vy, vst⟩⟩ := x
      have HGX := Aside0.mk (show vy < 9223372036854775808 from hgx)
      clear hgx
      have H0 := Aside0.mk (show w.cell? (ad.add (i.toNat * 11)) = some (.int .i64 kd) from hx0)
      have H1 := Aside0.mk (show w.cell? ⟨(ad.add (i.toNat * 11)).block, (ad.add (i.toNat * 11)).off + 1, none⟩ = some (.int .i64 pk) from hx1)
      have H2 := Aside0.mk (show w.cell? ⟨(ad.add (i.toNat * 11)).block, (ad.add (i.toNat * 11)).off + 2, none⟩ = some (.int .i64 ps) from hx2)
      have H3 := Aside0.mk (show w.cell? ⟨(ad.add (i.toNat * 11)).block, (ad.add (i.toNat * 11)).off + 3, none⟩ = some (.int .i64 pp) from hx3)
      have H4 := Aside0.mk (show w.cell? ⟨(ad.add (i.toNat * 11)).block, (ad.add (i.toNat * 11)).off + 4, none⟩ = some (.int .i64 id) from hx4)
      have H5 := Aside0.mk (show w.cell? ⟨(ad.add (i.toNat * 11)).block, (ad.add (i.toNat * 11)).off + 5, none⟩ = some (.int .u64 ox) from hx5)
      have H6 := Aside0.mk (show w.cell? ⟨(ad.add (i.toNat * 11)).block, (ad.add (i.toNat * 11)).off + 6, none⟩ = some (.int .i64 oy) from hx6)
      have H7 := Aside0.mk (show w.cell? ⟨(ad.add (i.toNat * 11)).block, (ad.add (i.toNat * 11)).off + 7, none⟩ = some (.bool ost) from hx7)
      have H8 := Aside0.mk (show w.cell? ⟨(ad.add (i.toNat * 11)).block, (ad.add (i.toNat * 11)).off + 8, none⟩ = some (.int .u64 vx) from hx8)
      have H9 := Aside0.mk (show w.cell? ⟨(ad.add (i.toNat * 11)).block, (ad.add (i.toNat * 11)).off + 9, none⟩ = some (.int .i64 vy) from hx9)
      have H10 := Aside0.mk (show w.cell? ⟨(ad.add (i.toNat * 11)).block, (ad.add (i.toNat * 11)).off + 10, none⟩ = some (.bool vst) from hx10)
      replace hx0 := (JB.out.cell (World.block_lt_of_cell? w _ hx0)).trans hx0
      replace hx1 := (JB.out.cell (World.block_lt_of_cell? w _ hx1)).trans hx1
      replace hx2 := (JB.out.cell (World.block_lt_of_cell? w _ hx2)).trans hx2
      replace hx3 := (JB.out.cell (World.block_lt_of_cell? w _ hx3)).trans hx3
      replace hx4 := (JB.out.cell (World.block_lt_of_cell? w _ hx4)).trans hx4
      replace hx5 := (JB.out.cell (World.block_lt_of_cell? w _ hx5)).trans hx5
      replace hx6 := (JB.out.cell (World.block_lt_of_cell? w _ hx6)).trans hx6
      replace hx7 := (JB.out.cell (World.block_lt_of_cell? w _ hx7)).trans hx7
      replace hx8 := (JB.out.cell (World.block_lt_of_cell? w _ hx8)).trans hx8
      replace hx9 := (JB.out.cell (World.block_lt_of_cell? w _ hx9)).trans hx9
      replace hx10 := (JB.out.cell (World.block_lt_of_cell? w _ hx10)).trans hx10
      have p0b : decide (0 ≤ i) = true := decide_eq_true p0
      have wi : wrap64 (i + 1) = i + 1 := by have := q1.out; unfold wrap64; omega
      replace p0 := eq_true p0
      replace q0 := eq_true q0
      have RI := Aside0.mk (show 0 ≤ i + 1 ∧ i + 1 ≤ 150 ∧ (i + 1).toNat = i.toNat + 1 by have := HK.out; have := q1.out; omega)
      by_cases hv : vy < 0
      · have t3 : decide (vy < 0) = true := decide_eq_true hv
        clear hv
        go_wp2_with fail
        go_ret
        exact ⟨rfl, JB.out⟩
      · have t3 : decide (vy < 0) = false := decide_eq_false hv
        have HV := Aside0.mk (show 0 ≤ vy ∧ vy < 9223372036854775808 by have := HGX.out; omega)
        clear hv
        have Md := Aside0.mk JM.out.drew
        have Qd := Aside0.mk (refMove (JM.out.ghost.rowSame (fun cs hc => blk_drew hc)) JQ.out.drew)
        have Bd := Aside0.mk (below_drew JB.out)
        have Wd := Aside0.mk (Kd.R_below JW.out (below_drew (Below.refl _ _)))
        go_wp2_with fail
        refine start_ (n := 29) (S := fun w' => w'.cell? (ad.add (i.toNat * 11)) = some (.int .i64 kd) ∧ w'.cell? ⟨(ad.add (i.toNat * 11)).block, (ad.add (i.toNat * 11)).off + 1, none⟩ = some (.int .i64 pk) ∧ w'.cell? ⟨(ad.add (i.toNat * 11)).block, (ad.add (i.toNat * 11)).off + 2, none⟩ = some (.int .i64 ps) ∧ w'.cell? ⟨(ad.add (i.toNat * 11)).block, (ad.add (i.toNat * 11)).off + 3, none⟩ = some (.int .i64 pp) ∧ w'.cell? ⟨(ad.add (i.toNat * 11)).block, (ad.add (i.toNat * 11)).off + 4, none⟩ = some (.int .i64 id) ∧ w'.cell? ⟨(ad.add (i.toNat * 11)).block, (ad.add (i.toNat * 11)).off + 5, none⟩ = some (.int .u64 ox) ∧ w'.cell? ⟨(ad.add (i.toNat * 11)).block, (ad.add (i.toNat * 11)).off + 6, none⟩ = some (.int .i64 oy) ∧ w'.cell? ⟨(ad.add (i.toNat * 11)).block, (ad.add (i.toNat * 11)).off + 7, none⟩ = some (.bool ost) ∧ w'.cell? ⟨(ad.add (i.toNat * 11)).block, (ad.add (i.toNat * 11)).off + 8, none⟩ = some (.int .u64 vx) ∧ w'.cell? ⟨(ad.add (i.toNat * 11)).block, (ad.add (i.toNat * 11)).off + 9, none⟩ = some (.int .i64 vy) ∧ w'.cell? ⟨(ad.add (i.toNat * 11)).block, (ad.add (i.toNat * 11)).off + 10, none⟩ = some (.bool vst)) (ds := []) (lb 29 0) (by kernel_rfl) rfl rfl ⟨hx0, hx1, hx2, hx3, hx4, hx5, hx6, hx7, hx8, hx9, hx10⟩ (fun hHeld => ?_)
        refine pS (v := ?_) (a' := ?_) 0 (some 36) (lb 29 1) rfl rfl (by kernel_rfl) (fun _ _ _ h => h) (by rfl) ?_ ?_ ?_; rotate_left; (intro w'; go_simp; with_reducible rfl); rotate_left; (simp only [Act.put, List.setIfInBounds_toArray, List.set_cons_zero, List.set_cons_succ, i64_w, i32_w]; rfl)
        refine pS (v := ?_) (a' := ?_) 1 (some 37) (lb 29 3) rfl rfl (by kernel_rfl) (fun _ _ _ h => h) (by rfl) ?_ ?_ ?_; rotate_left; (intro w'; go_simp; with_reducible rfl); rotate_left; (simp only [Act.put, List.setIfInBounds_toArray, List.set_cons_zero, List.set_cons_succ, i64_w, i32_w]; rfl)
        refine pS (v := ?_) (a' := ?_) 2 (some 38) (lb 29 7) rfl rfl (by kernel_rfl) (fun _ _ _ h => h) (by rfl) ?_ ?_ ?_; rotate_left; (intro w'; go_simp; with_reducible rfl); rotate_left; (simp only [Act.put, List.setIfInBounds_toArray, List.set_cons_zero, List.set_cons_succ, i64_w, i32_w]; rfl)
        refine pS (v := ?_) (a' := ?_) 3 (some 39) (lb 29 15) rfl rfl (by kernel_rfl) (fun _ _ _ h => h) (by rfl) ?_ ?_ ?_; rotate_left; (intro w'; go_simp; with_reducible rfl); rotate_left; (simp only [Act.put, List.setIfInBounds_toArray, List.set_cons_zero, List.set_cons_succ, i64_w, i32_w]; rfl)
        refine pS (v := ?_) (a' := ?_) 4 (some 40) (lb 29 31) rfl rfl (by kernel_rfl) (fun _ _ _ h => h) (by rfl) ?_ ?_ ?_; rotate_left; (intro w'; go_simp; with_reducible rfl); rotate_left; (simp only [Act.put, List.setIfInBounds_toArray, List.set_cons_zero, List.set_cons_succ, i64_w, i32_w]; rfl)
        refine tS (v := ?_) (a' := ?_) 5 (some 41) (lb 29 63) rfl rfl (by kernel_rfl) (fun _ _ _ h => h) hHeld (by rfl) ?_ ?_ ?_; rotate_left; (rintro w' ⟨s0, s1, s2, s3, s4, s5, s6, s7, s8, s9, s10⟩; go_simp; with_reducible rfl); rotate_left; (simp only [Act.put, List.setIfInBounds_toArray, List.set_cons_zero, List.set_cons_succ, i64_w, i32_w]; rfl)
        refine one_ (i := 6) (N := some 42) (lb 29 127) rfl rfl (by kernel_rfl) (by decide) (fun K hK => ?_)
        refine goes_ Try.func56 (by kernel_rfl) rfl #[.pointer (some ⟨gh, 0, none⟩), .pointer (some ⟨gu, 0, none⟩), .agg #[.int .i64 kd, .int .i64 pk, .int .i64 ps, .int .i64 pp, .int .i64 id, .int .u64 ox, .int .i64 oy, .bool ost, .int .u64 vx, .int .i64 vy, .bool vst]] (by rfl) rfl rfl (by simp only [List.map_toArray, List.map_cons, List.map_nil]; rfl) ?_
        with_reducible refine (does10_T gh gg gp gc gm gl gs g3 gu sv vws ws G U kd pk ps pp id ox oy ost vx vy vst i.toNat w _ Md.out Qd.out Wd.out Bd.out JR.out JL.out (by have := q1.out; omega) JS.out HV.out).mono ?_
        rintro e w6 ⟨rfl, G', U', h1_, h2_, h3_, h4_, h5_, h6_, h7_⟩
        refine ⟨_, rfl, ?_⟩
        have ZI := Aside0.mk h1_
        have ZQ := Aside0.mk h2_
        have ZR := Aside0.mk h3_
        have ZB := Aside0.mk h4_
        have ZL := Aside0.mk (show Lok U' (i + 1).toNat by rw [RI.out.2.2]; exact h5_)
        have ZS := Aside0.mk (show StOk G' (i + 1).toNat by rw [RI.out.2.2]; exact h6_)
        obtain ⟨vW, vL, vR, hbu⟩ := h2_.blk
        have c4 : w6.cell? ⟨gu, 4, none⟩ = some (.int .i64 G'.stale) := (blk_cell hbu 4).trans rfl
        have c3 : w6.cell? ⟨gu, 3, none⟩ = some (.int .i64 G'.faults) := (blk_cell hbu 3).trans rfl
        have te : (G'.stale != G'.stale) = false := by simp
        have tf : (G'.faults != G'.faults) = false := by simp
        have ZW := Aside0.mk h7_
        clear h1_ h2_ h3_ h4_ h5_ h6_ h7_ hbu
        refine hK.out _ _ ⟨(ZB.out.cell (World.block_lt_of_cell? w _ H0.out)).trans H0.out, (ZB.out.cell (World.block_lt_of_cell? w _ H1.out)).trans H1.out, (ZB.out.cell (World.block_lt_of_cell? w _ H2.out)).trans H2.out, (ZB.out.cell (World.block_lt_of_cell? w _ H3.out)).trans H3.out, (ZB.out.cell (World.block_lt_of_cell? w _ H4.out)).trans H4.out, (ZB.out.cell (World.block_lt_of_cell? w _ H5.out)).trans H5.out, (ZB.out.cell (World.block_lt_of_cell? w _ H6.out)).trans H6.out, (ZB.out.cell (World.block_lt_of_cell? w _ H7.out)).trans H7.out, (ZB.out.cell (World.block_lt_of_cell? w _ H8.out)).trans H8.out, (ZB.out.cell (World.block_lt_of_cell? w _ H9.out)).trans H9.out, (ZB.out.cell (World.block_lt_of_cell? w _ H10.out)).trans H10.out⟩ (fun hHeld => ?_)
        clear hK K
        refine norm_ (a' := ?_) ?_ ?_
        rotate_left
        · show Act.put _ (some 42) _ = _
          simp only [Act.put, List.setIfInBounds_toArray, List.set_cons_zero, List.set_cons_succ, i64_w, i32_w]
          rfl
        refine pS (v := ?_) (a' := ?_) 7 (some 43) (lb 29 255) rfl rfl (by kernel_rfl) (fun _ _ _ h => h) (by rfl) ?_ ?_ ?_; rotate_left; (intro w'; go_simp; with_reducible rfl); rotate_left; (simp only [Act.put, List.setIfInBounds_toArray, List.set_cons_zero, List.set_cons_succ, i64_w, i32_w]; rfl)
        refine pS (v := ?_) (a' := ?_) 8 (some 44) (lb 29 511) rfl rfl (by kernel_rfl) (fun _ _ _ h => h) (by rfl) ?_ ?_ ?_; rotate_left; (intro w'; go_simp; with_reducible rfl); rotate_left; (simp only [Act.put, List.setIfInBounds_toArray, List.set_cons_zero, List.set_cons_succ, i64_w, i32_w]; rfl)
        refine pS (v := ?_) (a' := ?_) 9 (some 45) (lb 29 1023) rfl rfl (by kernel_rfl) (fun _ _ _ h => h) (by rfl) ?_ ?_ ?_; rotate_left; (intro w'; go_simp; with_reducible rfl); rotate_left; (simp only [Act.put, List.setIfInBounds_toArray, List.set_cons_zero, List.set_cons_succ, i64_w, i32_w]; rfl)
        refine pS (v := ?_) (a' := ?_) 11 (some 47) (lb 29 3071) rfl rfl (by kernel_rfl) (fun _ _ _ h => h) (by rfl) ?_ ?_ ?_; rotate_left; (intro w'; go_simp; with_reducible rfl); rotate_left; (simp only [Act.put, List.setIfInBounds_toArray, List.set_cons_zero, List.set_cons_succ, i64_w, i32_w]; rfl)
        refine pS (v := ?_) (a' := ?_) 12 (some 48) (lb 29 7167) rfl rfl (by kernel_rfl) (fun _ _ _ h => h) (by rfl) ?_ ?_ ?_; rotate_left; (intro w'; go_simp; with_reducible rfl); rotate_left; (simp only [Act.put, List.setIfInBounds_toArray, List.set_cons_zero, List.set_cons_succ, i64_w, i32_w]; rfl)
        refine pS (v := ?_) (a' := ?_) 13 (some 49) (lb 29 15359) rfl rfl (by kernel_rfl) (fun _ _ _ h => h) (by rfl) ?_ ?_ ?_; rotate_left; (intro w'; go_simp; with_reducible rfl); rotate_left; (simp only [Act.put, List.setIfInBounds_toArray, List.set_cons_zero, List.set_cons_succ, i64_w, i32_w]; rfl)
        refine pS (v := ?_) (a' := ?_) 14 (some 50) (lb 29 31743) rfl rfl (by kernel_rfl) (fun _ _ _ h => h) (by rfl) ?_ ?_ ?_; rotate_left; (intro w'; go_simp; with_reducible rfl); rotate_left; (simp only [Act.put, List.setIfInBounds_toArray, List.set_cons_zero, List.set_cons_succ, i64_w, i32_w]; rfl)
        refine join_ (σ := Unit) 13 (lb 29 65535) (fun s_ => [(46, .int .i64 G'.stale), (51, .int .i64 G'.stale)]) (fun s_ w' => (w'.cell? (ad.add (i.toNat * 11)) = some (.int .i64 kd) ∧ w'.cell? ⟨(ad.add (i.toNat * 11)).block, (ad.add (i.toNat * 11)).off + 1, none⟩ = some (.int .i64 pk) ∧ w'.cell? ⟨(ad.add (i.toNat * 11)).block, (ad.add (i.toNat * 11)).off + 2, none⟩ = some (.int .i64 ps) ∧ w'.cell? ⟨(ad.add (i.toNat * 11)).block, (ad.add (i.toNat * 11)).off + 3, none⟩ = some (.int .i64 pp) ∧ w'.cell? ⟨(ad.add (i.toNat * 11)).block, (ad.add (i.toNat * 11)).off + 4, none⟩ = some (.int .i64 id) ∧ w'.cell? ⟨(ad.add (i.toNat * 11)).block, (ad.add (i.toNat * 11)).off + 5, none⟩ = some (.int .u64 ox) ∧ w'.cell? ⟨(ad.add (i.toNat * 11)).block, (ad.add (i.toNat * 11)).off + 6, none⟩ = some (.int .i64 oy) ∧ w'.cell? ⟨(ad.add (i.toNat * 11)).block, (ad.add (i.toNat * 11)).off + 7, none⟩ = some (.bool ost) ∧ w'.cell? ⟨(ad.add (i.toNat * 11)).block, (ad.add (i.toNat * 11)).off + 8, none⟩ = some (.int .u64 vx) ∧ w'.cell? ⟨(ad.add (i.toNat * 11)).block, (ad.add (i.toNat * 11)).off + 9, none⟩ = some (.int .i64 vy) ∧ w'.cell? ⟨(ad.add (i.toNat * 11)).block, (ad.add (i.toNat * 11)).off + 10, none⟩ = some (.bool vst)) ∧ w' = w6) ?_ ?_
        rotate_left
        · intro hCont
          refine two_ (i := 10) (j := 15) (Ni := some 46) (Nj := some 51) (lb 29 32767) (lb 29 64511) rfl rfl rfl rfl (by kernel_rfl) (by decide) (by decide) (fun K hK => ?_) (fun K hK => ?_)
          · skip
            refine goes_ Try.func57 (by kernel_rfl) rfl #[.pointer (some ⟨gh, 0, none⟩)] (by rfl) rfl rfl (by simp only [List.map_toArray, List.map_cons, List.map_nil]; rfl) ?_
            with_reducible refine (stold_T gh gg gp gc gm gl gs g3 G' sv ws w _ ZI.out).mono ?_
            rintro e w7 ⟨rfl, rfl⟩
            refine ⟨_, rfl, ?_⟩
            refine hK.out _ _ ⟨(ZB.out.cell (World.block_lt_of_cell? w _ H0.out)).trans H0.out, (ZB.out.cell (World.block_lt_of_cell? w _ H1.out)).trans H1.out, (ZB.out.cell (World.block_lt_of_cell? w _ H2.out)).trans H2.out, (ZB.out.cell (World.block_lt_of_cell? w _ H3.out)).trans H3.out, (ZB.out.cell (World.block_lt_of_cell? w _ H4.out)).trans H4.out, (ZB.out.cell (World.block_lt_of_cell? w _ H5.out)).trans H5.out, (ZB.out.cell (World.block_lt_of_cell? w _ H6.out)).trans H6.out, (ZB.out.cell (World.block_lt_of_cell? w _ H7.out)).trans H7.out, (ZB.out.cell (World.block_lt_of_cell? w _ H8.out)).trans H8.out, (ZB.out.cell (World.block_lt_of_cell? w _ H9.out)).trans H9.out, (ZB.out.cell (World.block_lt_of_cell? w _ H10.out)).trans H10.out⟩ (fun hHeld => ?_)
            clear hK K
            refine norm_ (a' := ?_) ?_ ?_
            rotate_left
            · show Act.put _ (some 46) _ = _
              simp only [Act.put, List.setIfInBounds_toArray, List.set_cons_zero, List.set_cons_succ, i64_w, i32_w]
              rfl
            refine one_ (i := 15) (N := some 51) (lb 29 65535) rfl rfl (by kernel_rfl) (by decide) (fun K hK => ?_)
            refine value_ (w1 := ?_) (v := ?_) (by rfl) rfl ?_ ?_
            rotate_left 2
            · go_simp
              constructor
              · rfl
              · rfl
            refine hK.out _ _ ⟨(ZB.out.cell (World.block_lt_of_cell? w _ H0.out)).trans H0.out, (ZB.out.cell (World.block_lt_of_cell? w _ H1.out)).trans H1.out, (ZB.out.cell (World.block_lt_of_cell? w _ H2.out)).trans H2.out, (ZB.out.cell (World.block_lt_of_cell? w _ H3.out)).trans H3.out, (ZB.out.cell (World.block_lt_of_cell? w _ H4.out)).trans H4.out, (ZB.out.cell (World.block_lt_of_cell? w _ H5.out)).trans H5.out, (ZB.out.cell (World.block_lt_of_cell? w _ H6.out)).trans H6.out, (ZB.out.cell (World.block_lt_of_cell? w _ H7.out)).trans H7.out, (ZB.out.cell (World.block_lt_of_cell? w _ H8.out)).trans H8.out, (ZB.out.cell (World.block_lt_of_cell? w _ H9.out)).trans H9.out, (ZB.out.cell (World.block_lt_of_cell? w _ H10.out)).trans H10.out⟩ (fun hHeld => ?_)
            clear hK K
            refine norm_ (a' := ?_) ?_ ?_
            rotate_left
            · show Act.put _ (some 51) _ = _
              simp only [Act.put, List.setIfInBounds_toArray, List.set_cons_zero, List.set_cons_succ, i64_w, i32_w]
              rfl
            exact norm_ (by simp only [putAll, Act.put, List.setIfInBounds_toArray, List.set_cons_zero, List.set_cons_succ]) (hCont () _ ⟨hHeld, rfl⟩)
          · skip
            refine value_ (w1 := ?_) (v := ?_) (by rfl) rfl ?_ ?_
            rotate_left 2
            · go_simp
              constructor
              · rfl
              · rfl
            refine hK.out _ _ ⟨(ZB.out.cell (World.block_lt_of_cell? w _ H0.out)).trans H0.out, (ZB.out.cell (World.block_lt_of_cell? w _ H1.out)).trans H1.out, (ZB.out.cell (World.block_lt_of_cell? w _ H2.out)).trans H2.out, (ZB.out.cell (World.block_lt_of_cell? w _ H3.out)).trans H3.out, (ZB.out.cell (World.block_lt_of_cell? w _ H4.out)).trans H4.out, (ZB.out.cell (World.block_lt_of_cell? w _ H5.out)).trans H5.out, (ZB.out.cell (World.block_lt_of_cell? w _ H6.out)).trans H6.out, (ZB.out.cell (World.block_lt_of_cell? w _ H7.out)).trans H7.out, (ZB.out.cell (World.block_lt_of_cell? w _ H8.out)).trans H8.out, (ZB.out.cell (World.block_lt_of_cell? w _ H9.out)).trans H9.out, (ZB.out.cell (World.block_lt_of_cell? w _ H10.out)).trans H10.out⟩ (fun hHeld => ?_)
            clear hK K
            refine norm_ (a' := ?_) ?_ ?_
            rotate_left
            · show Act.put _ (some 51) _ = _
              simp only [Act.put, List.setIfInBounds_toArray, List.set_cons_zero, List.set_cons_succ, i64_w, i32_w]
              rfl
            refine one_ (i := 10) (N := some 46) (lb 29 65535) rfl rfl (by kernel_rfl) (by decide) (fun K hK => ?_)
            refine goes_ Try.func57 (by kernel_rfl) rfl #[.pointer (some ⟨gh, 0, none⟩)] (by rfl) rfl rfl (by simp only [List.map_toArray, List.map_cons, List.map_nil]; rfl) ?_
            with_reducible refine (stold_T gh gg gp gc gm gl gs g3 G' sv ws w _ ZI.out).mono ?_
            rintro e w7 ⟨rfl, rfl⟩
            refine ⟨_, rfl, ?_⟩
            refine hK.out _ _ ⟨(ZB.out.cell (World.block_lt_of_cell? w _ H0.out)).trans H0.out, (ZB.out.cell (World.block_lt_of_cell? w _ H1.out)).trans H1.out, (ZB.out.cell (World.block_lt_of_cell? w _ H2.out)).trans H2.out, (ZB.out.cell (World.block_lt_of_cell? w _ H3.out)).trans H3.out, (ZB.out.cell (World.block_lt_of_cell? w _ H4.out)).trans H4.out, (ZB.out.cell (World.block_lt_of_cell? w _ H5.out)).trans H5.out, (ZB.out.cell (World.block_lt_of_cell? w _ H6.out)).trans H6.out, (ZB.out.cell (World.block_lt_of_cell? w _ H7.out)).trans H7.out, (ZB.out.cell (World.block_lt_of_cell? w _ H8.out)).trans H8.out, (ZB.out.cell (World.block_lt_of_cell? w _ H9.out)).trans H9.out, (ZB.out.cell (World.block_lt_of_cell? w _ H10.out)).trans H10.out⟩ (fun hHeld => ?_)
            clear hK K
            refine norm_ (a' := ?_) ?_ ?_
            rotate_left
            · show Act.put _ (some 46) _ = _
              simp only [Act.put, List.setIfInBounds_toArray, List.set_cons_zero, List.set_cons_succ, i64_w, i32_w]
              rfl
            exact norm_ (by simp only [putAll, Act.put, List.setIfInBounds_toArray, List.set_cons_zero, List.set_cons_succ]) (hCont () _ ⟨hHeld, rfl⟩)
        rintro _ wF ⟨hHeld, hw_⟩
        have hw_ := hw_.symm
        subst hw_
        refine norm_ (a' := ?_) ?_ ?_
        rotate_left
        · simp only [putAll, Act.put, List.setIfInBounds_toArray, List.set_cons_zero, List.set_cons_succ]
          rfl
        refine pS (v := ?_) (a' := ?_) 16 (some 52) (lb 29 131071) rfl rfl (by kernel_rfl) (fun _ _ _ h => h) (by rfl) ?_ ?_ ?_; rotate_left; (intro w'; go_simp; with_reducible rfl); rotate_left; (simp only [Act.put, List.setIfInBounds_toArray, List.set_cons_zero, List.set_cons_succ, i64_w, i32_w]; rfl)
        refine pS (v := ?_) (a' := ?_) 17 (some 53) (lb 29 262143) rfl rfl (by kernel_rfl) (fun _ _ _ h => h) (by rfl) ?_ ?_ ?_; rotate_left; (intro w'; go_simp; with_reducible rfl); rotate_left; (simp only [Act.put, List.setIfInBounds_toArray, List.set_cons_zero, List.set_cons_succ, i64_w, i32_w]; rfl)
        refine pS (v := ?_) (a' := ?_) 18 (some 54) (lb 29 524287) rfl rfl (by kernel_rfl) (fun _ _ _ h => h) (by rfl) ?_ ?_ ?_; rotate_left; (intro w'; go_simp; with_reducible rfl); rotate_left; (simp only [Act.put, List.setIfInBounds_toArray, List.set_cons_zero, List.set_cons_succ, i64_w, i32_w]; rfl)
        refine pS (v := ?_) (a' := ?_) 19 (some 55) (lb 29 1048575) rfl rfl (by kernel_rfl) (fun _ _ _ h => h) (by rfl) ?_ ?_ ?_; rotate_left; (intro w'; go_simp; with_reducible rfl); rotate_left; (simp only [Act.put, List.setIfInBounds_toArray, List.set_cons_zero, List.set_cons_succ, i64_w, i32_w]; rfl)
        refine pS (v := ?_) (a' := ?_) 21 (some 57) (lb 29 3145727) rfl rfl (by kernel_rfl) (fun _ _ _ h => h) (by rfl) ?_ ?_ ?_; rotate_left; (intro w'; go_simp; with_reducible rfl); rotate_left; (simp only [Act.put, List.setIfInBounds_toArray, List.set_cons_zero, List.set_cons_succ, i64_w, i32_w]; rfl)
        refine pS (v := ?_) (a' := ?_) 22 (some 58) (lb 29 7340031) rfl rfl (by kernel_rfl) (fun _ _ _ h => h) (by rfl) ?_ ?_ ?_; rotate_left; (intro w'; go_simp; with_reducible rfl); rotate_left; (simp only [Act.put, List.setIfInBounds_toArray, List.set_cons_zero, List.set_cons_succ, i64_w, i32_w]; rfl)
        refine pS (v := ?_) (a' := ?_) 23 (some 59) (lb 29 15728639) rfl rfl (by kernel_rfl) (fun _ _ _ h => h) (by rfl) ?_ ?_ ?_; rotate_left; (intro w'; go_simp; with_reducible rfl); rotate_left; (simp only [Act.put, List.setIfInBounds_toArray, List.set_cons_zero, List.set_cons_succ, i64_w, i32_w]; rfl)
        refine pS (v := ?_) (a' := ?_) 24 (some 60) (lb 29 32505855) rfl rfl (by kernel_rfl) (fun _ _ _ h => h) (by rfl) ?_ ?_ ?_; rotate_left; (intro w'; go_simp; with_reducible rfl); rotate_left; (simp only [Act.put, List.setIfInBounds_toArray, List.set_cons_zero, List.set_cons_succ, i64_w, i32_w]; rfl)
        refine pS (v := ?_) (a' := ?_) 25 (some 61) (lb 29 66060287) rfl rfl (by kernel_rfl) (fun _ _ _ h => h) (by rfl) ?_ ?_ ?_; rotate_left; (intro w'; go_simp; with_reducible rfl); rotate_left; (simp only [Act.put, List.setIfInBounds_toArray, List.set_cons_zero, List.set_cons_succ, i64_w, i32_w]; rfl)
        refine join_ (σ := Unit) 2 (lb 29 134217727) (fun s_ => [(56, .int .i64 G'.faults), (62, .int .i64 G'.faults)]) (fun s_ w' => (w'.cell? (ad.add (i.toNat * 11)) = some (.int .i64 kd) ∧ w'.cell? ⟨(ad.add (i.toNat * 11)).block, (ad.add (i.toNat * 11)).off + 1, none⟩ = some (.int .i64 pk) ∧ w'.cell? ⟨(ad.add (i.toNat * 11)).block, (ad.add (i.toNat * 11)).off + 2, none⟩ = some (.int .i64 ps) ∧ w'.cell? ⟨(ad.add (i.toNat * 11)).block, (ad.add (i.toNat * 11)).off + 3, none⟩ = some (.int .i64 pp) ∧ w'.cell? ⟨(ad.add (i.toNat * 11)).block, (ad.add (i.toNat * 11)).off + 4, none⟩ = some (.int .i64 id) ∧ w'.cell? ⟨(ad.add (i.toNat * 11)).block, (ad.add (i.toNat * 11)).off + 5, none⟩ = some (.int .u64 ox) ∧ w'.cell? ⟨(ad.add (i.toNat * 11)).block, (ad.add (i.toNat * 11)).off + 6, none⟩ = some (.int .i64 oy) ∧ w'.cell? ⟨(ad.add (i.toNat * 11)).block, (ad.add (i.toNat * 11)).off + 7, none⟩ = some (.bool ost) ∧ w'.cell? ⟨(ad.add (i.toNat * 11)).block, (ad.add (i.toNat * 11)).off + 8, none⟩ = some (.int .u64 vx) ∧ w'.cell? ⟨(ad.add (i.toNat * 11)).block, (ad.add (i.toNat * 11)).off + 9, none⟩ = some (.int .i64 vy) ∧ w'.cell? ⟨(ad.add (i.toNat * 11)).block, (ad.add (i.toNat * 11)).off + 10, none⟩ = some (.bool vst)) ∧ w' = w6) ?_ ?_
        rotate_left
        · intro hCont
          refine two_ (i := 20) (j := 26) (Ni := some 56) (Nj := some 62) (lb 29 67108863) (lb 29 133169151) rfl rfl rfl rfl (by kernel_rfl) (by decide) (by decide) (fun K hK => ?_) (fun K hK => ?_)
          · skip
            refine goes_ Try.func58 (by kernel_rfl) rfl #[.pointer (some ⟨gh, 0, none⟩)] (by rfl) rfl rfl (by simp only [List.map_toArray, List.map_cons, List.map_nil]; rfl) ?_
            with_reducible refine (sfaults_T gh gg gp gc gm gl gs g3 G' sv ws w _ ZI.out).mono ?_
            rintro e w8 ⟨rfl, rfl⟩
            refine ⟨_, rfl, ?_⟩
            refine hK.out _ _ ⟨(ZB.out.cell (World.block_lt_of_cell? w _ H0.out)).trans H0.out, (ZB.out.cell (World.block_lt_of_cell? w _ H1.out)).trans H1.out, (ZB.out.cell (World.block_lt_of_cell? w _ H2.out)).trans H2.out, (ZB.out.cell (World.block_lt_of_cell? w _ H3.out)).trans H3.out, (ZB.out.cell (World.block_lt_of_cell? w _ H4.out)).trans H4.out, (ZB.out.cell (World.block_lt_of_cell? w _ H5.out)).trans H5.out, (ZB.out.cell (World.block_lt_of_cell? w _ H6.out)).trans H6.out, (ZB.out.cell (World.block_lt_of_cell? w _ H7.out)).trans H7.out, (ZB.out.cell (World.block_lt_of_cell? w _ H8.out)).trans H8.out, (ZB.out.cell (World.block_lt_of_cell? w _ H9.out)).trans H9.out, (ZB.out.cell (World.block_lt_of_cell? w _ H10.out)).trans H10.out⟩ (fun hHeld => ?_)
            clear hK K
            refine norm_ (a' := ?_) ?_ ?_
            rotate_left
            · show Act.put _ (some 56) _ = _
              simp only [Act.put, List.setIfInBounds_toArray, List.set_cons_zero, List.set_cons_succ, i64_w, i32_w]
              rfl
            refine one_ (i := 26) (N := some 62) (lb 29 134217727) rfl rfl (by kernel_rfl) (by decide) (fun K hK => ?_)
            refine value_ (w1 := ?_) (v := ?_) (by rfl) rfl ?_ ?_
            rotate_left 2
            · go_simp
              constructor
              · rfl
              · rfl
            refine hK.out _ _ ⟨(ZB.out.cell (World.block_lt_of_cell? w _ H0.out)).trans H0.out, (ZB.out.cell (World.block_lt_of_cell? w _ H1.out)).trans H1.out, (ZB.out.cell (World.block_lt_of_cell? w _ H2.out)).trans H2.out, (ZB.out.cell (World.block_lt_of_cell? w _ H3.out)).trans H3.out, (ZB.out.cell (World.block_lt_of_cell? w _ H4.out)).trans H4.out, (ZB.out.cell (World.block_lt_of_cell? w _ H5.out)).trans H5.out, (ZB.out.cell (World.block_lt_of_cell? w _ H6.out)).trans H6.out, (ZB.out.cell (World.block_lt_of_cell? w _ H7.out)).trans H7.out, (ZB.out.cell (World.block_lt_of_cell? w _ H8.out)).trans H8.out, (ZB.out.cell (World.block_lt_of_cell? w _ H9.out)).trans H9.out, (ZB.out.cell (World.block_lt_of_cell? w _ H10.out)).trans H10.out⟩ (fun hHeld => ?_)
            clear hK K
            refine norm_ (a' := ?_) ?_ ?_
            rotate_left
            · show Act.put _ (some 62) _ = _
              simp only [Act.put, List.setIfInBounds_toArray, List.set_cons_zero, List.set_cons_succ, i64_w, i32_w]
              rfl
            exact norm_ (by simp only [putAll, Act.put, List.setIfInBounds_toArray, List.set_cons_zero, List.set_cons_succ]) (hCont () _ ⟨hHeld, rfl⟩)
          · skip
            refine value_ (w1 := ?_) (v := ?_) (by rfl) rfl ?_ ?_
            rotate_left 2
            · go_simp
              constructor
              · rfl
              · rfl
            refine hK.out _ _ ⟨(ZB.out.cell (World.block_lt_of_cell? w _ H0.out)).trans H0.out, (ZB.out.cell (World.block_lt_of_cell? w _ H1.out)).trans H1.out, (ZB.out.cell (World.block_lt_of_cell? w _ H2.out)).trans H2.out, (ZB.out.cell (World.block_lt_of_cell? w _ H3.out)).trans H3.out, (ZB.out.cell (World.block_lt_of_cell? w _ H4.out)).trans H4.out, (ZB.out.cell (World.block_lt_of_cell? w _ H5.out)).trans H5.out, (ZB.out.cell (World.block_lt_of_cell? w _ H6.out)).trans H6.out, (ZB.out.cell (World.block_lt_of_cell? w _ H7.out)).trans H7.out, (ZB.out.cell (World.block_lt_of_cell? w _ H8.out)).trans H8.out, (ZB.out.cell (World.block_lt_of_cell? w _ H9.out)).trans H9.out, (ZB.out.cell (World.block_lt_of_cell? w _ H10.out)).trans H10.out⟩ (fun hHeld => ?_)
            clear hK K
            refine norm_ (a' := ?_) ?_ ?_
            rotate_left
            · show Act.put _ (some 62) _ = _
              simp only [Act.put, List.setIfInBounds_toArray, List.set_cons_zero, List.set_cons_succ, i64_w, i32_w]
              rfl
            refine one_ (i := 20) (N := some 56) (lb 29 134217727) rfl rfl (by kernel_rfl) (by decide) (fun K hK => ?_)
            refine goes_ Try.func58 (by kernel_rfl) rfl #[.pointer (some ⟨gh, 0, none⟩)] (by rfl) rfl rfl (by simp only [List.map_toArray, List.map_cons, List.map_nil]; rfl) ?_
            with_reducible refine (sfaults_T gh gg gp gc gm gl gs g3 G' sv ws w _ ZI.out).mono ?_
            rintro e w8 ⟨rfl, rfl⟩
            refine ⟨_, rfl, ?_⟩
            refine hK.out _ _ ⟨(ZB.out.cell (World.block_lt_of_cell? w _ H0.out)).trans H0.out, (ZB.out.cell (World.block_lt_of_cell? w _ H1.out)).trans H1.out, (ZB.out.cell (World.block_lt_of_cell? w _ H2.out)).trans H2.out, (ZB.out.cell (World.block_lt_of_cell? w _ H3.out)).trans H3.out, (ZB.out.cell (World.block_lt_of_cell? w _ H4.out)).trans H4.out, (ZB.out.cell (World.block_lt_of_cell? w _ H5.out)).trans H5.out, (ZB.out.cell (World.block_lt_of_cell? w _ H6.out)).trans H6.out, (ZB.out.cell (World.block_lt_of_cell? w _ H7.out)).trans H7.out, (ZB.out.cell (World.block_lt_of_cell? w _ H8.out)).trans H8.out, (ZB.out.cell (World.block_lt_of_cell? w _ H9.out)).trans H9.out, (ZB.out.cell (World.block_lt_of_cell? w _ H10.out)).trans H10.out⟩ (fun hHeld => ?_)
            clear hK K
            refine norm_ (a' := ?_) ?_ ?_
            rotate_left
            · show Act.put _ (some 56) _ = _
              simp only [Act.put, List.setIfInBounds_toArray, List.set_cons_zero, List.set_cons_succ, i64_w, i32_w]
              rfl
            exact norm_ (by simp only [putAll, Act.put, List.setIfInBounds_toArray, List.set_cons_zero, List.set_cons_succ]) (hCont () _ ⟨hHeld, rfl⟩)
        rintro _ wF ⟨hHeld, hw_⟩
        have hw_ := hw_.symm
        subst hw_
        refine norm_ (a' := ?_) ?_ ?_
        rotate_left
        · simp only [putAll, Act.put, List.setIfInBounds_toArray, List.set_cons_zero, List.set_cons_succ]
          rfl
        refine pS (v := ?_) (a' := ?_) 27 (some 63) (lb 29 268435455) rfl rfl (by kernel_rfl) (fun _ _ _ h => h) (by rfl) ?_ ?_ ?_; rotate_left; (intro w'; go_simp; with_reducible rfl); rotate_left; (simp only [Act.put, List.setIfInBounds_toArray, List.set_cons_zero, List.set_cons_succ, i64_w, i32_w]; rfl)
        refine pS (v := ?_) (a' := ?_) 28 (some 64) (lb 29 536870911) rfl rfl (by kernel_rfl) (fun _ _ _ h => h) (by rfl) ?_ ?_ ?_; rotate_left; (intro w'; go_simp; with_reducible rfl); rotate_left; (simp only [Act.put, List.setIfInBounds_toArray, List.set_cons_zero, List.set_cons_succ, i64_w, i32_w]; rfl)
        refine done_ (by kernel_rfl) ?_
        clear hx0 hx1 hx2 hx3 hx4 hx5 hx6 hx7 hx8 hx9 hx10
        go_wp2_with fail
        go_roundg ko
        case rel => exact ⟨i + 1, G', U', by first | rfl | rw [wi], ⟨by have := HK.out; have := RI.out; omega⟩, ZI, ZQ, ZR, ZB, ZL, ZS, ZW⟩
        case measure => exact Nat.lt_succ_self _
    · have tt : decide (i < (xs.length : Int)) = false ∨ (decide (i < (xs.length : Int)) = true ∧ decide (i < 150) = false) := by
        by_cases h : i < (xs.length : Int)
        · exact .inr ⟨decide_eq_true h, decide_eq_false (fun h2 => hi ⟨h, h2⟩)⟩
        · exact .inl (decide_eq_false h)
      clear hi
      have Z0 := Aside0.mk (blk_new wr (.cells #[.int .i64 0, .int .i64 0, .int .i64 0, .int .i64 0] 25))
      have BA := Aside0.mk (below_alloc JB.out (.cells #[.int .i64 0, .int .i64 0, .int .i64 0, .int .i64 0] 25))
      have te : ∀ d W, (Op.equalIn (d + 2) 28 (.agg #[.int .u64 0, .int .i64 0, .bool false]) (.agg #[.int .u64 0, .int .i64 0, .bool false])).run Try.prog W = .ok true W := fun d W => by rw [eq28]; rfl
      have te2 : ∀ d W, (Op.equalIn (d + 2) 38 (.agg #[.int .i64 0, .int .i64 0, .int .i64 0, .int .i64 0, .int .i64 0]) (.agg #[.int .i64 0, .int .i64 0, .int .i64 0, .int .i64 0, .int .i64 0])).run Try.prog W = .ok true W := fun d W => by rw [eq38]; rfl
      rcases tt with t1 | ⟨t1, t2⟩
      all_goals
        have b0 : (wr.alloc (.cells #[.int .i64 0, .int .i64 0, .int .i64 0, .int .i64 0] 25)).cell? ⟨wr.heap.size, 0, none⟩ = some (.int .i64 0) := (blk_cell Z0.out 0).trans rfl
        have b1 : (wr.alloc (.cells #[.int .i64 0, .int .i64 0, .int .i64 0, .int .i64 0] 25)).cell? ⟨wr.heap.size, 1, none⟩ = some (.int .i64 0) := (blk_cell Z0.out 1).trans rfl
        have b2 : (wr.alloc (.cells #[.int .i64 0, .int .i64 0, .int .i64 0, .int .i64 0] 25)).cell? ⟨wr.heap.size, 2, none⟩ = some (.int .i64 0) := (blk_cell Z0.out 2).trans rfl
        have b3 : (wr.alloc (.cells #[.int .i64 0, .int .i64 0, .int .i64 0, .int .i64 0] 25)).cell? ⟨wr.heap.size, 3, none⟩ = some (.int .i64 0) := (blk_cell Z0.out 3).trans rfl
        go_wp2_with fail
        clear b0 b1 b2 b3
        refine (sstoreNil_T _).mono ?_
        rintro e y1 ⟨rfl, hb⟩
        have Z1 := Aside0.mk (blk_below Z0.out hb)
        have BA1 := Aside0.mk (below_step BA.out hb)
        clear hb
        have b0 : y1.cell? ⟨wr.heap.size, 0, none⟩ = some (.int .i64 0) := (blk_cell Z1.out 0).trans rfl
        have b1 : y1.cell? ⟨wr.heap.size, 1, none⟩ = some (.int .i64 0) := (blk_cell Z1.out 1).trans rfl
        have b2 : y1.cell? ⟨wr.heap.size, 2, none⟩ = some (.int .i64 0) := (blk_cell Z1.out 2).trans rfl
        have b3 : y1.cell? ⟨wr.heap.size, 3, none⟩ = some (.int .i64 0) := (blk_cell Z1.out 3).trans rfl
        go_wp2_with fail
        clear b0 b1 b2 b3
        refine (sloadNil_T _).mono ?_
        rintro e y2 ⟨rfl, hb⟩
        have Z2 := Aside0.mk (blk_below Z1.out hb)
        have BA2 := Aside0.mk (below_step BA1.out hb)
        clear hb
        have b0 : y2.cell? ⟨wr.heap.size, 0, none⟩ = some (.int .i64 0) := (blk_cell Z2.out 0).trans rfl
        have b1 : y2.cell? ⟨wr.heap.size, 1, none⟩ = some (.int .i64 0) := (blk_cell Z2.out 1).trans rfl
        have b2 : y2.cell? ⟨wr.heap.size, 2, none⟩ = some (.int .i64 0) := (blk_cell Z2.out 2).trans rfl
        have b3 : y2.cell? ⟨wr.heap.size, 3, none⟩ = some (.int .i64 0) := (blk_cell Z2.out 3).trans rfl
        go_wp2_with fail
        clear b0 b1 b2 b3
        refine (sswapNil_T _).mono ?_
        rintro e y3 ⟨rfl, hb⟩
        have Z3 := Aside0.mk (blk_below Z2.out hb)
        have BA3 := Aside0.mk (below_step BA2.out hb)
        clear hb
        have b0 : y3.cell? ⟨wr.heap.size, 0, none⟩ = some (.int .i64 0) := (blk_cell Z3.out 0).trans rfl
        have b1 : y3.cell? ⟨wr.heap.size, 1, none⟩ = some (.int .i64 0) := (blk_cell Z3.out 1).trans rfl
        have b2 : y3.cell? ⟨wr.heap.size, 2, none⟩ = some (.int .i64 0) := (blk_cell Z3.out 2).trans rfl
        have b3 : y3.cell? ⟨wr.heap.size, 3, none⟩ = some (.int .i64 0) := (blk_cell Z3.out 3).trans rfl
        go_wp2_with fail
        clear b0 b1 b2 b3
        refine (saddNil_T _).mono ?_
        rintro e y4 ⟨rfl, hb⟩
        have Z4 := Aside0.mk (blk_below Z3.out hb)
        have BA4 := Aside0.mk (below_step BA3.out hb)
        clear hb
        have b0 : y4.cell? ⟨wr.heap.size, 0, none⟩ = some (.int .i64 0) := (blk_cell Z4.out 0).trans rfl
        have b1 : y4.cell? ⟨wr.heap.size, 1, none⟩ = some (.int .i64 0) := (blk_cell Z4.out 1).trans rfl
        have b2 : y4.cell? ⟨wr.heap.size, 2, none⟩ = some (.int .i64 0) := (blk_cell Z4.out 2).trans rfl
        have b3 : y4.cell? ⟨wr.heap.size, 3, none⟩ = some (.int .i64 0) := (blk_cell Z4.out 3).trans rfl
        go_wp2_with fail
        clear b0 b1 b2 b3
        refine (sbornNil_T 1 _).mono ?_
        rintro e y5 ⟨rfl, hb⟩
        have Z5 := Aside0.mk (blk_below Z4.out hb)
        have BA5 := Aside0.mk (below_step BA4.out hb)
        clear hb
        have b0 : y5.cell? ⟨wr.heap.size, 0, none⟩ = some (.int .i64 0) := (blk_cell Z5.out 0).trans rfl
        have b1 : y5.cell? ⟨wr.heap.size, 1, none⟩ = some (.int .i64 0) := (blk_cell Z5.out 1).trans rfl
        have b2 : y5.cell? ⟨wr.heap.size, 2, none⟩ = some (.int .i64 0) := (blk_cell Z5.out 2).trans rfl
        have b3 : y5.cell? ⟨wr.heap.size, 3, none⟩ = some (.int .i64 0) := (blk_cell Z5.out 3).trans rfl
        go_wp2_with fail
        clear b0 b1 b2 b3
        refine (speekNil_T _).mono ?_
        rintro e y6 ⟨rfl, hb⟩
        have Z6 := Aside0.mk (blk_below Z5.out hb)
        have BA6 := Aside0.mk (below_step BA5.out hb)
        clear hb
        go_wp2_with fail
        refine (scountNil_T _).mono ?_
        rintro e y7 ⟨rfl, hb⟩
        have Z7 := Aside0.mk (blk_below Z6.out hb)
        have BA7 := Aside0.mk (below_step BA6.out hb)
        clear hb
        go_wp2_with fail
        refine (scellsNil_T _).mono ?_
        rintro e y8 ⟨rfl, hb⟩
        have Z8 := Aside0.mk (blk_below Z7.out hb)
        have BA8 := Aside0.mk (below_step BA7.out hb)
        clear hb
        go_wp2_with fail
        refine (stoldNil_T _).mono ?_
        rintro e y20 ⟨rfl, rfl⟩
        go_wp2_with fail
        refine (sfaultsNil_T _).mono ?_
        rintro e y21 ⟨rfl, rfl⟩
        go_wp2_with fail
        go_ret
        exact ⟨rfl, BA8.out⟩
def revenantlaw10_ShadeExact.f (ws : List Int) (xs : List S89) : Option Bool := if ws.length ≤ 17592186044416 ∧ ∀ x ∈ xs, x.f3.f1 < 9223372036854775808 then some true else none
theorem revenantlaw10_ShadeExact.calls (A0_ A1_ : Option Addr) (c0 c1 : Nat) (ws : List Int) (xs : List S89) (r : Bool) (w : World) (hr0 : Kd.C (Kd.int .u64) w A0_ ws.length ws) (hc0 : ws.length ≤ c0) (hr1 : Kd.C k89 w A1_ xs.length xs) (hc1 : xs.length ≤ c1) (h : revenantlaw10_ShadeExact.f ws xs = some r) :
    Calls Try.prog 11 #[.slice A0_ ws.length c0, .slice A1_ xs.length c1] w fun e w' => e = .returned (.bool r) ∧ Below w.heap.size w w' := by
  unfold revenantlaw10_ShadeExact.f at h
  by_cases hw : ws.length ≤ 17592186044416 ∧ ∀ x ∈ xs, x.f3.f1 < 9223372036854775808
  · rw [if_pos hw] at h
    obtain rfl := Option.some.inj h
    exact exact10T A0_ A1_ c0 c1 ws xs w hr0 hc0 hr1 hc1 hw.1 hw.2
  · rw [if_neg hw] at h
    cases h
theorem RShadeExact (ws : List Int) (xs : List S89) {P Q R T : Prop} {C1 C2 C3 C4 C5 : S89 → Prop} (g : P ∧ ws.length * 8 ≤ 140737488351232 ∧ Q) (g1 : R ∧ T ∧ ∀ x ∈ xs, C1 x ∧ C2 x ∧ C3 x ∧ C4 x ∧ (Lit.int .i64 x.f3.f1).wf = true ∧ C5 x) : revenantlaw10_ShadeExact.f ws xs = some true := if_pos ⟨by have := g.2.1; omega, fun x hx => by have := wf_i64.1 (g1.2.2 x hx).2.2.2.2.1; omega⟩
end Go.Proofs.Ytlpnggapndokeaa.PIdealKeeps

