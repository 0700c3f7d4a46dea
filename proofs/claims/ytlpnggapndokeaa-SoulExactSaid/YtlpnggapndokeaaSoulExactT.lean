/-
The law SoulExact, its second half.
-/
import Derived.Test.YtlpnggapndokeaaSoulB
namespace Go.Proofs.Ytlpnggapndokeaa.PIdealKeeps
open Go Go.RowKit Go.Proofs.YtlpnggapndokeaaW.PrintWords Go.Proofs.YtlpnggapndokeaaW.PrintLast Go.Proofs.YtlpnggapndokeaaW.PrintMore Go.Proofs.Ytlpnggapndokeaa.M
attribute [local go_sem] max2_int min2_int max_two min_two max_three min_three max_four min_four
set_option linter.unusedVariables false
set_option linter.unusedSimpArgs false
set_option maxHeartbeats 16000000 in
set_option maxRecDepth 100000 in
theorem exact06Tbn (A0_ : Option Addr) (c0 : Nat) (xs : List Int) (slot id : Int) (w : World) (hr0 : Kd.C (Kd.int .i64) w A0_ xs.length xs) (hc0 : xs.length ≤ c0) (hG : ∀ x ∈ xs, (Lit.int .i64 x).wf = true) (hB : 100 < xs.length) (hI : id < 0) :
    Calls Try.prog 13 #[.slice A0_ xs.length c0, .int .i64 slot, .int .i64 id] w fun e w' => e = .returned (.bool true) ∧ Below w.heap.size w w' := by
  have HBIG := Aside0.mk hB
  have HID := Aside0.mk hI
  clear hB hI
  have hu58 := Try.underlying58
  have hu95 := Try.underlying95
  have HR := Aside0.mk hr0
  have HC := Aside0.mk hc0
  have HG := Aside0.mk hG
  clear hr0 hc0 hG
  go_enter Try.func13, Try.ntmps13
  go_wp2_with fail
  refine (awake06_T w).mono ?_
  rintro e w1 ⟨rfl, hb⟩
  have B1 := Aside0.mk hb
  clear hb
  go_wp2_with fail
  refine (soulNew_T w1).mono ?_
  rintro e w2 ⟨gs, g3, rfl, h1, h2⟩
  have S2 := Aside0.mk (h1.rebase (w0 := w) B1.out.size)
  have B2 := Aside0.mk (below_step B1.out h2)
  clear h1 h2 B1
  have R3 := Aside0.mk (show Ref6 w (w2.alloc (.cells #[.slice none 0 0] 58)) gs g3 w2.heap.size (.slice none 0 0) (.slice none 0 0) [] [] from ⟨S2.out.alloc _, blk_new w2 _, Kd.R_nil _ _ _ _ _, fun k hk => by simp [Value.ownBlock] at hk, B2.out.size⟩)
  have B3 := Aside0.mk (below_alloc B2.out (.cells #[.slice none 0 0] 58))
  clear S2 B2
  go_wp2_with fail
  generalize w2.alloc (.cells #[.slice none 0 0] 58) = w3 at *
  generalize w2.heap.size = gu at *
  go_loopg [9] xs.length (fun kq v9 w' => ∃ (i : Int) (v vR : Value) (now : List (Int × Int)) (row : List Int), v9 = .int .i64 i ∧ Aside0 (0 ≤ i ∧ i ≤ 100 ∧ i + kq = xs.length) ∧ Aside0 (Ref6 w w' gs g3 gu v vR now row) ∧ Aside0 (Rel6 now row) ∧ Aside0 (Below w.heap.size w w') ∧ Aside0 ((row.length : Int) ≤ i))
  case atStart => exact ⟨0, _, _, [], [], rfl, ⟨by omega⟩, R3, ⟨rel6_0⟩, B3, ⟨Int.le_refl _⟩⟩
  case round =>
    clear R3 B3
    obtain ⟨i, v, vR, now, row, rfl, HK, JR, JL, JB, JN⟩ := hrel
    by_cases hi : i < (xs.length : Int) ∧ i < 100
    · have t1 : decide (i < (xs.length : Int)) = true := decide_eq_true hi.1
      have t2 : decide (i < 100) = true := decide_eq_true hi.2
      have p0 : (0 : Int) ≤ i := HK.out.1
      have q0 : i < (xs.length : Int) := hi.1
      have q1 := Aside0.mk hi.2
      clear hi
      obtain ⟨ko, rfl⟩ : ∃ m, gk = m + 1 := ⟨gk - 1, by have := HK.out; omega⟩
      obtain ⟨ad, e0, hx⟩ := Kd.at_int HR.out i p0 q0
      cases e0
      have hgx : (Lit.int .i64 (rd xs i)).wf = true := HG.out _ (by
        show xs.getD i.toNat 0 ∈ xs
        rw [List.getD_eq_getElem?_getD, List.getElem?_eq_getElem (by omega)]; exact List.getElem_mem _)
      generalize rd xs i = y at *
      have HX := Aside0.mk hx
      have HWF := Aside0.mk hgx
      clear hgx
      have hx1 := (JB.out.cell (World.block_lt_of_cell? w _ hx)).trans hx
      have dx : wr.drew.cell? (ad.add i.toNat) = some (.int .i64 y) := hx1
      clear hx
      have p0b : decide (0 ≤ i) = true := decide_eq_true p0
      have wi : wrap64 (i + 1) = i + 1 := by have := q1.out; unfold wrap64; omega
      replace p0 := eq_true p0
      replace q0 := eq_true q0
      have RI := Aside0.mk (show 0 ≤ i + 1 ∧ i + 1 ≤ 100 by have := HK.out; have := q1.out; omega)
      have HL := Aside0.mk (show row.length ≤ 100000 by have := JN.out; have := q1.out; omega)
      have HL2 := Aside0.mk (show (bornRow row y).length ≤ row.length + 1 by unfold bornRow; split; omega; rw [List.length_append, List.length_singleton]; omega)
      have HL3 := Aside0.mk (show (bornRow row y).length ≤ 100000 by have := JN.out; have := q1.out; have := HL2.out; omega)
      have D := Aside0.mk JR.out.drew
      have DB := Aside0.mk (below_drew JB.out)
      have DL := Aside0.mk (JL.out.born y HWF.out)
      have te : (bornId row y != bornId row y) = false := by simp
      have te2 : (nowR (bornRow row y) y != nowR (bornRow row y) y) = false := by simp
      go_wp2_with fail
      refine start_ (n := 28) (S := fun w' => w'.cell? (ad.add i.toNat) = some (.int .i64 y)) (ds := []) (lb 28 0) (by kernel_rfl) rfl rfl (dx) (fun hHeld => ?_)
      refine pS (v := ?_) (a' := ?_) 0 (some 28) (lb 28 1) rfl rfl (by kernel_rfl) (fun _ _ _ h => h) (by rfl) ?_ ?_ ?_; rotate_left; (intro w'; go_simp; with_reducible rfl); rotate_left; (simp only [Act.put, List.setIfInBounds_toArray, List.set_cons_zero, List.set_cons_succ, i64_w, i32_w]; rfl)
      refine pS (v := ?_) (a' := ?_) 1 (some 29) (lb 28 3) rfl rfl (by kernel_rfl) (fun _ _ _ h => h) (by rfl) ?_ ?_ ?_; rotate_left; (intro w'; go_simp; with_reducible rfl); rotate_left; (simp only [Act.put, List.setIfInBounds_toArray, List.set_cons_zero, List.set_cons_succ, i64_w, i32_w]; rfl)
      refine pS (v := ?_) (a' := ?_) 2 (some 30) (lb 28 7) rfl rfl (by kernel_rfl) (fun _ _ _ h => h) (by rfl) ?_ ?_ ?_; rotate_left; (intro w'; go_simp; with_reducible rfl); rotate_left; (simp only [Act.put, List.setIfInBounds_toArray, List.set_cons_zero, List.set_cons_succ, i64_w, i32_w]; rfl)
      refine pS (v := ?_) (a' := ?_) 3 (some 31) (lb 28 15) rfl rfl (by kernel_rfl) (fun _ _ _ h => h) (by rfl) ?_ ?_ ?_; rotate_left; (intro w'; go_simp; with_reducible rfl); rotate_left; (simp only [Act.put, List.setIfInBounds_toArray, List.set_cons_zero, List.set_cons_succ, i64_w, i32_w]; rfl)
      refine pS (v := ?_) (a' := ?_) 6 (some 34) (lb 28 79) rfl rfl (by kernel_rfl) (fun _ _ _ h => h) (by rfl) ?_ ?_ ?_; rotate_left; (intro w'; go_simp; with_reducible rfl); rotate_left; (simp only [Act.put, List.setIfInBounds_toArray, List.set_cons_zero, List.set_cons_succ, i64_w, i32_w]; rfl)
      refine pS (v := ?_) (a' := ?_) 7 (some 35) (lb 28 207) rfl rfl (by kernel_rfl) (fun _ _ _ h => h) (by rfl) ?_ ?_ ?_; rotate_left; (intro w'; go_simp; with_reducible rfl); rotate_left; (simp only [Act.put, List.setIfInBounds_toArray, List.set_cons_zero, List.set_cons_succ, i64_w, i32_w]; rfl)
      refine pS (v := ?_) (a' := ?_) 8 (some 36) (lb 28 463) rfl rfl (by kernel_rfl) (fun _ _ _ h => h) (by rfl) ?_ ?_ ?_; rotate_left; (intro w'; go_simp; with_reducible rfl); rotate_left; (simp only [Act.put, List.setIfInBounds_toArray, List.set_cons_zero, List.set_cons_succ, i64_w, i32_w]; rfl)
      refine pS (v := ?_) (a' := ?_) 9 (some 37) (lb 28 975) rfl rfl (by kernel_rfl) (fun _ _ _ h => h) (by rfl) ?_ ?_ ?_; rotate_left; (intro w'; go_simp; with_reducible rfl); rotate_left; (simp only [Act.put, List.setIfInBounds_toArray, List.set_cons_zero, List.set_cons_succ, i64_w, i32_w]; rfl)
      refine tS (v := ?_) (a' := ?_) 4 (some 32) (lb 28 991) rfl rfl (by kernel_rfl) (fun _ _ _ h => h) hHeld (by rfl) ?_ ?_ ?_; rotate_left; (rintro w' s0; go_simp; with_reducible rfl); rotate_left; (simp only [Act.put, List.setIfInBounds_toArray, List.set_cons_zero, List.set_cons_succ, i64_w, i32_w]; rfl)
      refine tS (v := ?_) (a' := ?_) 10 (some 38) (lb 28 2015) rfl rfl (by kernel_rfl) (fun _ _ _ h => h) hHeld (by rfl) ?_ ?_ ?_; rotate_left; (rintro w' s0; go_simp; with_reducible rfl); rotate_left; (simp only [Act.put, List.setIfInBounds_toArray, List.set_cons_zero, List.set_cons_succ, i64_w, i32_w]; rfl)
      refine one_ (i := 5) (N := some 33) (lb 28 2047) rfl rfl (by kernel_rfl) (by decide) (fun K hK => ?_)
      refine goes_ Try.func69 (by kernel_rfl) rfl #[.pointer (some ⟨gs, 0, none⟩), .int .i64 y] (by rfl) rfl rfl (by simp only [List.map_toArray, List.map_cons, List.map_nil]; rfl) ?_
      with_reducible refine (soulBorn_U gs g3 v now row y w _ D.out.S DB.out HL.out).mono ?_
      rintro e w5 ⟨rfl, ⟨v5, h1_, h2_⟩, h3_, h4_⟩
      refine ⟨_, rfl, ?_⟩
      have E5 := Aside0.mk (D.out.sB h1_ h2_ h4_)
      have EB := Aside0.mk h3_
      clear h1_ h2_ h3_ h4_
      refine hK.out _ _ ((EB.out.cell (World.block_lt_of_cell? w _ HX.out)).trans HX.out) (fun hHeld => ?_)
      clear hK K
      refine norm_ (a' := ?_) ?_ ?_
      rotate_left
      · show Act.put _ (some 33) _ = _
        simp only [Act.put, List.setIfInBounds_toArray, List.set_cons_zero, List.set_cons_succ, i64_w, i32_w]
        rfl
      refine one_ (i := 11) (N := some 39) (lb 28 4095) rfl rfl (by kernel_rfl) (by decide) (fun K hK => ?_)
      refine goes_ Try.func70 (by kernel_rfl) rfl #[.pointer (some ⟨gu, 0, none⟩), .int .i64 y] (by rfl) rfl rfl (by simp only [List.map_toArray, List.map_cons, List.map_nil]; rfl) ?_
      with_reducible refine (rborn_T w.heap.size gu 0 #[vR] 58 vR row y w _ E5.out.blk rfl (by decide) E5.out.R E5.out.b EB.out EB.out.size HL.out).mono ?_
      rintro e w6 ⟨rfl, hp_⟩
      refine ⟨_, rfl, ?_⟩
      obtain ⟨v6, h6_⟩ := E5.out.rB (r := .int .i64 (bornId row y)) (e := .returned (.int .i64 (bornId row y))) ⟨rfl, hp_⟩
      have F := Aside0.mk h6_
      have FB := Aside0.mk (show Below w.heap.size w w6 from by obtain ⟨_, _, _, h, _⟩ := hp_; exact h)
      clear hp_ h6_
      refine hK.out _ _ ((FB.out.cell (World.block_lt_of_cell? w _ HX.out)).trans HX.out) (fun hHeld => ?_)
      clear hK K
      refine norm_ (a' := ?_) ?_ ?_
      rotate_left
      · show Act.put _ (some 39) _ = _
        simp only [Act.put, List.setIfInBounds_toArray, List.set_cons_zero, List.set_cons_succ, i64_w, i32_w]
        rfl
      refine pS (v := ?_) (a' := ?_) 12 (some 40) (lb 28 8191) rfl rfl (by kernel_rfl) (fun _ _ _ h => h) (by rfl) ?_ ?_ ?_; rotate_left; (intro w'; go_simp; with_reducible rfl); rotate_left; (simp only [Act.put, List.setIfInBounds_toArray, List.set_cons_zero, List.set_cons_succ, i64_w, i32_w]; rfl)
      refine pS (v := ?_) (a' := ?_) 13 (some 41) (lb 28 16383) rfl rfl (by kernel_rfl) (fun _ _ _ h => h) (by rfl) ?_ ?_ ?_; rotate_left; (intro w'; go_simp; with_reducible rfl); rotate_left; (simp only [Act.put, List.setIfInBounds_toArray, List.set_cons_zero, List.set_cons_succ, i64_w, i32_w]; rfl)
      refine pS (v := ?_) (a' := ?_) 14 (some 42) (lb 28 32767) rfl rfl (by kernel_rfl) (fun _ _ _ h => h) (by rfl) ?_ ?_ ?_; rotate_left; (intro w'; go_simp; with_reducible rfl); rotate_left; (simp only [Act.put, List.setIfInBounds_toArray, List.set_cons_zero, List.set_cons_succ, i64_w, i32_w]; rfl)
      refine pS (v := ?_) (a' := ?_) 15 (some 43) (lb 28 65535) rfl rfl (by kernel_rfl) (fun _ _ _ h => h) (by rfl) ?_ ?_ ?_; rotate_left; (intro w'; go_simp; with_reducible rfl); rotate_left; (simp only [Act.put, List.setIfInBounds_toArray, List.set_cons_zero, List.set_cons_succ, i64_w, i32_w]; rfl)
      refine pS (v := ?_) (a' := ?_) 16 (some 44) (lb 28 131071) rfl rfl (by kernel_rfl) (fun _ _ _ h => h) (by rfl) ?_ ?_ ?_; rotate_left; (intro w'; go_simp; with_reducible rfl); rotate_left; (simp only [Act.put, List.setIfInBounds_toArray, List.set_cons_zero, List.set_cons_succ, i64_w, i32_w]; rfl)
      refine pS (v := ?_) (a' := ?_) 17 (some 45) (lb 28 262143) rfl rfl (by kernel_rfl) (fun _ _ _ h => h) (by rfl) ?_ ?_ ?_; rotate_left; (intro w'; go_simp; with_reducible rfl); rotate_left; (simp only [Act.put, List.setIfInBounds_toArray, List.set_cons_zero, List.set_cons_succ, i64_w, i32_w]; rfl)
      refine pS (v := ?_) (a' := ?_) 20 (some 48) (lb 28 1310719) rfl rfl (by kernel_rfl) (fun _ _ _ h => h) (by rfl) ?_ ?_ ?_; rotate_left; (intro w'; go_simp; with_reducible rfl); rotate_left; (simp only [Act.put, List.setIfInBounds_toArray, List.set_cons_zero, List.set_cons_succ, i64_w, i32_w]; rfl)
      refine pS (v := ?_) (a' := ?_) 21 (some 49) (lb 28 3407871) rfl rfl (by kernel_rfl) (fun _ _ _ h => h) (by rfl) ?_ ?_ ?_; rotate_left; (intro w'; go_simp; with_reducible rfl); rotate_left; (simp only [Act.put, List.setIfInBounds_toArray, List.set_cons_zero, List.set_cons_succ, i64_w, i32_w]; rfl)
      refine pS (v := ?_) (a' := ?_) 22 (some 50) (lb 28 7602175) rfl rfl (by kernel_rfl) (fun _ _ _ h => h) (by rfl) ?_ ?_ ?_; rotate_left; (intro w'; go_simp; with_reducible rfl); rotate_left; (simp only [Act.put, List.setIfInBounds_toArray, List.set_cons_zero, List.set_cons_succ, i64_w, i32_w]; rfl)
      refine pS (v := ?_) (a' := ?_) 23 (some 51) (lb 28 15990783) rfl rfl (by kernel_rfl) (fun _ _ _ h => h) (by rfl) ?_ ?_ ?_; rotate_left; (intro w'; go_simp; with_reducible rfl); rotate_left; (simp only [Act.put, List.setIfInBounds_toArray, List.set_cons_zero, List.set_cons_succ, i64_w, i32_w]; rfl)
      refine tS (v := ?_) (a' := ?_) 18 (some 46) (lb 28 16252927) rfl rfl (by kernel_rfl) (fun _ _ _ h => h) hHeld (by rfl) ?_ ?_ ?_; rotate_left; (rintro w' s0; go_simp; with_reducible rfl); rotate_left; (simp only [Act.put, List.setIfInBounds_toArray, List.set_cons_zero, List.set_cons_succ, i64_w, i32_w]; rfl)
      refine tS (v := ?_) (a' := ?_) 24 (some 52) (lb 28 33030143) rfl rfl (by kernel_rfl) (fun _ _ _ h => h) hHeld (by rfl) ?_ ?_ ?_; rotate_left; (rintro w' s0; go_simp; with_reducible rfl); rotate_left; (simp only [Act.put, List.setIfInBounds_toArray, List.set_cons_zero, List.set_cons_succ, i64_w, i32_w]; rfl)
      refine one_ (i := 19) (N := some 47) (lb 28 33554431) rfl rfl (by kernel_rfl) (by decide) (fun K hK => ?_)
      refine goes_ Try.func41 (by kernel_rfl) rfl #[.pointer (some ⟨gs, 0, none⟩), .int .i64 y] (by rfl) rfl rfl (by simp only [List.map_toArray, List.map_cons, List.map_nil]; rfl) ?_
      with_reducible refine (soulNow_T gs g3 _ _ _ y w _ F.out.S).mono ?_
      rintro e w7 ⟨rfl, hb⟩
      refine ⟨_, rfl, ?_⟩
      rw [DL.out.tell]
      have G := Aside0.mk (F.out.below hb)
      have GB := Aside0.mk (below_step FB.out hb)
      clear hb
      refine hK.out _ _ ((GB.out.cell (World.block_lt_of_cell? w _ HX.out)).trans HX.out) (fun hHeld => ?_)
      clear hK K
      refine norm_ (a' := ?_) ?_ ?_
      rotate_left
      · show Act.put _ (some 47) _ = _
        simp only [Act.put, List.setIfInBounds_toArray, List.set_cons_zero, List.set_cons_succ, i64_w, i32_w]
        rfl
      refine one_ (i := 25) (N := some 53) (lb 28 67108863) rfl rfl (by kernel_rfl) (by decide) (fun K hK => ?_)
      refine goes_ Try.func71 (by kernel_rfl) rfl #[.pointer (some ⟨gu, 0, none⟩), .int .i64 y] (by rfl) rfl rfl (by simp only [List.map_toArray, List.map_cons, List.map_nil]; rfl) ?_
      with_reducible refine (r6now_T G.out y HL3.out).mono ?_
      rintro e w8 ⟨rfl, hb⟩
      refine ⟨_, rfl, ?_⟩
      have H8 := Aside0.mk (G.out.below hb)
      have HB8 := Aside0.mk (below_step GB.out hb)
      clear hb
      refine hK.out _ _ ((HB8.out.cell (World.block_lt_of_cell? w _ HX.out)).trans HX.out) (fun hHeld => ?_)
      clear hK K
      refine norm_ (a' := ?_) ?_ ?_
      rotate_left
      · show Act.put _ (some 53) _ = _
        simp only [Act.put, List.setIfInBounds_toArray, List.set_cons_zero, List.set_cons_succ, i64_w, i32_w]
        rfl
      refine pS (v := ?_) (a' := ?_) 26 (some 54) (lb 28 134217727) rfl rfl (by kernel_rfl) (fun _ _ _ h => h) (by rfl) ?_ ?_ ?_; rotate_left; (intro w'; go_simp; with_reducible rfl); rotate_left; (simp only [Act.put, List.setIfInBounds_toArray, List.set_cons_zero, List.set_cons_succ, i64_w, i32_w]; rfl)
      refine pS (v := ?_) (a' := ?_) 27 (some 55) (lb 28 268435455) rfl rfl (by kernel_rfl) (fun _ _ _ h => h) (by rfl) ?_ ?_ ?_; rotate_left; (intro w'; go_simp; with_reducible rfl); rotate_left; (simp only [Act.put, List.setIfInBounds_toArray, List.set_cons_zero, List.set_cons_succ, i64_w, i32_w]; rfl)
      refine done_ (by kernel_rfl) ?_
      go_wp2_with fail
      go_roundg ko
      case rel => exact ⟨i + 1, v5, v6, bornNow now row y, bornRow row y, by first | rfl | rw [wi], ⟨by have := HK.out; have := RI.out; omega⟩, H8, DL, HB8, ⟨by have := JN.out; have := HL2.out; omega⟩⟩
      case measure => exact Nat.lt_succ_self _
    · have t1 : decide (i < (xs.length : Int)) = true := decide_eq_true (by have := HBIG.out; have := HK.out; omega)
      have t2 : decide (i < 100) = false := decide_eq_false (fun h => hi ⟨by have := HBIG.out; omega, h⟩)
      clear hi
      have HL := Aside0.mk (show row.length ≤ 100000 by have := JN.out; have := HK.out; omega)
      obtain ⟨Ar, cr, er, _, hCr⟩ := Kd.R_reads JR.out.R
      subst er
      have cu : wr.cell? ⟨gu, 0, none⟩ = some (.slice Ar row.length cr) := (blk_cell JR.out.blk 0).trans rfl
      have HCU := Aside0.mk cu
      have HCr := Aside0.mk hCr
      obtain ⟨nw, hnw⟩ : ∃ z, nowR row slot = z := ⟨_, rfl⟩
      have NW := Aside0.mk hnw
      have NG := Aside0.mk (show (get now slot).getD 0 = nw by rw [JL.out.tell, hnw])
      clear hCr hnw
      have tn : (nw != nw) = false := by simp
      have tl : ((row.length : Int) != (row.length : Int)) = false := by simp
      have LA := Aside0.mk (show (allF row slot row.length).length ≤ 100000 from Nat.le_trans (allF_len row slot row.length) HL.out)
      have LF := Aside0.mk (show ((firsts row row.length).mergeSort leZ).length ≤ 100000 by rw [List.length_mergeSort]; exact Nat.le_trans (firsts_len row row.length) HL.out)
      have h1 : id < 0 := HID.out
      have t3 : decide (id > 0) = false := decide_eq_false (by omega)
      have IDN := Aside0.mk (show (id != 0) = true from bne_iff_ne.2 (by omega))
      have ti0 : (id != 0) = true := IDN.out
      have AT := Aside0.mk (show slotR row id = 0 from if_pos (.inl (by omega)))
      clear h1
      go_wp2_with fail
      clear cu
      refine (r6now_T JR.out slot HL.out).mono ?_
      rintro e w5 ⟨rfl, hb⟩
      rw [NW.out]
      have F5 := Aside0.mk (JR.out.below hb).drew
      have FB5 := Aside0.mk (below_drew (below_step JB.out hb))
      have U5 := Aside0.mk (blk_drew (blk_below JR.out.blk hb))
      clear hb
      have cu5 : w5.drew.cell? ⟨gu, 0, none⟩ = some (.slice Ar row.length cr) := (blk_cell U5.out 0).trans rfl
      have EI := Aside0.mk (show isR now slot id = (nw == id) by unfold isR; rw [NG.out, IDN.out]; rfl)
      have ti : ((nw == id) != (nw == id)) = false := by simp
      have ta : ((0 : Int) != 0) = false := by simp
      go_wp2_with fail
      refine start_ (n := 55) (S := fun w' => w'.cell? ⟨gu, 0, none⟩ = some (.slice Ar row.length cr)) (ds := []) (lb 55 0) (by kernel_rfl) rfl rfl (cu5) (fun hHeld => ?_)
      refine pS (v := ?_) (a' := ?_) 0 (some 78) (lb 55 1) rfl rfl (by kernel_rfl) (fun _ _ _ h => h) (by rfl) ?_ ?_ ?_; rotate_left; (intro w'; go_simp; with_reducible rfl); rotate_left; (simp only [Act.put, List.setIfInBounds_toArray, List.set_cons_zero, List.set_cons_succ, i64_w, i32_w]; rfl)
      refine pS (v := ?_) (a' := ?_) 1 (some 79) (lb 55 3) rfl rfl (by kernel_rfl) (fun _ _ _ h => h) (by rfl) ?_ ?_ ?_; rotate_left; (intro w'; go_simp; with_reducible rfl); rotate_left; (simp only [Act.put, List.setIfInBounds_toArray, List.set_cons_zero, List.set_cons_succ, i64_w, i32_w]; rfl)
      refine pS (v := ?_) (a' := ?_) 3 (some 81) (lb 55 11) rfl rfl (by kernel_rfl) (fun _ _ _ h => h) (by rfl) ?_ ?_ ?_; rotate_left; (intro w'; go_simp; with_reducible rfl); rotate_left; (simp only [Act.put, List.setIfInBounds_toArray, List.set_cons_zero, List.set_cons_succ, i64_w, i32_w]; rfl)
      refine one_ (i := 2) (N := some 80) (lb 55 15) rfl rfl (by kernel_rfl) (by decide) (fun K hK => ?_)
      refine goes_ Try.func41 (by kernel_rfl) rfl #[.pointer (some ⟨gs, 0, none⟩), .int .i64 slot] (by rfl) rfl rfl (by simp only [List.map_toArray, List.map_cons, List.map_nil]; rfl) ?_
      with_reducible refine (soulNow_T gs g3 v now row slot w _ F5.out.S).mono ?_
      rintro e w6 ⟨rfl, hb⟩
      refine ⟨_, rfl, ?_⟩
      rw [NG.out]
      have F6 := Aside0.mk (F5.out.below hb)
      have FB6 := Aside0.mk (below_step FB5.out hb)
      have U6 := Aside0.mk (blk_below U5.out hb)
      clear hb
      refine hK.out _ _ ((blk_cell U6.out 0).trans rfl) (fun hHeld => ?_)
      clear hK K
      refine norm_ (a' := ?_) ?_ ?_
      rotate_left
      · show Act.put _ (some 80) _ = _
        simp only [Act.put, List.setIfInBounds_toArray, List.set_cons_zero, List.set_cons_succ, i64_w, i32_w]
        rfl
      refine pS (v := ?_) (a' := ?_) 4 (some 82) (lb 55 31) rfl rfl (by kernel_rfl) (fun _ _ _ h => h) (by rfl) ?_ ?_ ?_; rotate_left; (intro w'; go_simp; with_reducible rfl); rotate_left; (simp only [Act.put, List.setIfInBounds_toArray, List.set_cons_zero, List.set_cons_succ, i64_w, i32_w]; rfl)
      refine pS (v := ?_) (a' := ?_) 5 (some 83) (lb 55 63) rfl rfl (by kernel_rfl) (fun _ _ _ h => h) (by rfl) ?_ ?_ ?_; rotate_left; (intro w'; go_simp; with_reducible rfl); rotate_left; (simp only [Act.put, List.setIfInBounds_toArray, List.set_cons_zero, List.set_cons_succ, i64_w, i32_w]; rfl)
      refine pS (v := ?_) (a' := ?_) 6 (some 84) (lb 55 127) rfl rfl (by kernel_rfl) (fun _ _ _ h => h) (by rfl) ?_ ?_ ?_; rotate_left; (intro w'; go_simp; with_reducible rfl); rotate_left; (simp only [Act.put, List.setIfInBounds_toArray, List.set_cons_zero, List.set_cons_succ, i64_w, i32_w]; rfl)
      refine pS (v := ?_) (a' := ?_) 7 (some 85) (lb 55 255) rfl rfl (by kernel_rfl) (fun _ _ _ h => h) (by rfl) ?_ ?_ ?_; rotate_left; (intro w'; go_simp; with_reducible rfl); rotate_left; (simp only [Act.put, List.setIfInBounds_toArray, List.set_cons_zero, List.set_cons_succ, i64_w, i32_w]; rfl)
      refine pS (v := ?_) (a' := ?_) 8 (some 86) (lb 55 511) rfl rfl (by kernel_rfl) (fun _ _ _ h => h) (by rfl) ?_ ?_ ?_; rotate_left; (intro w'; go_simp; with_reducible rfl); rotate_left; (simp only [Act.put, List.setIfInBounds_toArray, List.set_cons_zero, List.set_cons_succ, i64_w, i32_w]; rfl)
      refine pS (v := ?_) (a' := ?_) 9 (some 87) (lb 55 1023) rfl rfl (by kernel_rfl) (fun _ _ _ h => h) (by rfl) ?_ ?_ ?_; rotate_left; (intro w'; go_simp; with_reducible rfl); rotate_left; (simp only [Act.put, List.setIfInBounds_toArray, List.set_cons_zero, List.set_cons_succ, i64_w, i32_w]; rfl)
      refine pS (v := ?_) (a' := ?_) 11 (some 89) (lb 55 3071) rfl rfl (by kernel_rfl) (fun _ _ _ h => h) (by rfl) ?_ ?_ ?_; rotate_left; (intro w'; go_simp; with_reducible rfl); rotate_left; (simp only [Act.put, List.setIfInBounds_toArray, List.set_cons_zero, List.set_cons_succ, i64_w, i32_w]; rfl)
      refine pS (v := ?_) (a' := ?_) 12 (some 90) (lb 55 7167) rfl rfl (by kernel_rfl) (fun _ _ _ h => h) (by rfl) ?_ ?_ ?_; rotate_left; (intro w'; go_simp; with_reducible rfl); rotate_left; (simp only [Act.put, List.setIfInBounds_toArray, List.set_cons_zero, List.set_cons_succ, i64_w, i32_w]; rfl)
      refine one_ (i := 10) (N := some 88) (lb 55 8191) rfl rfl (by kernel_rfl) (by decide) (fun K hK => ?_)
      refine goes_ Try.func72 (by kernel_rfl) rfl #[.pointer (some ⟨gs, 0, none⟩), Value.agg #[.int .i64 slot, .int .i64 id]] (by rfl) rfl rfl (by simp only [List.map_toArray, List.map_cons, List.map_nil]; rfl) ?_
      with_reducible refine (soulIs_T gs g3 v now row slot id w _ F6.out.S).mono ?_
      rintro e w7 ⟨rfl, hb⟩
      refine ⟨_, rfl, ?_⟩
      rw [EI.out]
      have F7 := Aside0.mk (F6.out.below hb)
      have FB7 := Aside0.mk (below_step FB6.out hb)
      have U7 := Aside0.mk (blk_below U6.out hb)
      clear hb
      refine hK.out _ _ ((blk_cell U7.out 0).trans rfl) (fun hHeld => ?_)
      clear hK K
      refine norm_ (a' := ?_) ?_ ?_
      rotate_left
      · show Act.put _ (some 88) _ = _
        simp only [Act.put, List.setIfInBounds_toArray, List.set_cons_zero, List.set_cons_succ, i64_w, i32_w]
        rfl
      refine pS (v := ?_) (a' := ?_) 13 (some 91) (lb 55 16383) rfl rfl (by kernel_rfl) (fun _ _ _ h => h) (by rfl) ?_ ?_ ?_; rotate_left; (intro w'; go_simp; with_reducible rfl); rotate_left; (simp only [Act.put, List.setIfInBounds_toArray, List.set_cons_zero, List.set_cons_succ, i64_w, i32_w]; rfl)
      refine pS (v := ?_) (a' := ?_) 14 (some 92) (lb 55 32767) rfl rfl (by kernel_rfl) (fun _ _ _ h => h) (by rfl) ?_ ?_ ?_; rotate_left; (intro w'; go_simp; with_reducible rfl); rotate_left; (simp only [Act.put, List.setIfInBounds_toArray, List.set_cons_zero, List.set_cons_succ, i64_w, i32_w]; rfl)
      refine pS (v := ?_) (a' := ?_) 15 (some 93) (lb 55 65535) rfl rfl (by kernel_rfl) (fun _ _ _ h => h) (by rfl) ?_ ?_ ?_; rotate_left; (intro w'; go_simp; with_reducible rfl); rotate_left; (simp only [Act.put, List.setIfInBounds_toArray, List.set_cons_zero, List.set_cons_succ, i64_w, i32_w]; rfl)
      refine pS (v := ?_) (a' := ?_) 16 (some 94) (lb 55 131071) rfl rfl (by kernel_rfl) (fun _ _ _ h => h) (by rfl) ?_ ?_ ?_; rotate_left; (intro w'; go_simp; with_reducible rfl); rotate_left; (simp only [Act.put, List.setIfInBounds_toArray, List.set_cons_zero, List.set_cons_succ, i64_w, i32_w]; rfl)
      refine pS (v := ?_) (a' := ?_) 17 (some 95) (lb 55 262143) rfl rfl (by kernel_rfl) (fun _ _ _ h => h) (by rfl) ?_ ?_ ?_; rotate_left; (intro w'; go_simp; with_reducible rfl); rotate_left; (simp only [Act.put, List.setIfInBounds_toArray, List.set_cons_zero, List.set_cons_succ, i64_w, i32_w]; rfl)
      refine pS (v := ?_) (a' := ?_) 18 (some 96) (lb 55 524287) rfl rfl (by kernel_rfl) (fun _ _ _ h => h) (by rfl) ?_ ?_ ?_; rotate_left; (intro w'; go_simp; with_reducible rfl); rotate_left; (simp only [Act.put, List.setIfInBounds_toArray, List.set_cons_zero, List.set_cons_succ, i64_w, i32_w]; rfl)
      refine pS (v := ?_) (a' := ?_) 19 (some 97) (lb 55 1048575) rfl rfl (by kernel_rfl) (fun _ _ _ h => h) (by rfl) ?_ ?_ ?_; rotate_left; (intro w'; go_simp; with_reducible rfl); rotate_left; (simp only [Act.put, List.setIfInBounds_toArray, List.set_cons_zero, List.set_cons_succ, i64_w, i32_w]; rfl)
      refine pS (v := ?_) (a' := ?_) 20 (some 98) (lb 55 2097151) rfl rfl (by kernel_rfl) (fun _ _ _ h => h) (by rfl) ?_ ?_ ?_; rotate_left; (intro w'; go_simp; with_reducible rfl); rotate_left; (simp only [Act.put, List.setIfInBounds_toArray, List.set_cons_zero, List.set_cons_succ, i64_w, i32_w]; rfl)
      refine pS (v := ?_) (a' := ?_) 21 (some 99) (lb 55 4194303) rfl rfl (by kernel_rfl) (fun _ _ _ h => h) (by rfl) ?_ ?_ ?_; rotate_left; (intro w'; go_simp; with_reducible rfl); rotate_left; (simp only [Act.put, List.setIfInBounds_toArray, List.set_cons_zero, List.set_cons_succ, i64_w, i32_w]; rfl)
      refine pS (v := ?_) (a' := ?_) 22 (some 100) (lb 55 8388607) rfl rfl (by kernel_rfl) (fun _ _ _ h => h) (by rfl) ?_ ?_ ?_; rotate_left; (intro w'; go_simp; with_reducible rfl); rotate_left; (simp only [Act.put, List.setIfInBounds_toArray, List.set_cons_zero, List.set_cons_succ, i64_w, i32_w]; rfl)
      refine pS (v := ?_) (a' := ?_) 24 (some 102) (lb 55 25165823) rfl rfl (by kernel_rfl) (fun _ _ _ h => h) (by rfl) ?_ ?_ ?_; rotate_left; (intro w'; go_simp; with_reducible rfl); rotate_left; (simp only [Act.put, List.setIfInBounds_toArray, List.set_cons_zero, List.set_cons_succ, i64_w, i32_w]; rfl)
      refine one_ (i := 23) (N := some 101) (lb 55 33554431) rfl rfl (by kernel_rfl) (by decide) (fun K hK => ?_)
      refine goes_ Try.func73 (by kernel_rfl) rfl #[.pointer (some ⟨gs, 0, none⟩), .int .i64 id] (by rfl) rfl rfl (by simp only [List.map_toArray, List.map_cons, List.map_nil]; rfl) ?_
      with_reducible refine (slotOf_T gs g3 v now row id w _ F7.out.S HL.out).mono ?_
      rintro e w8 ⟨rfl, hb⟩
      refine ⟨_, rfl, ?_⟩
      rw [AT.out]
      have F8 := Aside0.mk (F7.out.below hb)
      have FB8 := Aside0.mk (below_step FB7.out hb)
      have U8 := Aside0.mk (blk_below U7.out hb)
      clear hb
      refine hK.out _ _ ((blk_cell U8.out 0).trans rfl) (fun hHeld => ?_)
      clear hK K
      refine norm_ (a' := ?_) ?_ ?_
      rotate_left
      · show Act.put _ (some 101) _ = _
        simp only [Act.put, List.setIfInBounds_toArray, List.set_cons_zero, List.set_cons_succ, i64_w, i32_w]
        rfl
      refine pS (v := ?_) (a' := ?_) 25 (some 103) (lb 55 67108863) rfl rfl (by kernel_rfl) (fun _ _ _ h => h) (by rfl) ?_ ?_ ?_; rotate_left; (intro w'; go_simp; with_reducible rfl); rotate_left; (simp only [Act.put, List.setIfInBounds_toArray, List.set_cons_zero, List.set_cons_succ, i64_w, i32_w]; rfl)
      refine pS (v := ?_) (a' := ?_) 26 (some 104) (lb 55 134217727) rfl rfl (by kernel_rfl) (fun _ _ _ h => h) (by rfl) ?_ ?_ ?_; rotate_left; (intro w'; go_simp; with_reducible rfl); rotate_left; (simp only [Act.put, List.setIfInBounds_toArray, List.set_cons_zero, List.set_cons_succ, i64_w, i32_w]; rfl)
      refine pS (v := ?_) (a' := ?_) 27 (some 105) (lb 55 268435455) rfl rfl (by kernel_rfl) (fun _ _ _ h => h) (by rfl) ?_ ?_ ?_; rotate_left; (intro w'; go_simp; with_reducible rfl); rotate_left; (simp only [Act.put, List.setIfInBounds_toArray, List.set_cons_zero, List.set_cons_succ, i64_w, i32_w]; rfl)
      refine pS (v := ?_) (a' := ?_) 28 (some 106) (lb 55 536870911) rfl rfl (by kernel_rfl) (fun _ _ _ h => h) (by rfl) ?_ ?_ ?_; rotate_left; (intro w'; go_simp; with_reducible rfl); rotate_left; (simp only [Act.put, List.setIfInBounds_toArray, List.set_cons_zero, List.set_cons_succ, i64_w, i32_w]; rfl)
      refine pS (v := ?_) (a' := ?_) 29 (some 107) (lb 55 1073741823) rfl rfl (by kernel_rfl) (fun _ _ _ h => h) (by rfl) ?_ ?_ ?_; rotate_left; (intro w'; go_simp; with_reducible rfl); rotate_left; (simp only [Act.put, List.setIfInBounds_toArray, List.set_cons_zero, List.set_cons_succ, i64_w, i32_w]; rfl)
      refine pS (v := ?_) (a' := ?_) 31 (some 109) (lb 55 3221225471) rfl rfl (by kernel_rfl) (fun _ _ _ h => h) (by rfl) ?_ ?_ ?_; rotate_left; (intro w'; go_simp; with_reducible rfl); rotate_left; (simp only [Act.put, List.setIfInBounds_toArray, List.set_cons_zero, List.set_cons_succ, i64_w, i32_w]; rfl)
      refine pS (v := ?_) (a' := ?_) 32 (some 110) (lb 55 7516192767) rfl rfl (by kernel_rfl) (fun _ _ _ h => h) (by rfl) ?_ ?_ ?_; rotate_left; (intro w'; go_simp; with_reducible rfl); rotate_left; (simp only [Act.put, List.setIfInBounds_toArray, List.set_cons_zero, List.set_cons_succ, i64_w, i32_w]; rfl)
      refine one_ (i := 30) (N := some 108) (lb 55 8589934591) rfl rfl (by kernel_rfl) (by decide) (fun K hK => ?_)
      refine goes_ Try.func75 (by kernel_rfl) rfl #[.pointer (some ⟨gs, 0, none⟩), .int .i64 slot] (by rfl) rfl rfl (by simp only [List.map_toArray, List.map_cons, List.map_nil]; rfl) ?_
      with_reducible refine (soulAll_T gs g3 v now row slot w _ F8.out.S HL.out).mono ?_
      rintro e w9 ⟨u9, rfl, hr, hb⟩
      refine ⟨_, rfl, ?_⟩
      have F9 := Aside0.mk (F8.out.below hb)
      have FB9 := Aside0.mk (below_step FB8.out hb)
      have U9 := Aside0.mk (blk_below U8.out hb)
      have V9 := Aside0.mk hr
      clear hr hb
      refine hK.out _ _ ((blk_cell U9.out 0).trans rfl) (fun hHeld => ?_)
      clear hK K
      refine norm_ (a' := ?_) ?_ ?_
      rotate_left
      · show Act.put _ (some 108) _ = _
        simp only [Act.put, List.setIfInBounds_toArray, List.set_cons_zero, List.set_cons_succ, i64_w, i32_w]
        rfl
      refine one_ (i := 33) (N := some 111) (lb 55 17179869183) rfl rfl (by kernel_rfl) (by decide) (fun K hK => ?_)
      refine goes_ Try.func76 (by kernel_rfl) rfl #[.pointer (some ⟨gu, 0, none⟩), .int .i64 slot] (by rfl) rfl rfl (by simp only [List.map_toArray, List.map_cons, List.map_nil]; rfl) ?_
      with_reducible refine (r6all_T F9.out slot HL.out).mono ?_
      rintro e w10 ⟨u10, rfl, hr, hb⟩
      refine ⟨_, rfl, ?_⟩
      have F10 := Aside0.mk (F9.out.below hb)
      have FB10 := Aside0.mk (below_step FB9.out hb)
      have U10 := Aside0.mk (blk_below U9.out hb)
      have V10 := Aside0.mk hr
      have V9b := Aside0.mk (Kd.R_below V9.out hb)
      clear hr hb
      refine hK.out _ _ ((blk_cell U10.out 0).trans rfl) (fun hHeld => ?_)
      clear hK K
      refine norm_ (a' := ?_) ?_ ?_
      rotate_left
      · show Act.put _ (some 111) _ = _
        simp only [Act.put, List.setIfInBounds_toArray, List.set_cons_zero, List.set_cons_succ, i64_w, i32_w]
        rfl
      refine one_ (i := 34) (N := some 112) (lb 55 34359738367) rfl rfl (by kernel_rfl) (by decide) (fun K hK => ?_)
      refine goes_ Try.func74 (by kernel_rfl) rfl #[u9, u10] (by rfl) rfl rfl (by simp only [List.map_toArray, List.map_cons, List.map_nil]; rfl) ?_
      with_reducible refine (ints_T u9 u10 _ _ _ w10 V9b.out V10.out LA.out).mono ?_
      rintro e w11 ⟨rfl, hb⟩
      refine ⟨_, rfl, ?_⟩
      have F11 := Aside0.mk (F10.out.below hb)
      have FB11 := Aside0.mk (below_step FB10.out hb)
      have U11 := Aside0.mk (blk_below U10.out hb)
      clear hb
      refine hK.out _ _ ((blk_cell U11.out 0).trans rfl) (fun hHeld => ?_)
      clear hK K
      refine norm_ (a' := ?_) ?_ ?_
      rotate_left
      · show Act.put _ (some 112) _ = _
        simp only [Act.put, List.setIfInBounds_toArray, List.set_cons_zero, List.set_cons_succ, i64_w, i32_w]
        rfl
      refine pS (v := ?_) (a' := ?_) 35 (some 113) (lb 55 68719476735) rfl rfl (by kernel_rfl) (fun _ _ _ h => h) (by rfl) ?_ ?_ ?_; rotate_left; (intro w'; go_simp; with_reducible rfl); rotate_left; (simp only [Act.put, List.setIfInBounds_toArray, List.set_cons_zero, List.set_cons_succ, i64_w, i32_w]; rfl)
      refine pS (v := ?_) (a' := ?_) 36 (some 114) (lb 55 137438953471) rfl rfl (by kernel_rfl) (fun _ _ _ h => h) (by rfl) ?_ ?_ ?_; rotate_left; (intro w'; go_simp; with_reducible rfl); rotate_left; (simp only [Act.put, List.setIfInBounds_toArray, List.set_cons_zero, List.set_cons_succ, i64_w, i32_w]; rfl)
      refine pS (v := ?_) (a' := ?_) 37 (some 115) (lb 55 274877906943) rfl rfl (by kernel_rfl) (fun _ _ _ h => h) (by rfl) ?_ ?_ ?_; rotate_left; (intro w'; go_simp; with_reducible rfl); rotate_left; (simp only [Act.put, List.setIfInBounds_toArray, List.set_cons_zero, List.set_cons_succ, i64_w, i32_w]; rfl)
      refine pS (v := ?_) (a' := ?_) 38 (some 116) (lb 55 549755813887) rfl rfl (by kernel_rfl) (fun _ _ _ h => h) (by rfl) ?_ ?_ ?_; rotate_left; (intro w'; go_simp; with_reducible rfl); rotate_left; (simp only [Act.put, List.setIfInBounds_toArray, List.set_cons_zero, List.set_cons_succ, i64_w, i32_w]; rfl)
      refine pS (v := ?_) (a' := ?_) 40 (some 118) (lb 55 1649267441663) rfl rfl (by kernel_rfl) (fun _ _ _ h => h) (by rfl) ?_ ?_ ?_; rotate_left; (intro w'; go_simp; with_reducible rfl); rotate_left; (simp only [Act.put, List.setIfInBounds_toArray, List.set_cons_zero, List.set_cons_succ, i64_w, i32_w]; rfl)
      refine pS (v := ?_) (a' := ?_) 41 (some 119) (lb 55 3848290697215) rfl rfl (by kernel_rfl) (fun _ _ _ h => h) (by rfl) ?_ ?_ ?_; rotate_left; (intro w'; go_simp; with_reducible rfl); rotate_left; (simp only [Act.put, List.setIfInBounds_toArray, List.set_cons_zero, List.set_cons_succ, i64_w, i32_w]; rfl)
      refine pS (v := ?_) (a' := ?_) 42 (some 120) (lb 55 8246337208319) rfl rfl (by kernel_rfl) (fun _ _ _ h => h) (by rfl) ?_ ?_ ?_; rotate_left; (intro w'; go_simp; with_reducible rfl); rotate_left; (simp only [Act.put, List.setIfInBounds_toArray, List.set_cons_zero, List.set_cons_succ, i64_w, i32_w]; rfl)
      refine tS (v := ?_) (a' := ?_) 43 (some 121) (lb 55 17042430230527) rfl rfl (by kernel_rfl) (fun _ _ _ h => h) hHeld (by rfl) ?_ ?_ ?_; rotate_left; (rintro w' s0; go_simp; with_reducible rfl); rotate_left; (simp only [Act.put, List.setIfInBounds_toArray, List.set_cons_zero, List.set_cons_succ, i64_w, i32_w]; rfl)
      refine pS (v := ?_) (a' := ?_) 44 (some 122) (lb 55 34634616274943) rfl rfl (by kernel_rfl) (fun _ _ _ h => h) (by rfl) ?_ ?_ ?_; rotate_left; (intro w'; go_simp; with_reducible rfl); rotate_left; (simp only [Act.put, List.setIfInBounds_toArray, List.set_cons_zero, List.set_cons_succ, i64_w, i32_w]; rfl)
      refine one_ (i := 39) (N := some 117) (lb 55 35184372088831) rfl rfl (by kernel_rfl) (by decide) (fun K hK => ?_)
      refine goes_ Try.func29 (by kernel_rfl) rfl #[.pointer (some ⟨gs, 0, none⟩)] (by rfl) rfl rfl (by simp only [List.map_toArray, List.map_cons, List.map_nil]; rfl) ?_
      with_reducible refine (soulCount_T gs g3 v now row w _ F11.out.S).mono ?_
      rintro e w12 ⟨rfl, hb⟩
      refine ⟨_, rfl, ?_⟩
      have F12 := Aside0.mk (F11.out.below hb)
      have FB12 := Aside0.mk (below_step FB11.out hb)
      have U12 := Aside0.mk (blk_below U11.out hb)
      clear hb
      refine hK.out _ _ ((blk_cell U12.out 0).trans rfl) (fun hHeld => ?_)
      clear hK K
      refine norm_ (a' := ?_) ?_ ?_
      rotate_left
      · show Act.put _ (some 117) _ = _
        simp only [Act.put, List.setIfInBounds_toArray, List.set_cons_zero, List.set_cons_succ, i64_w, i32_w]
        rfl
      refine pS (v := ?_) (a' := ?_) 45 (some 123) (lb 55 70368744177663) rfl rfl (by kernel_rfl) (fun _ _ _ h => h) (by rfl) ?_ ?_ ?_; rotate_left; (intro w'; go_simp; with_reducible rfl); rotate_left; (simp only [Act.put, List.setIfInBounds_toArray, List.set_cons_zero, List.set_cons_succ, i64_w, i32_w]; rfl)
      refine pS (v := ?_) (a' := ?_) 46 (some 124) (lb 55 140737488355327) rfl rfl (by kernel_rfl) (fun _ _ _ h => h) (by rfl) ?_ ?_ ?_; rotate_left; (intro w'; go_simp; with_reducible rfl); rotate_left; (simp only [Act.put, List.setIfInBounds_toArray, List.set_cons_zero, List.set_cons_succ, i64_w, i32_w]; rfl)
      refine pS (v := ?_) (a' := ?_) 47 (some 125) (lb 55 281474976710655) rfl rfl (by kernel_rfl) (fun _ _ _ h => h) (by rfl) ?_ ?_ ?_; rotate_left; (intro w'; go_simp; with_reducible rfl); rotate_left; (simp only [Act.put, List.setIfInBounds_toArray, List.set_cons_zero, List.set_cons_succ, i64_w, i32_w]; rfl)
      refine pS (v := ?_) (a' := ?_) 48 (some 126) (lb 55 562949953421311) rfl rfl (by kernel_rfl) (fun _ _ _ h => h) (by rfl) ?_ ?_ ?_; rotate_left; (intro w'; go_simp; with_reducible rfl); rotate_left; (simp only [Act.put, List.setIfInBounds_toArray, List.set_cons_zero, List.set_cons_succ, i64_w, i32_w]; rfl)
      refine pS (v := ?_) (a' := ?_) 50 (some 128) (lb 55 1688849860263935) rfl rfl (by kernel_rfl) (fun _ _ _ h => h) (by rfl) ?_ ?_ ?_; rotate_left; (intro w'; go_simp; with_reducible rfl); rotate_left; (simp only [Act.put, List.setIfInBounds_toArray, List.set_cons_zero, List.set_cons_succ, i64_w, i32_w]; rfl)
      refine one_ (i := 49) (N := some 127) (lb 55 2251799813685247) rfl rfl (by kernel_rfl) (by decide) (fun K hK => ?_)
      refine goes_ Try.func77 (by kernel_rfl) rfl #[.pointer (some ⟨gs, 0, none⟩)] (by rfl) rfl rfl (by simp only [List.map_toArray, List.map_cons, List.map_nil]; rfl) ?_
      with_reducible refine (s6slots_T F12.out JL.out HL.out).mono ?_
      rintro e w13 ⟨u13, rfl, hr, hb⟩
      refine ⟨_, rfl, ?_⟩
      have F13 := Aside0.mk (F12.out.below hb)
      have FB13 := Aside0.mk (below_step FB12.out hb)
      have U13 := Aside0.mk (blk_below U12.out hb)
      have V13 := Aside0.mk hr
      clear hr hb
      refine hK.out _ _ ((blk_cell U13.out 0).trans rfl) (fun hHeld => ?_)
      clear hK K
      refine norm_ (a' := ?_) ?_ ?_
      rotate_left
      · show Act.put _ (some 127) _ = _
        simp only [Act.put, List.setIfInBounds_toArray, List.set_cons_zero, List.set_cons_succ, i64_w, i32_w]
        rfl
      refine one_ (i := 51) (N := some 129) (lb 55 4503599627370495) rfl rfl (by kernel_rfl) (by decide) (fun K hK => ?_)
      refine goes_ Try.func78 (by kernel_rfl) rfl #[.pointer (some ⟨gu, 0, none⟩)] (by rfl) rfl rfl (by simp only [List.map_toArray, List.map_cons, List.map_nil]; rfl) ?_
      with_reducible refine (r6slots_T F13.out HL.out).mono ?_
      rintro e w14 ⟨u14, rfl, hr, hb⟩
      refine ⟨_, rfl, ?_⟩
      have F14 := Aside0.mk (F13.out.below hb)
      have FB14 := Aside0.mk (below_step FB13.out hb)
      have U14 := Aside0.mk (blk_below U13.out hb)
      have V14 := Aside0.mk hr
      have V13b := Aside0.mk (Kd.R_below V13.out hb)
      clear hr hb
      refine hK.out _ _ ((blk_cell U14.out 0).trans rfl) (fun hHeld => ?_)
      clear hK K
      refine norm_ (a' := ?_) ?_ ?_
      rotate_left
      · show Act.put _ (some 129) _ = _
        simp only [Act.put, List.setIfInBounds_toArray, List.set_cons_zero, List.set_cons_succ, i64_w, i32_w]
        rfl
      refine one_ (i := 52) (N := some 130) (lb 55 9007199254740991) rfl rfl (by kernel_rfl) (by decide) (fun K hK => ?_)
      refine goes_ Try.func74 (by kernel_rfl) rfl #[u13, u14] (by rfl) rfl rfl (by simp only [List.map_toArray, List.map_cons, List.map_nil]; rfl) ?_
      with_reducible refine (ints_T u13 u14 _ _ _ w14 V13b.out V14.out LF.out).mono ?_
      rintro e w15 ⟨rfl, hb⟩
      refine ⟨_, rfl, ?_⟩
      have F15 := Aside0.mk (F14.out.below hb)
      have FB15 := Aside0.mk (below_step FB14.out hb)
      have U15 := Aside0.mk (blk_below U14.out hb)
      clear hb
      refine hK.out _ _ ((blk_cell U15.out 0).trans rfl) (fun hHeld => ?_)
      clear hK K
      refine norm_ (a' := ?_) ?_ ?_
      rotate_left
      · show Act.put _ (some 130) _ = _
        simp only [Act.put, List.setIfInBounds_toArray, List.set_cons_zero, List.set_cons_succ, i64_w, i32_w]
        rfl
      refine pS (v := ?_) (a' := ?_) 53 (some 131) (lb 55 18014398509481983) rfl rfl (by kernel_rfl) (fun _ _ _ h => h) (by rfl) ?_ ?_ ?_; rotate_left; (intro w'; go_simp; with_reducible rfl); rotate_left; (simp only [Act.put, List.setIfInBounds_toArray, List.set_cons_zero, List.set_cons_succ, i64_w, i32_w]; rfl)
      refine pS (v := ?_) (a' := ?_) 54 (some 132) (lb 55 36028797018963967) rfl rfl (by kernel_rfl) (fun _ _ _ h => h) (by rfl) ?_ ?_ ?_; rotate_left; (intro w'; go_simp; with_reducible rfl); rotate_left; (simp only [Act.put, List.setIfInBounds_toArray, List.set_cons_zero, List.set_cons_succ, i64_w, i32_w]; rfl)
      refine done_ (by kernel_rfl) ?_
      go_wp2_with fail
      refine (soulBornNil_T slot _).mono ?_
      rintro e w16 ⟨rfl, hb⟩
      have FB16 := Aside0.mk (below_step FB15.out hb)
      clear hb
      go_wp2_with fail
      refine (soulNowNil_T slot _).mono ?_
      rintro e w17 ⟨rfl, hb⟩
      have FB17 := Aside0.mk (below_step FB16.out hb)
      clear hb
      go_wp2_with fail
      refine (slotOfNil_T id _).mono ?_
      rintro e w18 ⟨rfl, hb⟩
      have FB18 := Aside0.mk (below_step FB17.out hb)
      clear hb
      go_wp2_with fail
      refine (soulCountNil_T _).mono ?_
      rintro e w19 ⟨rfl, hb⟩
      have FB19 := Aside0.mk (below_step FB18.out hb)
      clear hb
      go_wp2_with fail
      refine (soulAllNil_T slot _).mono ?_
      rintro e w20 ⟨rfl, hb⟩
      have FB20 := Aside0.mk (below_step FB19.out hb)
      clear hb
      go_wp2_with fail
      refine (soulSlotsNil_T _).mono ?_
      rintro e w21 ⟨rfl, hb⟩
      have FB21 := Aside0.mk (below_step FB20.out hb)
      clear hb
      go_wp2_with fail
      refine (soulIsNil_T slot id _).mono ?_
      rintro e w22 ⟨rfl, hb⟩
      have FB22 := Aside0.mk (below_step FB21.out hb)
      clear hb
      go_wp2_with fail
      go_ret
      exact ⟨rfl, FB22.out⟩
set_option maxHeartbeats 16000000 in
set_option maxRecDepth 100000 in
theorem exact06Tbz (A0_ : Option Addr) (c0 : Nat) (xs : List Int) (slot id : Int) (w : World) (hr0 : Kd.C (Kd.int .i64) w A0_ xs.length xs) (hc0 : xs.length ≤ c0) (hG : ∀ x ∈ xs, (Lit.int .i64 x).wf = true) (hB : 100 < xs.length) (hI : id = 0) :
    Calls Try.prog 13 #[.slice A0_ xs.length c0, .int .i64 slot, .int .i64 id] w fun e w' => e = .returned (.bool true) ∧ Below w.heap.size w w' := by
  have HBIG := Aside0.mk hB
  have HID := Aside0.mk hI
  clear hB hI
  have hu58 := Try.underlying58
  have hu95 := Try.underlying95
  have HR := Aside0.mk hr0
  have HC := Aside0.mk hc0
  have HG := Aside0.mk hG
  clear hr0 hc0 hG
  go_enter Try.func13, Try.ntmps13
  go_wp2_with fail
  refine (awake06_T w).mono ?_
  rintro e w1 ⟨rfl, hb⟩
  have B1 := Aside0.mk hb
  clear hb
  go_wp2_with fail
  refine (soulNew_T w1).mono ?_
  rintro e w2 ⟨gs, g3, rfl, h1, h2⟩
  have S2 := Aside0.mk (h1.rebase (w0 := w) B1.out.size)
  have B2 := Aside0.mk (below_step B1.out h2)
  clear h1 h2 B1
  have R3 := Aside0.mk (show Ref6 w (w2.alloc (.cells #[.slice none 0 0] 58)) gs g3 w2.heap.size (.slice none 0 0) (.slice none 0 0) [] [] from ⟨S2.out.alloc _, blk_new w2 _, Kd.R_nil _ _ _ _ _, fun k hk => by simp [Value.ownBlock] at hk, B2.out.size⟩)
  have B3 := Aside0.mk (below_alloc B2.out (.cells #[.slice none 0 0] 58))
  clear S2 B2
  go_wp2_with fail
  generalize w2.alloc (.cells #[.slice none 0 0] 58) = w3 at *
  generalize w2.heap.size = gu at *
  go_loopg [9] xs.length (fun kq v9 w' => ∃ (i : Int) (v vR : Value) (now : List (Int × Int)) (row : List Int), v9 = .int .i64 i ∧ Aside0 (0 ≤ i ∧ i ≤ 100 ∧ i + kq = xs.length) ∧ Aside0 (Ref6 w w' gs g3 gu v vR now row) ∧ Aside0 (Rel6 now row) ∧ Aside0 (Below w.heap.size w w') ∧ Aside0 ((row.length : Int) ≤ i))
  case atStart => exact ⟨0, _, _, [], [], rfl, ⟨by omega⟩, R3, ⟨rel6_0⟩, B3, ⟨Int.le_refl _⟩⟩
  case round =>
    clear R3 B3
    obtain ⟨i, v, vR, now, row, rfl, HK, JR, JL, JB, JN⟩ := hrel
    by_cases hi : i < (xs.length : Int) ∧ i < 100
    · have t1 : decide (i < (xs.length : Int)) = true := decide_eq_true hi.1
      have t2 : decide (i < 100) = true := decide_eq_true hi.2
      have p0 : (0 : Int) ≤ i := HK.out.1
      have q0 : i < (xs.length : Int) := hi.1
      have q1 := Aside0.mk hi.2
      clear hi
      obtain ⟨ko, rfl⟩ : ∃ m, gk = m + 1 := ⟨gk - 1, by have := HK.out; omega⟩
      obtain ⟨ad, e0, hx⟩ := Kd.at_int HR.out i p0 q0
      cases e0
      have hgx : (Lit.int .i64 (rd xs i)).wf = true := HG.out _ (by
        show xs.getD i.toNat 0 ∈ xs
        rw [List.getD_eq_getElem?_getD, List.getElem?_eq_getElem (by omega)]; exact List.getElem_mem _)
      generalize rd xs i = y at *
      have HX := Aside0.mk hx
      have HWF := Aside0.mk hgx
      clear hgx
      have hx1 := (JB.out.cell (World.block_lt_of_cell? w _ hx)).trans hx
      have dx : wr.drew.cell? (ad.add i.toNat) = some (.int .i64 y) := hx1
      clear hx
      have p0b : decide (0 ≤ i) = true := decide_eq_true p0
      have wi : wrap64 (i + 1) = i + 1 := by have := q1.out; unfold wrap64; omega
      replace p0 := eq_true p0
      replace q0 := eq_true q0
      have RI := Aside0.mk (show 0 ≤ i + 1 ∧ i + 1 ≤ 100 by have := HK.out; have := q1.out; omega)
      have HL := Aside0.mk (show row.length ≤ 100000 by have := JN.out; have := q1.out; omega)
      have HL2 := Aside0.mk (show (bornRow row y).length ≤ row.length + 1 by unfold bornRow; split; omega; rw [List.length_append, List.length_singleton]; omega)
      have HL3 := Aside0.mk (show (bornRow row y).length ≤ 100000 by have := JN.out; have := q1.out; have := HL2.out; omega)
      have D := Aside0.mk JR.out.drew
      have DB := Aside0.mk (below_drew JB.out)
      have DL := Aside0.mk (JL.out.born y HWF.out)
      have te : (bornId row y != bornId row y) = false := by simp
      have te2 : (nowR (bornRow row y) y != nowR (bornRow row y) y) = false := by simp
      go_wp2_with fail
      refine start_ (n := 28) (S := fun w' => w'.cell? (ad.add i.toNat) = some (.int .i64 y)) (ds := []) (lb 28 0) (by kernel_rfl) rfl rfl (dx) (fun hHeld => ?_)
      refine pS (v := ?_) (a' := ?_) 0 (some 28) (lb 28 1) rfl rfl (by kernel_rfl) (fun _ _ _ h => h) (by rfl) ?_ ?_ ?_; rotate_left; (intro w'; go_simp; with_reducible rfl); rotate_left; (simp only [Act.put, List.setIfInBounds_toArray, List.set_cons_zero, List.set_cons_succ, i64_w, i32_w]; rfl)
      refine pS (v := ?_) (a' := ?_) 1 (some 29) (lb 28 3) rfl rfl (by kernel_rfl) (fun _ _ _ h => h) (by rfl) ?_ ?_ ?_; rotate_left; (intro w'; go_simp; with_reducible rfl); rotate_left; (simp only [Act.put, List.setIfInBounds_toArray, List.set_cons_zero, List.set_cons_succ, i64_w, i32_w]; rfl)
      refine pS (v := ?_) (a' := ?_) 2 (some 30) (lb 28 7) rfl rfl (by kernel_rfl) (fun _ _ _ h => h) (by rfl) ?_ ?_ ?_; rotate_left; (intro w'; go_simp; with_reducible rfl); rotate_left; (simp only [Act.put, List.setIfInBounds_toArray, List.set_cons_zero, List.set_cons_succ, i64_w, i32_w]; rfl)
      refine pS (v := ?_) (a' := ?_) 3 (some 31) (lb 28 15) rfl rfl (by kernel_rfl) (fun _ _ _ h => h) (by rfl) ?_ ?_ ?_; rotate_left; (intro w'; go_simp; with_reducible rfl); rotate_left; (simp only [Act.put, List.setIfInBounds_toArray, List.set_cons_zero, List.set_cons_succ, i64_w, i32_w]; rfl)
      refine pS (v := ?_) (a' := ?_) 6 (some 34) (lb 28 79) rfl rfl (by kernel_rfl) (fun _ _ _ h => h) (by rfl) ?_ ?_ ?_; rotate_left; (intro w'; go_simp; with_reducible rfl); rotate_left; (simp only [Act.put, List.setIfInBounds_toArray, List.set_cons_zero, List.set_cons_succ, i64_w, i32_w]; rfl)
      refine pS (v := ?_) (a' := ?_) 7 (some 35) (lb 28 207) rfl rfl (by kernel_rfl) (fun _ _ _ h => h) (by rfl) ?_ ?_ ?_; rotate_left; (intro w'; go_simp; with_reducible rfl); rotate_left; (simp only [Act.put, List.setIfInBounds_toArray, List.set_cons_zero, List.set_cons_succ, i64_w, i32_w]; rfl)
      refine pS (v := ?_) (a' := ?_) 8 (some 36) (lb 28 463) rfl rfl (by kernel_rfl) (fun _ _ _ h => h) (by rfl) ?_ ?_ ?_; rotate_left; (intro w'; go_simp; with_reducible rfl); rotate_left; (simp only [Act.put, List.setIfInBounds_toArray, List.set_cons_zero, List.set_cons_succ, i64_w, i32_w]; rfl)
      refine pS (v := ?_) (a' := ?_) 9 (some 37) (lb 28 975) rfl rfl (by kernel_rfl) (fun _ _ _ h => h) (by rfl) ?_ ?_ ?_; rotate_left; (intro w'; go_simp; with_reducible rfl); rotate_left; (simp only [Act.put, List.setIfInBounds_toArray, List.set_cons_zero, List.set_cons_succ, i64_w, i32_w]; rfl)
      refine tS (v := ?_) (a' := ?_) 4 (some 32) (lb 28 991) rfl rfl (by kernel_rfl) (fun _ _ _ h => h) hHeld (by rfl) ?_ ?_ ?_; rotate_left; (rintro w' s0; go_simp; with_reducible rfl); rotate_left; (simp only [Act.put, List.setIfInBounds_toArray, List.set_cons_zero, List.set_cons_succ, i64_w, i32_w]; rfl)
      refine tS (v := ?_) (a' := ?_) 10 (some 38) (lb 28 2015) rfl rfl (by kernel_rfl) (fun _ _ _ h => h) hHeld (by rfl) ?_ ?_ ?_; rotate_left; (rintro w' s0; go_simp; with_reducible rfl); rotate_left; (simp only [Act.put, List.setIfInBounds_toArray, List.set_cons_zero, List.set_cons_succ, i64_w, i32_w]; rfl)
      refine one_ (i := 5) (N := some 33) (lb 28 2047) rfl rfl (by kernel_rfl) (by decide) (fun K hK => ?_)
      refine goes_ Try.func69 (by kernel_rfl) rfl #[.pointer (some ⟨gs, 0, none⟩), .int .i64 y] (by rfl) rfl rfl (by simp only [List.map_toArray, List.map_cons, List.map_nil]; rfl) ?_
      with_reducible refine (soulBorn_U gs g3 v now row y w _ D.out.S DB.out HL.out).mono ?_
      rintro e w5 ⟨rfl, ⟨v5, h1_, h2_⟩, h3_, h4_⟩
      refine ⟨_, rfl, ?_⟩
      have E5 := Aside0.mk (D.out.sB h1_ h2_ h4_)
      have EB := Aside0.mk h3_
      clear h1_ h2_ h3_ h4_
      refine hK.out _ _ ((EB.out.cell (World.block_lt_of_cell? w _ HX.out)).trans HX.out) (fun hHeld => ?_)
      clear hK K
      refine norm_ (a' := ?_) ?_ ?_
      rotate_left
      · show Act.put _ (some 33) _ = _
        simp only [Act.put, List.setIfInBounds_toArray, List.set_cons_zero, List.set_cons_succ, i64_w, i32_w]
        rfl
      refine one_ (i := 11) (N := some 39) (lb 28 4095) rfl rfl (by kernel_rfl) (by decide) (fun K hK => ?_)
      refine goes_ Try.func70 (by kernel_rfl) rfl #[.pointer (some ⟨gu, 0, none⟩), .int .i64 y] (by rfl) rfl rfl (by simp only [List.map_toArray, List.map_cons, List.map_nil]; rfl) ?_
      with_reducible refine (rborn_T w.heap.size gu 0 #[vR] 58 vR row y w _ E5.out.blk rfl (by decide) E5.out.R E5.out.b EB.out EB.out.size HL.out).mono ?_
      rintro e w6 ⟨rfl, hp_⟩
      refine ⟨_, rfl, ?_⟩
      obtain ⟨v6, h6_⟩ := E5.out.rB (r := .int .i64 (bornId row y)) (e := .returned (.int .i64 (bornId row y))) ⟨rfl, hp_⟩
      have F := Aside0.mk h6_
      have FB := Aside0.mk (show Below w.heap.size w w6 from by obtain ⟨_, _, _, h, _⟩ := hp_; exact h)
      clear hp_ h6_
      refine hK.out _ _ ((FB.out.cell (World.block_lt_of_cell? w _ HX.out)).trans HX.out) (fun hHeld => ?_)
      clear hK K
      refine norm_ (a' := ?_) ?_ ?_
      rotate_left
      · show Act.put _ (some 39) _ = _
        simp only [Act.put, List.setIfInBounds_toArray, List.set_cons_zero, List.set_cons_succ, i64_w, i32_w]
        rfl
      refine pS (v := ?_) (a' := ?_) 12 (some 40) (lb 28 8191) rfl rfl (by kernel_rfl) (fun _ _ _ h => h) (by rfl) ?_ ?_ ?_; rotate_left; (intro w'; go_simp; with_reducible rfl); rotate_left; (simp only [Act.put, List.setIfInBounds_toArray, List.set_cons_zero, List.set_cons_succ, i64_w, i32_w]; rfl)
      refine pS (v := ?_) (a' := ?_) 13 (some 41) (lb 28 16383) rfl rfl (by kernel_rfl) (fun _ _ _ h => h) (by rfl) ?_ ?_ ?_; rotate_left; (intro w'; go_simp; with_reducible rfl); rotate_left; (simp only [Act.put, List.setIfInBounds_toArray, List.set_cons_zero, List.set_cons_succ, i64_w, i32_w]; rfl)
      refine pS (v := ?_) (a' := ?_) 14 (some 42) (lb 28 32767) rfl rfl (by kernel_rfl) (fun _ _ _ h => h) (by rfl) ?_ ?_ ?_; rotate_left; (intro w'; go_simp; with_reducible rfl); rotate_left; (simp only [Act.put, List.setIfInBounds_toArray, List.set_cons_zero, List.set_cons_succ, i64_w, i32_w]; rfl)
      refine pS (v := ?_) (a' := ?_) 15 (some 43) (lb 28 65535) rfl rfl (by kernel_rfl) (fun _ _ _ h => h) (by rfl) ?_ ?_ ?_; rotate_left; (intro w'; go_simp; with_reducible rfl); rotate_left; (simp only [Act.put, List.setIfInBounds_toArray, List.set_cons_zero, List.set_cons_succ, i64_w, i32_w]; rfl)
      refine pS (v := ?_) (a' := ?_) 16 (some 44) (lb 28 131071) rfl rfl (by kernel_rfl) (fun _ _ _ h => h) (by rfl) ?_ ?_ ?_; rotate_left; (intro w'; go_simp; with_reducible rfl); rotate_left; (simp only [Act.put, List.setIfInBounds_toArray, List.set_cons_zero, List.set_cons_succ, i64_w, i32_w]; rfl)
      refine pS (v := ?_) (a' := ?_) 17 (some 45) (lb 28 262143) rfl rfl (by kernel_rfl) (fun _ _ _ h => h) (by rfl) ?_ ?_ ?_; rotate_left; (intro w'; go_simp; with_reducible rfl); rotate_left; (simp only [Act.put, List.setIfInBounds_toArray, List.set_cons_zero, List.set_cons_succ, i64_w, i32_w]; rfl)
      refine pS (v := ?_) (a' := ?_) 20 (some 48) (lb 28 1310719) rfl rfl (by kernel_rfl) (fun _ _ _ h => h) (by rfl) ?_ ?_ ?_; rotate_left; (intro w'; go_simp; with_reducible rfl); rotate_left; (simp only [Act.put, List.setIfInBounds_toArray, List.set_cons_zero, List.set_cons_succ, i64_w, i32_w]; rfl)
      refine pS (v := ?_) (a' := ?_) 21 (some 49) (lb 28 3407871) rfl rfl (by kernel_rfl) (fun _ _ _ h => h) (by rfl) ?_ ?_ ?_; rotate_left; (intro w'; go_simp; with_reducible rfl); rotate_left; (simp only [Act.put, List.setIfInBounds_toArray, List.set_cons_zero, List.set_cons_succ, i64_w, i32_w]; rfl)
      refine pS (v := ?_) (a' := ?_) 22 (some 50) (lb 28 7602175) rfl rfl (by kernel_rfl) (fun _ _ _ h => h) (by rfl) ?_ ?_ ?_; rotate_left; (intro w'; go_simp; with_reducible rfl); rotate_left; (simp only [Act.put, List.setIfInBounds_toArray, List.set_cons_zero, List.set_cons_succ, i64_w, i32_w]; rfl)
      refine pS (v := ?_) (a' := ?_) 23 (some 51) (lb 28 15990783) rfl rfl (by kernel_rfl) (fun _ _ _ h => h) (by rfl) ?_ ?_ ?_; rotate_left; (intro w'; go_simp; with_reducible rfl); rotate_left; (simp only [Act.put, List.setIfInBounds_toArray, List.set_cons_zero, List.set_cons_succ, i64_w, i32_w]; rfl)
      refine tS (v := ?_) (a' := ?_) 18 (some 46) (lb 28 16252927) rfl rfl (by kernel_rfl) (fun _ _ _ h => h) hHeld (by rfl) ?_ ?_ ?_; rotate_left; (rintro w' s0; go_simp; with_reducible rfl); rotate_left; (simp only [Act.put, List.setIfInBounds_toArray, List.set_cons_zero, List.set_cons_succ, i64_w, i32_w]; rfl)
      refine tS (v := ?_) (a' := ?_) 24 (some 52) (lb 28 33030143) rfl rfl (by kernel_rfl) (fun _ _ _ h => h) hHeld (by rfl) ?_ ?_ ?_; rotate_left; (rintro w' s0; go_simp; with_reducible rfl); rotate_left; (simp only [Act.put, List.setIfInBounds_toArray, List.set_cons_zero, List.set_cons_succ, i64_w, i32_w]; rfl)
      refine one_ (i := 19) (N := some 47) (lb 28 33554431) rfl rfl (by kernel_rfl) (by decide) (fun K hK => ?_)
      refine goes_ Try.func41 (by kernel_rfl) rfl #[.pointer (some ⟨gs, 0, none⟩), .int .i64 y] (by rfl) rfl rfl (by simp only [List.map_toArray, List.map_cons, List.map_nil]; rfl) ?_
      with_reducible refine (soulNow_T gs g3 _ _ _ y w _ F.out.S).mono ?_
      rintro e w7 ⟨rfl, hb⟩
      refine ⟨_, rfl, ?_⟩
      rw [DL.out.tell]
      have G := Aside0.mk (F.out.below hb)
      have GB := Aside0.mk (below_step FB.out hb)
      clear hb
      refine hK.out _ _ ((GB.out.cell (World.block_lt_of_cell? w _ HX.out)).trans HX.out) (fun hHeld => ?_)
      clear hK K
      refine norm_ (a' := ?_) ?_ ?_
      rotate_left
      · show Act.put _ (some 47) _ = _
        simp only [Act.put, List.setIfInBounds_toArray, List.set_cons_zero, List.set_cons_succ, i64_w, i32_w]
        rfl
      refine one_ (i := 25) (N := some 53) (lb 28 67108863) rfl rfl (by kernel_rfl) (by decide) (fun K hK => ?_)
      refine goes_ Try.func71 (by kernel_rfl) rfl #[.pointer (some ⟨gu, 0, none⟩), .int .i64 y] (by rfl) rfl rfl (by simp only [List.map_toArray, List.map_cons, List.map_nil]; rfl) ?_
      with_reducible refine (r6now_T G.out y HL3.out).mono ?_
      rintro e w8 ⟨rfl, hb⟩
      refine ⟨_, rfl, ?_⟩
      have H8 := Aside0.mk (G.out.below hb)
      have HB8 := Aside0.mk (below_step GB.out hb)
      clear hb
      refine hK.out _ _ ((HB8.out.cell (World.block_lt_of_cell? w _ HX.out)).trans HX.out) (fun hHeld => ?_)
      clear hK K
      refine norm_ (a' := ?_) ?_ ?_
      rotate_left
      · show Act.put _ (some 53) _ = _
        simp only [Act.put, List.setIfInBounds_toArray, List.set_cons_zero, List.set_cons_succ, i64_w, i32_w]
        rfl
      refine pS (v := ?_) (a' := ?_) 26 (some 54) (lb 28 134217727) rfl rfl (by kernel_rfl) (fun _ _ _ h => h) (by rfl) ?_ ?_ ?_; rotate_left; (intro w'; go_simp; with_reducible rfl); rotate_left; (simp only [Act.put, List.setIfInBounds_toArray, List.set_cons_zero, List.set_cons_succ, i64_w, i32_w]; rfl)
      refine pS (v := ?_) (a' := ?_) 27 (some 55) (lb 28 268435455) rfl rfl (by kernel_rfl) (fun _ _ _ h => h) (by rfl) ?_ ?_ ?_; rotate_left; (intro w'; go_simp; with_reducible rfl); rotate_left; (simp only [Act.put, List.setIfInBounds_toArray, List.set_cons_zero, List.set_cons_succ, i64_w, i32_w]; rfl)
      refine done_ (by kernel_rfl) ?_
      go_wp2_with fail
      go_roundg ko
      case rel => exact ⟨i + 1, v5, v6, bornNow now row y, bornRow row y, by first | rfl | rw [wi], ⟨by have := HK.out; have := RI.out; omega⟩, H8, DL, HB8, ⟨by have := JN.out; have := HL2.out; omega⟩⟩
      case measure => exact Nat.lt_succ_self _
    · have t1 : decide (i < (xs.length : Int)) = true := decide_eq_true (by have := HBIG.out; have := HK.out; omega)
      have t2 : decide (i < 100) = false := decide_eq_false (fun h => hi ⟨by have := HBIG.out; omega, h⟩)
      clear hi
      have HL := Aside0.mk (show row.length ≤ 100000 by have := JN.out; have := HK.out; omega)
      obtain ⟨Ar, cr, er, _, hCr⟩ := Kd.R_reads JR.out.R
      subst er
      have cu : wr.cell? ⟨gu, 0, none⟩ = some (.slice Ar row.length cr) := (blk_cell JR.out.blk 0).trans rfl
      have HCU := Aside0.mk cu
      have HCr := Aside0.mk hCr
      obtain ⟨nw, hnw⟩ : ∃ z, nowR row slot = z := ⟨_, rfl⟩
      have NW := Aside0.mk hnw
      have NG := Aside0.mk (show (get now slot).getD 0 = nw by rw [JL.out.tell, hnw])
      clear hCr hnw
      have tn : (nw != nw) = false := by simp
      have tl : ((row.length : Int) != (row.length : Int)) = false := by simp
      have LA := Aside0.mk (show (allF row slot row.length).length ≤ 100000 from Nat.le_trans (allF_len row slot row.length) HL.out)
      have LF := Aside0.mk (show ((firsts row row.length).mergeSort leZ).length ≤ 100000 by rw [List.length_mergeSort]; exact Nat.le_trans (firsts_len row row.length) HL.out)
      have h0 := HID.out
      subst h0
      have t3 : decide ((0 : Int) > 0) = false := rfl
      have AT := Aside0.mk (show slotR row 0 = 0 from if_pos (.inl (by decide)))
      go_wp2_with fail
      clear cu
      refine (r6now_T JR.out slot HL.out).mono ?_
      rintro e w5 ⟨rfl, hb⟩
      rw [NW.out]
      have F5 := Aside0.mk (JR.out.below hb).drew
      have FB5 := Aside0.mk (below_drew (below_step JB.out hb))
      have U5 := Aside0.mk (blk_drew (blk_below JR.out.blk hb))
      clear hb
      have cu5 : w5.drew.cell? ⟨gu, 0, none⟩ = some (.slice Ar row.length cr) := (blk_cell U5.out 0).trans rfl
      have EI := Aside0.mk (show isR now slot 0 = false from rfl)
      have ta : ((0 : Int) != 0) = false := by simp
      go_wp2_with fail
      refine start_ (n := 55) (S := fun w' => w'.cell? ⟨gu, 0, none⟩ = some (.slice Ar row.length cr)) (ds := []) (lb 55 0) (by kernel_rfl) rfl rfl (cu5) (fun hHeld => ?_)
      refine pS (v := ?_) (a' := ?_) 0 (some 78) (lb 55 1) rfl rfl (by kernel_rfl) (fun _ _ _ h => h) (by rfl) ?_ ?_ ?_; rotate_left; (intro w'; go_simp; with_reducible rfl); rotate_left; (simp only [Act.put, List.setIfInBounds_toArray, List.set_cons_zero, List.set_cons_succ, i64_w, i32_w]; rfl)
      refine pS (v := ?_) (a' := ?_) 1 (some 79) (lb 55 3) rfl rfl (by kernel_rfl) (fun _ _ _ h => h) (by rfl) ?_ ?_ ?_; rotate_left; (intro w'; go_simp; with_reducible rfl); rotate_left; (simp only [Act.put, List.setIfInBounds_toArray, List.set_cons_zero, List.set_cons_succ, i64_w, i32_w]; rfl)
      refine pS (v := ?_) (a' := ?_) 3 (some 81) (lb 55 11) rfl rfl (by kernel_rfl) (fun _ _ _ h => h) (by rfl) ?_ ?_ ?_; rotate_left; (intro w'; go_simp; with_reducible rfl); rotate_left; (simp only [Act.put, List.setIfInBounds_toArray, List.set_cons_zero, List.set_cons_succ, i64_w, i32_w]; rfl)
      refine one_ (i := 2) (N := some 80) (lb 55 15) rfl rfl (by kernel_rfl) (by decide) (fun K hK => ?_)
      refine goes_ Try.func41 (by kernel_rfl) rfl #[.pointer (some ⟨gs, 0, none⟩), .int .i64 slot] (by rfl) rfl rfl (by simp only [List.map_toArray, List.map_cons, List.map_nil]; rfl) ?_
      with_reducible refine (soulNow_T gs g3 v now row slot w _ F5.out.S).mono ?_
      rintro e w6 ⟨rfl, hb⟩
      refine ⟨_, rfl, ?_⟩
      rw [NG.out]
      have F6 := Aside0.mk (F5.out.below hb)
      have FB6 := Aside0.mk (below_step FB5.out hb)
      have U6 := Aside0.mk (blk_below U5.out hb)
      clear hb
      refine hK.out _ _ ((blk_cell U6.out 0).trans rfl) (fun hHeld => ?_)
      clear hK K
      refine norm_ (a' := ?_) ?_ ?_
      rotate_left
      · show Act.put _ (some 80) _ = _
        simp only [Act.put, List.setIfInBounds_toArray, List.set_cons_zero, List.set_cons_succ, i64_w, i32_w]
        rfl
      refine pS (v := ?_) (a' := ?_) 4 (some 82) (lb 55 31) rfl rfl (by kernel_rfl) (fun _ _ _ h => h) (by rfl) ?_ ?_ ?_; rotate_left; (intro w'; go_simp; with_reducible rfl); rotate_left; (simp only [Act.put, List.setIfInBounds_toArray, List.set_cons_zero, List.set_cons_succ, i64_w, i32_w]; rfl)
      refine pS (v := ?_) (a' := ?_) 5 (some 83) (lb 55 63) rfl rfl (by kernel_rfl) (fun _ _ _ h => h) (by rfl) ?_ ?_ ?_; rotate_left; (intro w'; go_simp; with_reducible rfl); rotate_left; (simp only [Act.put, List.setIfInBounds_toArray, List.set_cons_zero, List.set_cons_succ, i64_w, i32_w]; rfl)
      refine pS (v := ?_) (a' := ?_) 6 (some 84) (lb 55 127) rfl rfl (by kernel_rfl) (fun _ _ _ h => h) (by rfl) ?_ ?_ ?_; rotate_left; (intro w'; go_simp; with_reducible rfl); rotate_left; (simp only [Act.put, List.setIfInBounds_toArray, List.set_cons_zero, List.set_cons_succ, i64_w, i32_w]; rfl)
      refine pS (v := ?_) (a' := ?_) 7 (some 85) (lb 55 255) rfl rfl (by kernel_rfl) (fun _ _ _ h => h) (by rfl) ?_ ?_ ?_; rotate_left; (intro w'; go_simp; with_reducible rfl); rotate_left; (simp only [Act.put, List.setIfInBounds_toArray, List.set_cons_zero, List.set_cons_succ, i64_w, i32_w]; rfl)
      refine pS (v := ?_) (a' := ?_) 8 (some 86) (lb 55 511) rfl rfl (by kernel_rfl) (fun _ _ _ h => h) (by rfl) ?_ ?_ ?_; rotate_left; (intro w'; go_simp; with_reducible rfl); rotate_left; (simp only [Act.put, List.setIfInBounds_toArray, List.set_cons_zero, List.set_cons_succ, i64_w, i32_w]; rfl)
      refine pS (v := ?_) (a' := ?_) 9 (some 87) (lb 55 1023) rfl rfl (by kernel_rfl) (fun _ _ _ h => h) (by rfl) ?_ ?_ ?_; rotate_left; (intro w'; go_simp; with_reducible rfl); rotate_left; (simp only [Act.put, List.setIfInBounds_toArray, List.set_cons_zero, List.set_cons_succ, i64_w, i32_w]; rfl)
      refine pS (v := ?_) (a' := ?_) 11 (some 89) (lb 55 3071) rfl rfl (by kernel_rfl) (fun _ _ _ h => h) (by rfl) ?_ ?_ ?_; rotate_left; (intro w'; go_simp; with_reducible rfl); rotate_left; (simp only [Act.put, List.setIfInBounds_toArray, List.set_cons_zero, List.set_cons_succ, i64_w, i32_w]; rfl)
      refine pS (v := ?_) (a' := ?_) 12 (some 90) (lb 55 7167) rfl rfl (by kernel_rfl) (fun _ _ _ h => h) (by rfl) ?_ ?_ ?_; rotate_left; (intro w'; go_simp; with_reducible rfl); rotate_left; (simp only [Act.put, List.setIfInBounds_toArray, List.set_cons_zero, List.set_cons_succ, i64_w, i32_w]; rfl)
      refine one_ (i := 10) (N := some 88) (lb 55 8191) rfl rfl (by kernel_rfl) (by decide) (fun K hK => ?_)
      refine goes_ Try.func72 (by kernel_rfl) rfl #[.pointer (some ⟨gs, 0, none⟩), Value.agg #[.int .i64 slot, .int .i64 0]] (by rfl) rfl rfl (by simp only [List.map_toArray, List.map_cons, List.map_nil]; rfl) ?_
      with_reducible refine (soulIs_T gs g3 v now row slot 0 w _ F6.out.S).mono ?_
      rintro e w7 ⟨rfl, hb⟩
      refine ⟨_, rfl, ?_⟩
      rw [EI.out]
      have F7 := Aside0.mk (F6.out.below hb)
      have FB7 := Aside0.mk (below_step FB6.out hb)
      have U7 := Aside0.mk (blk_below U6.out hb)
      clear hb
      refine hK.out _ _ ((blk_cell U7.out 0).trans rfl) (fun hHeld => ?_)
      clear hK K
      refine norm_ (a' := ?_) ?_ ?_
      rotate_left
      · show Act.put _ (some 88) _ = _
        simp only [Act.put, List.setIfInBounds_toArray, List.set_cons_zero, List.set_cons_succ, i64_w, i32_w]
        rfl
      refine pS (v := ?_) (a' := ?_) 13 (some 91) (lb 55 16383) rfl rfl (by kernel_rfl) (fun _ _ _ h => h) (by rfl) ?_ ?_ ?_; rotate_left; (intro w'; go_simp; with_reducible rfl); rotate_left; (simp only [Act.put, List.setIfInBounds_toArray, List.set_cons_zero, List.set_cons_succ, i64_w, i32_w]; rfl)
      refine pO (a' := ?_) 14 (some 92) (lb 55 32767) rfl rfl (by kernel_rfl) (fun _ _ _ h => h) (by rfl) ?_ ?_; rotate_left; (simp only [Act.put, List.setIfInBounds_toArray, List.set_cons_zero, List.set_cons_succ, i64_w, i32_w]; rfl)
      refine pO (a' := ?_) 15 (some 93) (lb 55 65535) rfl rfl (by kernel_rfl) (fun _ _ _ h => h) (by rfl) ?_ ?_; rotate_left; (simp only [Act.put, List.setIfInBounds_toArray, List.set_cons_zero, List.set_cons_succ, i64_w, i32_w]; rfl)
      refine pO (a' := ?_) 16 (some 94) (lb 55 131071) rfl rfl (by kernel_rfl) (fun _ _ _ h => h) (by rfl) ?_ ?_; rotate_left; (simp only [Act.put, List.setIfInBounds_toArray, List.set_cons_zero, List.set_cons_succ, i64_w, i32_w]; rfl)
      refine pS (v := ?_) (a' := ?_) 17 (some 95) (lb 55 262143) rfl rfl (by kernel_rfl) (fun _ _ _ h => h) (by rfl) ?_ ?_ ?_; rotate_left; (intro w'; go_simp; with_reducible rfl); rotate_left; (simp only [Act.put, List.setIfInBounds_toArray, List.set_cons_zero, List.set_cons_succ, i64_w, i32_w]; rfl)
      refine pS (v := ?_) (a' := ?_) 18 (some 96) (lb 55 524287) rfl rfl (by kernel_rfl) (fun _ _ _ h => h) (by rfl) ?_ ?_ ?_; rotate_left; (intro w'; go_simp; with_reducible rfl); rotate_left; (simp only [Act.put, List.setIfInBounds_toArray, List.set_cons_zero, List.set_cons_succ, i64_w, i32_w]; rfl)
      refine pS (v := ?_) (a' := ?_) 19 (some 97) (lb 55 1048575) rfl rfl (by kernel_rfl) (fun _ _ _ h => h) (by rfl) ?_ ?_ ?_; rotate_left; (intro w'; go_simp; with_reducible rfl); rotate_left; (simp only [Act.put, List.setIfInBounds_toArray, List.set_cons_zero, List.set_cons_succ, i64_w, i32_w]; rfl)
      refine pS (v := ?_) (a' := ?_) 20 (some 98) (lb 55 2097151) rfl rfl (by kernel_rfl) (fun _ _ _ h => h) (by rfl) ?_ ?_ ?_; rotate_left; (intro w'; go_simp; with_reducible rfl); rotate_left; (simp only [Act.put, List.setIfInBounds_toArray, List.set_cons_zero, List.set_cons_succ, i64_w, i32_w]; rfl)
      refine pS (v := ?_) (a' := ?_) 21 (some 99) (lb 55 4194303) rfl rfl (by kernel_rfl) (fun _ _ _ h => h) (by rfl) ?_ ?_ ?_; rotate_left; (intro w'; go_simp; with_reducible rfl); rotate_left; (simp only [Act.put, List.setIfInBounds_toArray, List.set_cons_zero, List.set_cons_succ, i64_w, i32_w]; rfl)
      refine pS (v := ?_) (a' := ?_) 22 (some 100) (lb 55 8388607) rfl rfl (by kernel_rfl) (fun _ _ _ h => h) (by rfl) ?_ ?_ ?_; rotate_left; (intro w'; go_simp; with_reducible rfl); rotate_left; (simp only [Act.put, List.setIfInBounds_toArray, List.set_cons_zero, List.set_cons_succ, i64_w, i32_w]; rfl)
      refine pS (v := ?_) (a' := ?_) 24 (some 102) (lb 55 25165823) rfl rfl (by kernel_rfl) (fun _ _ _ h => h) (by rfl) ?_ ?_ ?_; rotate_left; (intro w'; go_simp; with_reducible rfl); rotate_left; (simp only [Act.put, List.setIfInBounds_toArray, List.set_cons_zero, List.set_cons_succ, i64_w, i32_w]; rfl)
      refine one_ (i := 23) (N := some 101) (lb 55 33554431) rfl rfl (by kernel_rfl) (by decide) (fun K hK => ?_)
      refine goes_ Try.func73 (by kernel_rfl) rfl #[.pointer (some ⟨gs, 0, none⟩), .int .i64 0] (by rfl) rfl rfl (by simp only [List.map_toArray, List.map_cons, List.map_nil]; rfl) ?_
      with_reducible refine (slotOf_T gs g3 v now row 0 w _ F7.out.S HL.out).mono ?_
      rintro e w8 ⟨rfl, hb⟩
      refine ⟨_, rfl, ?_⟩
      rw [AT.out]
      have F8 := Aside0.mk (F7.out.below hb)
      have FB8 := Aside0.mk (below_step FB7.out hb)
      have U8 := Aside0.mk (blk_below U7.out hb)
      clear hb
      refine hK.out _ _ ((blk_cell U8.out 0).trans rfl) (fun hHeld => ?_)
      clear hK K
      refine norm_ (a' := ?_) ?_ ?_
      rotate_left
      · show Act.put _ (some 101) _ = _
        simp only [Act.put, List.setIfInBounds_toArray, List.set_cons_zero, List.set_cons_succ, i64_w, i32_w]
        rfl
      refine pS (v := ?_) (a' := ?_) 25 (some 103) (lb 55 67108863) rfl rfl (by kernel_rfl) (fun _ _ _ h => h) (by rfl) ?_ ?_ ?_; rotate_left; (intro w'; go_simp; with_reducible rfl); rotate_left; (simp only [Act.put, List.setIfInBounds_toArray, List.set_cons_zero, List.set_cons_succ, i64_w, i32_w]; rfl)
      refine pS (v := ?_) (a' := ?_) 26 (some 104) (lb 55 134217727) rfl rfl (by kernel_rfl) (fun _ _ _ h => h) (by rfl) ?_ ?_ ?_; rotate_left; (intro w'; go_simp; with_reducible rfl); rotate_left; (simp only [Act.put, List.setIfInBounds_toArray, List.set_cons_zero, List.set_cons_succ, i64_w, i32_w]; rfl)
      refine pS (v := ?_) (a' := ?_) 27 (some 105) (lb 55 268435455) rfl rfl (by kernel_rfl) (fun _ _ _ h => h) (by rfl) ?_ ?_ ?_; rotate_left; (intro w'; go_simp; with_reducible rfl); rotate_left; (simp only [Act.put, List.setIfInBounds_toArray, List.set_cons_zero, List.set_cons_succ, i64_w, i32_w]; rfl)
      refine pS (v := ?_) (a' := ?_) 28 (some 106) (lb 55 536870911) rfl rfl (by kernel_rfl) (fun _ _ _ h => h) (by rfl) ?_ ?_ ?_; rotate_left; (intro w'; go_simp; with_reducible rfl); rotate_left; (simp only [Act.put, List.setIfInBounds_toArray, List.set_cons_zero, List.set_cons_succ, i64_w, i32_w]; rfl)
      refine pS (v := ?_) (a' := ?_) 29 (some 107) (lb 55 1073741823) rfl rfl (by kernel_rfl) (fun _ _ _ h => h) (by rfl) ?_ ?_ ?_; rotate_left; (intro w'; go_simp; with_reducible rfl); rotate_left; (simp only [Act.put, List.setIfInBounds_toArray, List.set_cons_zero, List.set_cons_succ, i64_w, i32_w]; rfl)
      refine pS (v := ?_) (a' := ?_) 31 (some 109) (lb 55 3221225471) rfl rfl (by kernel_rfl) (fun _ _ _ h => h) (by rfl) ?_ ?_ ?_; rotate_left; (intro w'; go_simp; with_reducible rfl); rotate_left; (simp only [Act.put, List.setIfInBounds_toArray, List.set_cons_zero, List.set_cons_succ, i64_w, i32_w]; rfl)
      refine pS (v := ?_) (a' := ?_) 32 (some 110) (lb 55 7516192767) rfl rfl (by kernel_rfl) (fun _ _ _ h => h) (by rfl) ?_ ?_ ?_; rotate_left; (intro w'; go_simp; with_reducible rfl); rotate_left; (simp only [Act.put, List.setIfInBounds_toArray, List.set_cons_zero, List.set_cons_succ, i64_w, i32_w]; rfl)
      refine one_ (i := 30) (N := some 108) (lb 55 8589934591) rfl rfl (by kernel_rfl) (by decide) (fun K hK => ?_)
      refine goes_ Try.func75 (by kernel_rfl) rfl #[.pointer (some ⟨gs, 0, none⟩), .int .i64 slot] (by rfl) rfl rfl (by simp only [List.map_toArray, List.map_cons, List.map_nil]; rfl) ?_
      with_reducible refine (soulAll_T gs g3 v now row slot w _ F8.out.S HL.out).mono ?_
      rintro e w9 ⟨u9, rfl, hr, hb⟩
      refine ⟨_, rfl, ?_⟩
      have F9 := Aside0.mk (F8.out.below hb)
      have FB9 := Aside0.mk (below_step FB8.out hb)
      have U9 := Aside0.mk (blk_below U8.out hb)
      have V9 := Aside0.mk hr
      clear hr hb
      refine hK.out _ _ ((blk_cell U9.out 0).trans rfl) (fun hHeld => ?_)
      clear hK K
      refine norm_ (a' := ?_) ?_ ?_
      rotate_left
      · show Act.put _ (some 108) _ = _
        simp only [Act.put, List.setIfInBounds_toArray, List.set_cons_zero, List.set_cons_succ, i64_w, i32_w]
        rfl
      refine one_ (i := 33) (N := some 111) (lb 55 17179869183) rfl rfl (by kernel_rfl) (by decide) (fun K hK => ?_)
      refine goes_ Try.func76 (by kernel_rfl) rfl #[.pointer (some ⟨gu, 0, none⟩), .int .i64 slot] (by rfl) rfl rfl (by simp only [List.map_toArray, List.map_cons, List.map_nil]; rfl) ?_
      with_reducible refine (r6all_T F9.out slot HL.out).mono ?_
      rintro e w10 ⟨u10, rfl, hr, hb⟩
      refine ⟨_, rfl, ?_⟩
      have F10 := Aside0.mk (F9.out.below hb)
      have FB10 := Aside0.mk (below_step FB9.out hb)
      have U10 := Aside0.mk (blk_below U9.out hb)
      have V10 := Aside0.mk hr
      have V9b := Aside0.mk (Kd.R_below V9.out hb)
      clear hr hb
      refine hK.out _ _ ((blk_cell U10.out 0).trans rfl) (fun hHeld => ?_)
      clear hK K
      refine norm_ (a' := ?_) ?_ ?_
      rotate_left
      · show Act.put _ (some 111) _ = _
        simp only [Act.put, List.setIfInBounds_toArray, List.set_cons_zero, List.set_cons_succ, i64_w, i32_w]
        rfl
      refine one_ (i := 34) (N := some 112) (lb 55 34359738367) rfl rfl (by kernel_rfl) (by decide) (fun K hK => ?_)
      refine goes_ Try.func74 (by kernel_rfl) rfl #[u9, u10] (by rfl) rfl rfl (by simp only [List.map_toArray, List.map_cons, List.map_nil]; rfl) ?_
      with_reducible refine (ints_T u9 u10 _ _ _ w10 V9b.out V10.out LA.out).mono ?_
      rintro e w11 ⟨rfl, hb⟩
      refine ⟨_, rfl, ?_⟩
      have F11 := Aside0.mk (F10.out.below hb)
      have FB11 := Aside0.mk (below_step FB10.out hb)
      have U11 := Aside0.mk (blk_below U10.out hb)
      clear hb
      refine hK.out _ _ ((blk_cell U11.out 0).trans rfl) (fun hHeld => ?_)
      clear hK K
      refine norm_ (a' := ?_) ?_ ?_
      rotate_left
      · show Act.put _ (some 112) _ = _
        simp only [Act.put, List.setIfInBounds_toArray, List.set_cons_zero, List.set_cons_succ, i64_w, i32_w]
        rfl
      refine pS (v := ?_) (a' := ?_) 35 (some 113) (lb 55 68719476735) rfl rfl (by kernel_rfl) (fun _ _ _ h => h) (by rfl) ?_ ?_ ?_; rotate_left; (intro w'; go_simp; with_reducible rfl); rotate_left; (simp only [Act.put, List.setIfInBounds_toArray, List.set_cons_zero, List.set_cons_succ, i64_w, i32_w]; rfl)
      refine pS (v := ?_) (a' := ?_) 36 (some 114) (lb 55 137438953471) rfl rfl (by kernel_rfl) (fun _ _ _ h => h) (by rfl) ?_ ?_ ?_; rotate_left; (intro w'; go_simp; with_reducible rfl); rotate_left; (simp only [Act.put, List.setIfInBounds_toArray, List.set_cons_zero, List.set_cons_succ, i64_w, i32_w]; rfl)
      refine pS (v := ?_) (a' := ?_) 37 (some 115) (lb 55 274877906943) rfl rfl (by kernel_rfl) (fun _ _ _ h => h) (by rfl) ?_ ?_ ?_; rotate_left; (intro w'; go_simp; with_reducible rfl); rotate_left; (simp only [Act.put, List.setIfInBounds_toArray, List.set_cons_zero, List.set_cons_succ, i64_w, i32_w]; rfl)
      refine pS (v := ?_) (a' := ?_) 38 (some 116) (lb 55 549755813887) rfl rfl (by kernel_rfl) (fun _ _ _ h => h) (by rfl) ?_ ?_ ?_; rotate_left; (intro w'; go_simp; with_reducible rfl); rotate_left; (simp only [Act.put, List.setIfInBounds_toArray, List.set_cons_zero, List.set_cons_succ, i64_w, i32_w]; rfl)
      refine pS (v := ?_) (a' := ?_) 40 (some 118) (lb 55 1649267441663) rfl rfl (by kernel_rfl) (fun _ _ _ h => h) (by rfl) ?_ ?_ ?_; rotate_left; (intro w'; go_simp; with_reducible rfl); rotate_left; (simp only [Act.put, List.setIfInBounds_toArray, List.set_cons_zero, List.set_cons_succ, i64_w, i32_w]; rfl)
      refine pS (v := ?_) (a' := ?_) 41 (some 119) (lb 55 3848290697215) rfl rfl (by kernel_rfl) (fun _ _ _ h => h) (by rfl) ?_ ?_ ?_; rotate_left; (intro w'; go_simp; with_reducible rfl); rotate_left; (simp only [Act.put, List.setIfInBounds_toArray, List.set_cons_zero, List.set_cons_succ, i64_w, i32_w]; rfl)
      refine pS (v := ?_) (a' := ?_) 42 (some 120) (lb 55 8246337208319) rfl rfl (by kernel_rfl) (fun _ _ _ h => h) (by rfl) ?_ ?_ ?_; rotate_left; (intro w'; go_simp; with_reducible rfl); rotate_left; (simp only [Act.put, List.setIfInBounds_toArray, List.set_cons_zero, List.set_cons_succ, i64_w, i32_w]; rfl)
      refine tS (v := ?_) (a' := ?_) 43 (some 121) (lb 55 17042430230527) rfl rfl (by kernel_rfl) (fun _ _ _ h => h) hHeld (by rfl) ?_ ?_ ?_; rotate_left; (rintro w' s0; go_simp; with_reducible rfl); rotate_left; (simp only [Act.put, List.setIfInBounds_toArray, List.set_cons_zero, List.set_cons_succ, i64_w, i32_w]; rfl)
      refine pS (v := ?_) (a' := ?_) 44 (some 122) (lb 55 34634616274943) rfl rfl (by kernel_rfl) (fun _ _ _ h => h) (by rfl) ?_ ?_ ?_; rotate_left; (intro w'; go_simp; with_reducible rfl); rotate_left; (simp only [Act.put, List.setIfInBounds_toArray, List.set_cons_zero, List.set_cons_succ, i64_w, i32_w]; rfl)
      refine one_ (i := 39) (N := some 117) (lb 55 35184372088831) rfl rfl (by kernel_rfl) (by decide) (fun K hK => ?_)
      refine goes_ Try.func29 (by kernel_rfl) rfl #[.pointer (some ⟨gs, 0, none⟩)] (by rfl) rfl rfl (by simp only [List.map_toArray, List.map_cons, List.map_nil]; rfl) ?_
      with_reducible refine (soulCount_T gs g3 v now row w _ F11.out.S).mono ?_
      rintro e w12 ⟨rfl, hb⟩
      refine ⟨_, rfl, ?_⟩
      have F12 := Aside0.mk (F11.out.below hb)
      have FB12 := Aside0.mk (below_step FB11.out hb)
      have U12 := Aside0.mk (blk_below U11.out hb)
      clear hb
      refine hK.out _ _ ((blk_cell U12.out 0).trans rfl) (fun hHeld => ?_)
      clear hK K
      refine norm_ (a' := ?_) ?_ ?_
      rotate_left
      · show Act.put _ (some 117) _ = _
        simp only [Act.put, List.setIfInBounds_toArray, List.set_cons_zero, List.set_cons_succ, i64_w, i32_w]
        rfl
      refine pS (v := ?_) (a' := ?_) 45 (some 123) (lb 55 70368744177663) rfl rfl (by kernel_rfl) (fun _ _ _ h => h) (by rfl) ?_ ?_ ?_; rotate_left; (intro w'; go_simp; with_reducible rfl); rotate_left; (simp only [Act.put, List.setIfInBounds_toArray, List.set_cons_zero, List.set_cons_succ, i64_w, i32_w]; rfl)
      refine pS (v := ?_) (a' := ?_) 46 (some 124) (lb 55 140737488355327) rfl rfl (by kernel_rfl) (fun _ _ _ h => h) (by rfl) ?_ ?_ ?_; rotate_left; (intro w'; go_simp; with_reducible rfl); rotate_left; (simp only [Act.put, List.setIfInBounds_toArray, List.set_cons_zero, List.set_cons_succ, i64_w, i32_w]; rfl)
      refine pS (v := ?_) (a' := ?_) 47 (some 125) (lb 55 281474976710655) rfl rfl (by kernel_rfl) (fun _ _ _ h => h) (by rfl) ?_ ?_ ?_; rotate_left; (intro w'; go_simp; with_reducible rfl); rotate_left; (simp only [Act.put, List.setIfInBounds_toArray, List.set_cons_zero, List.set_cons_succ, i64_w, i32_w]; rfl)
      refine pS (v := ?_) (a' := ?_) 48 (some 126) (lb 55 562949953421311) rfl rfl (by kernel_rfl) (fun _ _ _ h => h) (by rfl) ?_ ?_ ?_; rotate_left; (intro w'; go_simp; with_reducible rfl); rotate_left; (simp only [Act.put, List.setIfInBounds_toArray, List.set_cons_zero, List.set_cons_succ, i64_w, i32_w]; rfl)
      refine pS (v := ?_) (a' := ?_) 50 (some 128) (lb 55 1688849860263935) rfl rfl (by kernel_rfl) (fun _ _ _ h => h) (by rfl) ?_ ?_ ?_; rotate_left; (intro w'; go_simp; with_reducible rfl); rotate_left; (simp only [Act.put, List.setIfInBounds_toArray, List.set_cons_zero, List.set_cons_succ, i64_w, i32_w]; rfl)
      refine one_ (i := 49) (N := some 127) (lb 55 2251799813685247) rfl rfl (by kernel_rfl) (by decide) (fun K hK => ?_)
      refine goes_ Try.func77 (by kernel_rfl) rfl #[.pointer (some ⟨gs, 0, none⟩)] (by rfl) rfl rfl (by simp only [List.map_toArray, List.map_cons, List.map_nil]; rfl) ?_
      with_reducible refine (s6slots_T F12.out JL.out HL.out).mono ?_
      rintro e w13 ⟨u13, rfl, hr, hb⟩
      refine ⟨_, rfl, ?_⟩
      have F13 := Aside0.mk (F12.out.below hb)
      have FB13 := Aside0.mk (below_step FB12.out hb)
      have U13 := Aside0.mk (blk_below U12.out hb)
      have V13 := Aside0.mk hr
      clear hr hb
      refine hK.out _ _ ((blk_cell U13.out 0).trans rfl) (fun hHeld => ?_)
      clear hK K
      refine norm_ (a' := ?_) ?_ ?_
      rotate_left
      · show Act.put _ (some 127) _ = _
        simp only [Act.put, List.setIfInBounds_toArray, List.set_cons_zero, List.set_cons_succ, i64_w, i32_w]
        rfl
      refine one_ (i := 51) (N := some 129) (lb 55 4503599627370495) rfl rfl (by kernel_rfl) (by decide) (fun K hK => ?_)
      refine goes_ Try.func78 (by kernel_rfl) rfl #[.pointer (some ⟨gu, 0, none⟩)] (by rfl) rfl rfl (by simp only [List.map_toArray, List.map_cons, List.map_nil]; rfl) ?_
      with_reducible refine (r6slots_T F13.out HL.out).mono ?_
      rintro e w14 ⟨u14, rfl, hr, hb⟩
      refine ⟨_, rfl, ?_⟩
      have F14 := Aside0.mk (F13.out.below hb)
      have FB14 := Aside0.mk (below_step FB13.out hb)
      have U14 := Aside0.mk (blk_below U13.out hb)
      have V14 := Aside0.mk hr
      have V13b := Aside0.mk (Kd.R_below V13.out hb)
      clear hr hb
      refine hK.out _ _ ((blk_cell U14.out 0).trans rfl) (fun hHeld => ?_)
      clear hK K
      refine norm_ (a' := ?_) ?_ ?_
      rotate_left
      · show Act.put _ (some 129) _ = _
        simp only [Act.put, List.setIfInBounds_toArray, List.set_cons_zero, List.set_cons_succ, i64_w, i32_w]
        rfl
      refine one_ (i := 52) (N := some 130) (lb 55 9007199254740991) rfl rfl (by kernel_rfl) (by decide) (fun K hK => ?_)
      refine goes_ Try.func74 (by kernel_rfl) rfl #[u13, u14] (by rfl) rfl rfl (by simp only [List.map_toArray, List.map_cons, List.map_nil]; rfl) ?_
      with_reducible refine (ints_T u13 u14 _ _ _ w14 V13b.out V14.out LF.out).mono ?_
      rintro e w15 ⟨rfl, hb⟩
      refine ⟨_, rfl, ?_⟩
      have F15 := Aside0.mk (F14.out.below hb)
      have FB15 := Aside0.mk (below_step FB14.out hb)
      have U15 := Aside0.mk (blk_below U14.out hb)
      clear hb
      refine hK.out _ _ ((blk_cell U15.out 0).trans rfl) (fun hHeld => ?_)
      clear hK K
      refine norm_ (a' := ?_) ?_ ?_
      rotate_left
      · show Act.put _ (some 130) _ = _
        simp only [Act.put, List.setIfInBounds_toArray, List.set_cons_zero, List.set_cons_succ, i64_w, i32_w]
        rfl
      refine pS (v := ?_) (a' := ?_) 53 (some 131) (lb 55 18014398509481983) rfl rfl (by kernel_rfl) (fun _ _ _ h => h) (by rfl) ?_ ?_ ?_; rotate_left; (intro w'; go_simp; with_reducible rfl); rotate_left; (simp only [Act.put, List.setIfInBounds_toArray, List.set_cons_zero, List.set_cons_succ, i64_w, i32_w]; rfl)
      refine pS (v := ?_) (a' := ?_) 54 (some 132) (lb 55 36028797018963967) rfl rfl (by kernel_rfl) (fun _ _ _ h => h) (by rfl) ?_ ?_ ?_; rotate_left; (intro w'; go_simp; with_reducible rfl); rotate_left; (simp only [Act.put, List.setIfInBounds_toArray, List.set_cons_zero, List.set_cons_succ, i64_w, i32_w]; rfl)
      refine done_ (by kernel_rfl) ?_
      go_wp2_with fail
      refine (soulBornNil_T slot _).mono ?_
      rintro e w16 ⟨rfl, hb⟩
      have FB16 := Aside0.mk (below_step FB15.out hb)
      clear hb
      go_wp2_with fail
      refine (soulNowNil_T slot _).mono ?_
      rintro e w17 ⟨rfl, hb⟩
      have FB17 := Aside0.mk (below_step FB16.out hb)
      clear hb
      go_wp2_with fail
      refine (slotOfNil_T 0 _).mono ?_
      rintro e w18 ⟨rfl, hb⟩
      have FB18 := Aside0.mk (below_step FB17.out hb)
      clear hb
      go_wp2_with fail
      refine (soulCountNil_T _).mono ?_
      rintro e w19 ⟨rfl, hb⟩
      have FB19 := Aside0.mk (below_step FB18.out hb)
      clear hb
      go_wp2_with fail
      refine (soulAllNil_T slot _).mono ?_
      rintro e w20 ⟨rfl, hb⟩
      have FB20 := Aside0.mk (below_step FB19.out hb)
      clear hb
      go_wp2_with fail
      refine (soulSlotsNil_T _).mono ?_
      rintro e w21 ⟨rfl, hb⟩
      have FB21 := Aside0.mk (below_step FB20.out hb)
      clear hb
      go_wp2_with fail
      refine (soulIsNil_T slot 0 _).mono ?_
      rintro e w22 ⟨rfl, hb⟩
      have FB22 := Aside0.mk (below_step FB21.out hb)
      clear hb
      go_wp2_with fail
      go_ret
      exact ⟨rfl, FB22.out⟩
set_option maxHeartbeats 16000000 in
set_option maxRecDepth 100000 in
theorem exact06Tbp (A0_ : Option Addr) (c0 : Nat) (xs : List Int) (slot id : Int) (w : World) (hr0 : Kd.C (Kd.int .i64) w A0_ xs.length xs) (hc0 : xs.length ≤ c0) (hG : ∀ x ∈ xs, (Lit.int .i64 x).wf = true) (hB : 100 < xs.length) (hI : 0 < id) :
    Calls Try.prog 13 #[.slice A0_ xs.length c0, .int .i64 slot, .int .i64 id] w fun e w' => e = .returned (.bool true) ∧ Below w.heap.size w w' := by
  have HBIG := Aside0.mk hB
  have HID := Aside0.mk hI
  clear hB hI
  have hu58 := Try.underlying58
  have hu95 := Try.underlying95
  have HR := Aside0.mk hr0
  have HC := Aside0.mk hc0
  have HG := Aside0.mk hG
  clear hr0 hc0 hG
  go_enter Try.func13, Try.ntmps13
  go_wp2_with fail
  refine (awake06_T w).mono ?_
  rintro e w1 ⟨rfl, hb⟩
  have B1 := Aside0.mk hb
  clear hb
  go_wp2_with fail
  refine (soulNew_T w1).mono ?_
  rintro e w2 ⟨gs, g3, rfl, h1, h2⟩
  have S2 := Aside0.mk (h1.rebase (w0 := w) B1.out.size)
  have B2 := Aside0.mk (below_step B1.out h2)
  clear h1 h2 B1
  have R3 := Aside0.mk (show Ref6 w (w2.alloc (.cells #[.slice none 0 0] 58)) gs g3 w2.heap.size (.slice none 0 0) (.slice none 0 0) [] [] from ⟨S2.out.alloc _, blk_new w2 _, Kd.R_nil _ _ _ _ _, fun k hk => by simp [Value.ownBlock] at hk, B2.out.size⟩)
  have B3 := Aside0.mk (below_alloc B2.out (.cells #[.slice none 0 0] 58))
  clear S2 B2
  go_wp2_with fail
  generalize w2.alloc (.cells #[.slice none 0 0] 58) = w3 at *
  generalize w2.heap.size = gu at *
  go_loopg [9] xs.length (fun kq v9 w' => ∃ (i : Int) (v vR : Value) (now : List (Int × Int)) (row : List Int), v9 = .int .i64 i ∧ Aside0 (0 ≤ i ∧ i ≤ 100 ∧ i + kq = xs.length) ∧ Aside0 (Ref6 w w' gs g3 gu v vR now row) ∧ Aside0 (Rel6 now row) ∧ Aside0 (Below w.heap.size w w') ∧ Aside0 ((row.length : Int) ≤ i))
  case atStart => exact ⟨0, _, _, [], [], rfl, ⟨by omega⟩, R3, ⟨rel6_0⟩, B3, ⟨Int.le_refl _⟩⟩
  case round =>
    clear R3 B3
    obtain ⟨i, v, vR, now, row, rfl, HK, JR, JL, JB, JN⟩ := hrel
    by_cases hi : i < (xs.length : Int) ∧ i < 100
    · have t1 : decide (i < (xs.length : Int)) = true := decide_eq_true hi.1
      have t2 : decide (i < 100) = true := decide_eq_true hi.2
      have p0 : (0 : Int) ≤ i := HK.out.1
      have q0 : i < (xs.length : Int) := hi.1
      have q1 := Aside0.mk hi.2
      clear hi
      obtain ⟨ko, rfl⟩ : ∃ m, gk = m + 1 := ⟨gk - 1, by have := HK.out; omega⟩
      obtain ⟨ad, e0, hx⟩ := Kd.at_int HR.out i p0 q0
      cases e0
      have hgx : (Lit.int .i64 (rd xs i)).wf = true := HG.out _ (by
        show xs.getD i.toNat 0 ∈ xs
        rw [List.getD_eq_getElem?_getD, List.getElem?_eq_getElem (by omega)]; exact List.getElem_mem _)
      generalize rd xs i = y at *
      have HX := Aside0.mk hx
      have HWF := Aside0.mk hgx
      clear hgx
      have hx1 := (JB.out.cell (World.block_lt_of_cell? w _ hx)).trans hx
      have dx : wr.drew.cell? (ad.add i.toNat) = some (.int .i64 y) := hx1
      clear hx
      have p0b : decide (0 ≤ i) = true := decide_eq_true p0
      have wi : wrap64 (i + 1) = i + 1 := by have := q1.out; unfold wrap64; omega
      replace p0 := eq_true p0
      replace q0 := eq_true q0
      have RI := Aside0.mk (show 0 ≤ i + 1 ∧ i + 1 ≤ 100 by have := HK.out; have := q1.out; omega)
      have HL := Aside0.mk (show row.length ≤ 100000 by have := JN.out; have := q1.out; omega)
      have HL2 := Aside0.mk (show (bornRow row y).length ≤ row.length + 1 by unfold bornRow; split; omega; rw [List.length_append, List.length_singleton]; omega)
      have HL3 := Aside0.mk (show (bornRow row y).length ≤ 100000 by have := JN.out; have := q1.out; have := HL2.out; omega)
      have D := Aside0.mk JR.out.drew
      have DB := Aside0.mk (below_drew JB.out)
      have DL := Aside0.mk (JL.out.born y HWF.out)
      have te : (bornId row y != bornId row y) = false := by simp
      have te2 : (nowR (bornRow row y) y != nowR (bornRow row y) y) = false := by simp
      go_wp2_with fail
      refine start_ (n := 28) (S := fun w' => w'.cell? (ad.add i.toNat) = some (.int .i64 y)) (ds := []) (lb 28 0) (by kernel_rfl) rfl rfl (dx) (fun hHeld => ?_)
      refine pS (v := ?_) (a' := ?_) 0 (some 28) (lb 28 1) rfl rfl (by kernel_rfl) (fun _ _ _ h => h) (by rfl) ?_ ?_ ?_; rotate_left; (intro w'; go_simp; with_reducible rfl); rotate_left; (simp only [Act.put, List.setIfInBounds_toArray, List.set_cons_zero, List.set_cons_succ, i64_w, i32_w]; rfl)
      refine pS (v := ?_) (a' := ?_) 1 (some 29) (lb 28 3) rfl rfl (by kernel_rfl) (fun _ _ _ h => h) (by rfl) ?_ ?_ ?_; rotate_left; (intro w'; go_simp; with_reducible rfl); rotate_left; (simp only [Act.put, List.setIfInBounds_toArray, List.set_cons_zero, List.set_cons_succ, i64_w, i32_w]; rfl)
      refine pS (v := ?_) (a' := ?_) 2 (some 30) (lb 28 7) rfl rfl (by kernel_rfl) (fun _ _ _ h => h) (by rfl) ?_ ?_ ?_; rotate_left; (intro w'; go_simp; with_reducible rfl); rotate_left; (simp only [Act.put, List.setIfInBounds_toArray, List.set_cons_zero, List.set_cons_succ, i64_w, i32_w]; rfl)
      refine pS (v := ?_) (a' := ?_) 3 (some 31) (lb 28 15) rfl rfl (by kernel_rfl) (fun _ _ _ h => h) (by rfl) ?_ ?_ ?_; rotate_left; (intro w'; go_simp; with_reducible rfl); rotate_left; (simp only [Act.put, List.setIfInBounds_toArray, List.set_cons_zero, List.set_cons_succ, i64_w, i32_w]; rfl)
      refine pS (v := ?_) (a' := ?_) 6 (some 34) (lb 28 79) rfl rfl (by kernel_rfl) (fun _ _ _ h => h) (by rfl) ?_ ?_ ?_; rotate_left; (intro w'; go_simp; with_reducible rfl); rotate_left; (simp only [Act.put, List.setIfInBounds_toArray, List.set_cons_zero, List.set_cons_succ, i64_w, i32_w]; rfl)
      refine pS (v := ?_) (a' := ?_) 7 (some 35) (lb 28 207) rfl rfl (by kernel_rfl) (fun _ _ _ h => h) (by rfl) ?_ ?_ ?_; rotate_left; (intro w'; go_simp; with_reducible rfl); rotate_left; (simp only [Act.put, List.setIfInBounds_toArray, List.set_cons_zero, List.set_cons_succ, i64_w, i32_w]; rfl)
      refine pS (v := ?_) (a' := ?_) 8 (some 36) (lb 28 463) rfl rfl (by kernel_rfl) (fun _ _ _ h => h) (by rfl) ?_ ?_ ?_; rotate_left; (intro w'; go_simp; with_reducible rfl); rotate_left; (simp only [Act.put, List.setIfInBounds_toArray, List.set_cons_zero, List.set_cons_succ, i64_w, i32_w]; rfl)
      refine pS (v := ?_) (a' := ?_) 9 (some 37) (lb 28 975) rfl rfl (by kernel_rfl) (fun _ _ _ h => h) (by rfl) ?_ ?_ ?_; rotate_left; (intro w'; go_simp; with_reducible rfl); rotate_left; (simp only [Act.put, List.setIfInBounds_toArray, List.set_cons_zero, List.set_cons_succ, i64_w, i32_w]; rfl)
      refine tS (v := ?_) (a' := ?_) 4 (some 32) (lb 28 991) rfl rfl (by kernel_rfl) (fun _ _ _ h => h) hHeld (by rfl) ?_ ?_ ?_; rotate_left; (rintro w' s0; go_simp; with_reducible rfl); rotate_left; (simp only [Act.put, List.setIfInBounds_toArray, List.set_cons_zero, List.set_cons_succ, i64_w, i32_w]; rfl)
      refine tS (v := ?_) (a' := ?_) 10 (some 38) (lb 28 2015) rfl rfl (by kernel_rfl) (fun _ _ _ h => h) hHeld (by rfl) ?_ ?_ ?_; rotate_left; (rintro w' s0; go_simp; with_reducible rfl); rotate_left; (simp only [Act.put, List.setIfInBounds_toArray, List.set_cons_zero, List.set_cons_succ, i64_w, i32_w]; rfl)
      refine one_ (i := 5) (N := some 33) (lb 28 2047) rfl rfl (by kernel_rfl) (by decide) (fun K hK => ?_)
      refine goes_ Try.func69 (by kernel_rfl) rfl #[.pointer (some ⟨gs, 0, none⟩), .int .i64 y] (by rfl) rfl rfl (by simp only [List.map_toArray, List.map_cons, List.map_nil]; rfl) ?_
      with_reducible refine (soulBorn_U gs g3 v now row y w _ D.out.S DB.out HL.out).mono ?_
      rintro e w5 ⟨rfl, ⟨v5, h1_, h2_⟩, h3_, h4_⟩
      refine ⟨_, rfl, ?_⟩
      have E5 := Aside0.mk (D.out.sB h1_ h2_ h4_)
      have EB := Aside0.mk h3_
      clear h1_ h2_ h3_ h4_
      refine hK.out _ _ ((EB.out.cell (World.block_lt_of_cell? w _ HX.out)).trans HX.out) (fun hHeld => ?_)
      clear hK K
      refine norm_ (a' := ?_) ?_ ?_
      rotate_left
      · show Act.put _ (some 33) _ = _
        simp only [Act.put, List.setIfInBounds_toArray, List.set_cons_zero, List.set_cons_succ, i64_w, i32_w]
        rfl
      refine one_ (i := 11) (N := some 39) (lb 28 4095) rfl rfl (by kernel_rfl) (by decide) (fun K hK => ?_)
      refine goes_ Try.func70 (by kernel_rfl) rfl #[.pointer (some ⟨gu, 0, none⟩), .int .i64 y] (by rfl) rfl rfl (by simp only [List.map_toArray, List.map_cons, List.map_nil]; rfl) ?_
      with_reducible refine (rborn_T w.heap.size gu 0 #[vR] 58 vR row y w _ E5.out.blk rfl (by decide) E5.out.R E5.out.b EB.out EB.out.size HL.out).mono ?_
      rintro e w6 ⟨rfl, hp_⟩
      refine ⟨_, rfl, ?_⟩
      obtain ⟨v6, h6_⟩ := E5.out.rB (r := .int .i64 (bornId row y)) (e := .returned (.int .i64 (bornId row y))) ⟨rfl, hp_⟩
      have F := Aside0.mk h6_
      have FB := Aside0.mk (show Below w.heap.size w w6 from by obtain ⟨_, _, _, h, _⟩ := hp_; exact h)
      clear hp_ h6_
      refine hK.out _ _ ((FB.out.cell (World.block_lt_of_cell? w _ HX.out)).trans HX.out) (fun hHeld => ?_)
      clear hK K
      refine norm_ (a' := ?_) ?_ ?_
      rotate_left
      · show Act.put _ (some 39) _ = _
        simp only [Act.put, List.setIfInBounds_toArray, List.set_cons_zero, List.set_cons_succ, i64_w, i32_w]
        rfl
      refine pS (v := ?_) (a' := ?_) 12 (some 40) (lb 28 8191) rfl rfl (by kernel_rfl) (fun _ _ _ h => h) (by rfl) ?_ ?_ ?_; rotate_left; (intro w'; go_simp; with_reducible rfl); rotate_left; (simp only [Act.put, List.setIfInBounds_toArray, List.set_cons_zero, List.set_cons_succ, i64_w, i32_w]; rfl)
      refine pS (v := ?_) (a' := ?_) 13 (some 41) (lb 28 16383) rfl rfl (by kernel_rfl) (fun _ _ _ h => h) (by rfl) ?_ ?_ ?_; rotate_left; (intro w'; go_simp; with_reducible rfl); rotate_left; (simp only [Act.put, List.setIfInBounds_toArray, List.set_cons_zero, List.set_cons_succ, i64_w, i32_w]; rfl)
      refine pS (v := ?_) (a' := ?_) 14 (some 42) (lb 28 32767) rfl rfl (by kernel_rfl) (fun _ _ _ h => h) (by rfl) ?_ ?_ ?_; rotate_left; (intro w'; go_simp; with_reducible rfl); rotate_left; (simp only [Act.put, List.setIfInBounds_toArray, List.set_cons_zero, List.set_cons_succ, i64_w, i32_w]; rfl)
      refine pS (v := ?_) (a' := ?_) 15 (some 43) (lb 28 65535) rfl rfl (by kernel_rfl) (fun _ _ _ h => h) (by rfl) ?_ ?_ ?_; rotate_left; (intro w'; go_simp; with_reducible rfl); rotate_left; (simp only [Act.put, List.setIfInBounds_toArray, List.set_cons_zero, List.set_cons_succ, i64_w, i32_w]; rfl)
      refine pS (v := ?_) (a' := ?_) 16 (some 44) (lb 28 131071) rfl rfl (by kernel_rfl) (fun _ _ _ h => h) (by rfl) ?_ ?_ ?_; rotate_left; (intro w'; go_simp; with_reducible rfl); rotate_left; (simp only [Act.put, List.setIfInBounds_toArray, List.set_cons_zero, List.set_cons_succ, i64_w, i32_w]; rfl)
      refine pS (v := ?_) (a' := ?_) 17 (some 45) (lb 28 262143) rfl rfl (by kernel_rfl) (fun _ _ _ h => h) (by rfl) ?_ ?_ ?_; rotate_left; (intro w'; go_simp; with_reducible rfl); rotate_left; (simp only [Act.put, List.setIfInBounds_toArray, List.set_cons_zero, List.set_cons_succ, i64_w, i32_w]; rfl)
      refine pS (v := ?_) (a' := ?_) 20 (some 48) (lb 28 1310719) rfl rfl (by kernel_rfl) (fun _ _ _ h => h) (by rfl) ?_ ?_ ?_; rotate_left; (intro w'; go_simp; with_reducible rfl); rotate_left; (simp only [Act.put, List.setIfInBounds_toArray, List.set_cons_zero, List.set_cons_succ, i64_w, i32_w]; rfl)
      refine pS (v := ?_) (a' := ?_) 21 (some 49) (lb 28 3407871) rfl rfl (by kernel_rfl) (fun _ _ _ h => h) (by rfl) ?_ ?_ ?_; rotate_left; (intro w'; go_simp; with_reducible rfl); rotate_left; (simp only [Act.put, List.setIfInBounds_toArray, List.set_cons_zero, List.set_cons_succ, i64_w, i32_w]; rfl)
      refine pS (v := ?_) (a' := ?_) 22 (some 50) (lb 28 7602175) rfl rfl (by kernel_rfl) (fun _ _ _ h => h) (by rfl) ?_ ?_ ?_; rotate_left; (intro w'; go_simp; with_reducible rfl); rotate_left; (simp only [Act.put, List.setIfInBounds_toArray, List.set_cons_zero, List.set_cons_succ, i64_w, i32_w]; rfl)
      refine pS (v := ?_) (a' := ?_) 23 (some 51) (lb 28 15990783) rfl rfl (by kernel_rfl) (fun _ _ _ h => h) (by rfl) ?_ ?_ ?_; rotate_left; (intro w'; go_simp; with_reducible rfl); rotate_left; (simp only [Act.put, List.setIfInBounds_toArray, List.set_cons_zero, List.set_cons_succ, i64_w, i32_w]; rfl)
      refine tS (v := ?_) (a' := ?_) 18 (some 46) (lb 28 16252927) rfl rfl (by kernel_rfl) (fun _ _ _ h => h) hHeld (by rfl) ?_ ?_ ?_; rotate_left; (rintro w' s0; go_simp; with_reducible rfl); rotate_left; (simp only [Act.put, List.setIfInBounds_toArray, List.set_cons_zero, List.set_cons_succ, i64_w, i32_w]; rfl)
      refine tS (v := ?_) (a' := ?_) 24 (some 52) (lb 28 33030143) rfl rfl (by kernel_rfl) (fun _ _ _ h => h) hHeld (by rfl) ?_ ?_ ?_; rotate_left; (rintro w' s0; go_simp; with_reducible rfl); rotate_left; (simp only [Act.put, List.setIfInBounds_toArray, List.set_cons_zero, List.set_cons_succ, i64_w, i32_w]; rfl)
      refine one_ (i := 19) (N := some 47) (lb 28 33554431) rfl rfl (by kernel_rfl) (by decide) (fun K hK => ?_)
      refine goes_ Try.func41 (by kernel_rfl) rfl #[.pointer (some ⟨gs, 0, none⟩), .int .i64 y] (by rfl) rfl rfl (by simp only [List.map_toArray, List.map_cons, List.map_nil]; rfl) ?_
      with_reducible refine (soulNow_T gs g3 _ _ _ y w _ F.out.S).mono ?_
      rintro e w7 ⟨rfl, hb⟩
      refine ⟨_, rfl, ?_⟩
      rw [DL.out.tell]
      have G := Aside0.mk (F.out.below hb)
      have GB := Aside0.mk (below_step FB.out hb)
      clear hb
      refine hK.out _ _ ((GB.out.cell (World.block_lt_of_cell? w _ HX.out)).trans HX.out) (fun hHeld => ?_)
      clear hK K
      refine norm_ (a' := ?_) ?_ ?_
      rotate_left
      · show Act.put _ (some 47) _ = _
        simp only [Act.put, List.setIfInBounds_toArray, List.set_cons_zero, List.set_cons_succ, i64_w, i32_w]
        rfl
      refine one_ (i := 25) (N := some 53) (lb 28 67108863) rfl rfl (by kernel_rfl) (by decide) (fun K hK => ?_)
      refine goes_ Try.func71 (by kernel_rfl) rfl #[.pointer (some ⟨gu, 0, none⟩), .int .i64 y] (by rfl) rfl rfl (by simp only [List.map_toArray, List.map_cons, List.map_nil]; rfl) ?_
      with_reducible refine (r6now_T G.out y HL3.out).mono ?_
      rintro e w8 ⟨rfl, hb⟩
      refine ⟨_, rfl, ?_⟩
      have H8 := Aside0.mk (G.out.below hb)
      have HB8 := Aside0.mk (below_step GB.out hb)
      clear hb
      refine hK.out _ _ ((HB8.out.cell (World.block_lt_of_cell? w _ HX.out)).trans HX.out) (fun hHeld => ?_)
      clear hK K
      refine norm_ (a' := ?_) ?_ ?_
      rotate_left
      · show Act.put _ (some 53) _ = _
        simp only [Act.put, List.setIfInBounds_toArray, List.set_cons_zero, List.set_cons_succ, i64_w, i32_w]
        rfl
      refine pS (v := ?_) (a' := ?_) 26 (some 54) (lb 28 134217727) rfl rfl (by kernel_rfl) (fun _ _ _ h => h) (by rfl) ?_ ?_ ?_; rotate_left; (intro w'; go_simp; with_reducible rfl); rotate_left; (simp only [Act.put, List.setIfInBounds_toArray, List.set_cons_zero, List.set_cons_succ, i64_w, i32_w]; rfl)
      refine pS (v := ?_) (a' := ?_) 27 (some 55) (lb 28 268435455) rfl rfl (by kernel_rfl) (fun _ _ _ h => h) (by rfl) ?_ ?_ ?_; rotate_left; (intro w'; go_simp; with_reducible rfl); rotate_left; (simp only [Act.put, List.setIfInBounds_toArray, List.set_cons_zero, List.set_cons_succ, i64_w, i32_w]; rfl)
      refine done_ (by kernel_rfl) ?_
      go_wp2_with fail
      go_roundg ko
      case rel => exact ⟨i + 1, v5, v6, bornNow now row y, bornRow row y, by first | rfl | rw [wi], ⟨by have := HK.out; have := RI.out; omega⟩, H8, DL, HB8, ⟨by have := JN.out; have := HL2.out; omega⟩⟩
      case measure => exact Nat.lt_succ_self _
    · have t1 : decide (i < (xs.length : Int)) = true := decide_eq_true (by have := HBIG.out; have := HK.out; omega)
      have t2 : decide (i < 100) = false := decide_eq_false (fun h => hi ⟨by have := HBIG.out; omega, h⟩)
      clear hi
      have HL := Aside0.mk (show row.length ≤ 100000 by have := JN.out; have := HK.out; omega)
      obtain ⟨Ar, cr, er, _, hCr⟩ := Kd.R_reads JR.out.R
      subst er
      have cu : wr.cell? ⟨gu, 0, none⟩ = some (.slice Ar row.length cr) := (blk_cell JR.out.blk 0).trans rfl
      have HCU := Aside0.mk cu
      have HCr := Aside0.mk hCr
      obtain ⟨nw, hnw⟩ : ∃ z, nowR row slot = z := ⟨_, rfl⟩
      have NW := Aside0.mk hnw
      have NG := Aside0.mk (show (get now slot).getD 0 = nw by rw [JL.out.tell, hnw])
      clear hCr hnw
      have tn : (nw != nw) = false := by simp
      have tl : ((row.length : Int) != (row.length : Int)) = false := by simp
      have LA := Aside0.mk (show (allF row slot row.length).length ≤ 100000 from Nat.le_trans (allF_len row slot row.length) HL.out)
      have LF := Aside0.mk (show ((firsts row row.length).mergeSort leZ).length ≤ 100000 by rw [List.length_mergeSort]; exact Nat.le_trans (firsts_len row row.length) HL.out)
      have h1 : id > 0 := HID.out
      have t3 : decide (id > 0) = true := decide_eq_true h1
      have IDN := Aside0.mk (show (id != 0) = true from bne_iff_ne.2 (by omega))
      have ti0 : (id != 0) = true := IDN.out
      by_cases h2 : id ≤ (row.length : Int)
      · have t4 : decide (id ≤ (row.length : Int)) = true := decide_eq_true h2
        obtain ⟨L, hL⟩ : ∃ L : Int, L = id - 1 := ⟨_, rfl⟩
        obtain ⟨ar, e0, hx⟩ := Kd.at_int HCr.out L (by omega) (by omega)
        subst e0
        obtain ⟨a, ha⟩ : ∃ z, rd row L = z := ⟨_, rfl⟩
        rw [ha] at hx
        have AT := Aside0.mk (show slotR row id = a by unfold slotR; rw [if_neg (by omega), ← hL]; exact ha)
        have a0 : (0 ≤ L) = True := eq_true (by omega)
        have a1 : (L < (row.length : Int)) = True := eq_true (by omega)
        have a2 : decide (0 ≤ L) = true := decide_eq_true (by omega)
        have wL : wrap64 (id - 1) = L := by have := HL.out; rw [hL]; unfold wrap64; omega
        clear h1 h2 hL ha
        go_wp2_with fail
        clear cu
        refine (r6now_T JR.out slot HL.out).mono ?_
        rintro e w5 ⟨rfl, hb⟩
        rw [NW.out]
        have F5 := Aside0.mk (JR.out.below hb).drew
        have FB5 := Aside0.mk (below_drew (below_step JB.out hb))
        have U5 := Aside0.mk (blk_drew (blk_below JR.out.blk hb))
        clear hb
        have cu5 : w5.drew.cell? ⟨gu, 0, none⟩ = some (.slice (some ar) row.length cr) := (blk_cell U5.out 0).trans rfl
        have EI := Aside0.mk (show isR now slot id = (nw == id) by unfold isR; rw [NG.out, IDN.out]; rfl)
        have ti : ((nw == id) != (nw == id)) = false := by simp
        have ta : ((a : Int) != a) = false := by simp
        go_wp2_with fail
        refine start_ (n := 55) (S := fun w' => w'.cell? ⟨gu, 0, none⟩ = some (.slice (some ar) row.length cr)) (ds := []) (lb 55 0) (by kernel_rfl) rfl rfl (cu5) (fun hHeld => ?_)
        refine pS (v := ?_) (a' := ?_) 0 (some 78) (lb 55 1) rfl rfl (by kernel_rfl) (fun _ _ _ h => h) (by rfl) ?_ ?_ ?_; rotate_left; (intro w'; go_simp; with_reducible rfl); rotate_left; (simp only [Act.put, List.setIfInBounds_toArray, List.set_cons_zero, List.set_cons_succ, i64_w, i32_w]; rfl)
        refine pS (v := ?_) (a' := ?_) 1 (some 79) (lb 55 3) rfl rfl (by kernel_rfl) (fun _ _ _ h => h) (by rfl) ?_ ?_ ?_; rotate_left; (intro w'; go_simp; with_reducible rfl); rotate_left; (simp only [Act.put, List.setIfInBounds_toArray, List.set_cons_zero, List.set_cons_succ, i64_w, i32_w]; rfl)
        refine pS (v := ?_) (a' := ?_) 3 (some 81) (lb 55 11) rfl rfl (by kernel_rfl) (fun _ _ _ h => h) (by rfl) ?_ ?_ ?_; rotate_left; (intro w'; go_simp; with_reducible rfl); rotate_left; (simp only [Act.put, List.setIfInBounds_toArray, List.set_cons_zero, List.set_cons_succ, i64_w, i32_w]; rfl)
        refine one_ (i := 2) (N := some 80) (lb 55 15) rfl rfl (by kernel_rfl) (by decide) (fun K hK => ?_)
        refine goes_ Try.func41 (by kernel_rfl) rfl #[.pointer (some ⟨gs, 0, none⟩), .int .i64 slot] (by rfl) rfl rfl (by simp only [List.map_toArray, List.map_cons, List.map_nil]; rfl) ?_
        with_reducible refine (soulNow_T gs g3 v now row slot w _ F5.out.S).mono ?_
        rintro e w6 ⟨rfl, hb⟩
        refine ⟨_, rfl, ?_⟩
        rw [NG.out]
        have F6 := Aside0.mk (F5.out.below hb)
        have FB6 := Aside0.mk (below_step FB5.out hb)
        have U6 := Aside0.mk (blk_below U5.out hb)
        clear hb
        refine hK.out _ _ ((blk_cell U6.out 0).trans rfl) (fun hHeld => ?_)
        clear hK K
        refine norm_ (a' := ?_) ?_ ?_
        rotate_left
        · show Act.put _ (some 80) _ = _
          simp only [Act.put, List.setIfInBounds_toArray, List.set_cons_zero, List.set_cons_succ, i64_w, i32_w]
          rfl
        refine pS (v := ?_) (a' := ?_) 4 (some 82) (lb 55 31) rfl rfl (by kernel_rfl) (fun _ _ _ h => h) (by rfl) ?_ ?_ ?_; rotate_left; (intro w'; go_simp; with_reducible rfl); rotate_left; (simp only [Act.put, List.setIfInBounds_toArray, List.set_cons_zero, List.set_cons_succ, i64_w, i32_w]; rfl)
        refine pS (v := ?_) (a' := ?_) 5 (some 83) (lb 55 63) rfl rfl (by kernel_rfl) (fun _ _ _ h => h) (by rfl) ?_ ?_ ?_; rotate_left; (intro w'; go_simp; with_reducible rfl); rotate_left; (simp only [Act.put, List.setIfInBounds_toArray, List.set_cons_zero, List.set_cons_succ, i64_w, i32_w]; rfl)
        refine pS (v := ?_) (a' := ?_) 6 (some 84) (lb 55 127) rfl rfl (by kernel_rfl) (fun _ _ _ h => h) (by rfl) ?_ ?_ ?_; rotate_left; (intro w'; go_simp; with_reducible rfl); rotate_left; (simp only [Act.put, List.setIfInBounds_toArray, List.set_cons_zero, List.set_cons_succ, i64_w, i32_w]; rfl)
        refine pS (v := ?_) (a' := ?_) 7 (some 85) (lb 55 255) rfl rfl (by kernel_rfl) (fun _ _ _ h => h) (by rfl) ?_ ?_ ?_; rotate_left; (intro w'; go_simp; with_reducible rfl); rotate_left; (simp only [Act.put, List.setIfInBounds_toArray, List.set_cons_zero, List.set_cons_succ, i64_w, i32_w]; rfl)
        refine pS (v := ?_) (a' := ?_) 8 (some 86) (lb 55 511) rfl rfl (by kernel_rfl) (fun _ _ _ h => h) (by rfl) ?_ ?_ ?_; rotate_left; (intro w'; go_simp; with_reducible rfl); rotate_left; (simp only [Act.put, List.setIfInBounds_toArray, List.set_cons_zero, List.set_cons_succ, i64_w, i32_w]; rfl)
        refine pS (v := ?_) (a' := ?_) 9 (some 87) (lb 55 1023) rfl rfl (by kernel_rfl) (fun _ _ _ h => h) (by rfl) ?_ ?_ ?_; rotate_left; (intro w'; go_simp; with_reducible rfl); rotate_left; (simp only [Act.put, List.setIfInBounds_toArray, List.set_cons_zero, List.set_cons_succ, i64_w, i32_w]; rfl)
        refine pS (v := ?_) (a' := ?_) 11 (some 89) (lb 55 3071) rfl rfl (by kernel_rfl) (fun _ _ _ h => h) (by rfl) ?_ ?_ ?_; rotate_left; (intro w'; go_simp; with_reducible rfl); rotate_left; (simp only [Act.put, List.setIfInBounds_toArray, List.set_cons_zero, List.set_cons_succ, i64_w, i32_w]; rfl)
        refine pS (v := ?_) (a' := ?_) 12 (some 90) (lb 55 7167) rfl rfl (by kernel_rfl) (fun _ _ _ h => h) (by rfl) ?_ ?_ ?_; rotate_left; (intro w'; go_simp; with_reducible rfl); rotate_left; (simp only [Act.put, List.setIfInBounds_toArray, List.set_cons_zero, List.set_cons_succ, i64_w, i32_w]; rfl)
        refine one_ (i := 10) (N := some 88) (lb 55 8191) rfl rfl (by kernel_rfl) (by decide) (fun K hK => ?_)
        refine goes_ Try.func72 (by kernel_rfl) rfl #[.pointer (some ⟨gs, 0, none⟩), Value.agg #[.int .i64 slot, .int .i64 id]] (by rfl) rfl rfl (by simp only [List.map_toArray, List.map_cons, List.map_nil]; rfl) ?_
        with_reducible refine (soulIs_T gs g3 v now row slot id w _ F6.out.S).mono ?_
        rintro e w7 ⟨rfl, hb⟩
        refine ⟨_, rfl, ?_⟩
        rw [EI.out]
        have F7 := Aside0.mk (F6.out.below hb)
        have FB7 := Aside0.mk (below_step FB6.out hb)
        have U7 := Aside0.mk (blk_below U6.out hb)
        clear hb
        refine hK.out _ _ ((blk_cell U7.out 0).trans rfl) (fun hHeld => ?_)
        clear hK K
        refine norm_ (a' := ?_) ?_ ?_
        rotate_left
        · show Act.put _ (some 88) _ = _
          simp only [Act.put, List.setIfInBounds_toArray, List.set_cons_zero, List.set_cons_succ, i64_w, i32_w]
          rfl
        refine pS (v := ?_) (a' := ?_) 13 (some 91) (lb 55 16383) rfl rfl (by kernel_rfl) (fun _ _ _ h => h) (by rfl) ?_ ?_ ?_; rotate_left; (intro w'; go_simp; with_reducible rfl); rotate_left; (simp only [Act.put, List.setIfInBounds_toArray, List.set_cons_zero, List.set_cons_succ, i64_w, i32_w]; rfl)
        refine pS (v := ?_) (a' := ?_) 14 (some 92) (lb 55 32767) rfl rfl (by kernel_rfl) (fun _ _ _ h => h) (by rfl) ?_ ?_ ?_; rotate_left; (intro w'; go_simp; with_reducible rfl); rotate_left; (simp only [Act.put, List.setIfInBounds_toArray, List.set_cons_zero, List.set_cons_succ, i64_w, i32_w]; rfl)
        refine pS (v := ?_) (a' := ?_) 15 (some 93) (lb 55 65535) rfl rfl (by kernel_rfl) (fun _ _ _ h => h) (by rfl) ?_ ?_ ?_; rotate_left; (intro w'; go_simp; with_reducible rfl); rotate_left; (simp only [Act.put, List.setIfInBounds_toArray, List.set_cons_zero, List.set_cons_succ, i64_w, i32_w]; rfl)
        refine pS (v := ?_) (a' := ?_) 16 (some 94) (lb 55 131071) rfl rfl (by kernel_rfl) (fun _ _ _ h => h) (by rfl) ?_ ?_ ?_; rotate_left; (intro w'; go_simp; with_reducible rfl); rotate_left; (simp only [Act.put, List.setIfInBounds_toArray, List.set_cons_zero, List.set_cons_succ, i64_w, i32_w]; rfl)
        refine pS (v := ?_) (a' := ?_) 17 (some 95) (lb 55 262143) rfl rfl (by kernel_rfl) (fun _ _ _ h => h) (by rfl) ?_ ?_ ?_; rotate_left; (intro w'; go_simp; with_reducible rfl); rotate_left; (simp only [Act.put, List.setIfInBounds_toArray, List.set_cons_zero, List.set_cons_succ, i64_w, i32_w]; rfl)
        refine pS (v := ?_) (a' := ?_) 18 (some 96) (lb 55 524287) rfl rfl (by kernel_rfl) (fun _ _ _ h => h) (by rfl) ?_ ?_ ?_; rotate_left; (intro w'; go_simp; with_reducible rfl); rotate_left; (simp only [Act.put, List.setIfInBounds_toArray, List.set_cons_zero, List.set_cons_succ, i64_w, i32_w]; rfl)
        refine pS (v := ?_) (a' := ?_) 19 (some 97) (lb 55 1048575) rfl rfl (by kernel_rfl) (fun _ _ _ h => h) (by rfl) ?_ ?_ ?_; rotate_left; (intro w'; go_simp; with_reducible rfl); rotate_left; (simp only [Act.put, List.setIfInBounds_toArray, List.set_cons_zero, List.set_cons_succ, i64_w, i32_w]; rfl)
        refine pS (v := ?_) (a' := ?_) 20 (some 98) (lb 55 2097151) rfl rfl (by kernel_rfl) (fun _ _ _ h => h) (by rfl) ?_ ?_ ?_; rotate_left; (intro w'; go_simp; with_reducible rfl); rotate_left; (simp only [Act.put, List.setIfInBounds_toArray, List.set_cons_zero, List.set_cons_succ, i64_w, i32_w]; rfl)
        refine pS (v := ?_) (a' := ?_) 21 (some 99) (lb 55 4194303) rfl rfl (by kernel_rfl) (fun _ _ _ h => h) (by rfl) ?_ ?_ ?_; rotate_left; (intro w'; go_simp; with_reducible rfl); rotate_left; (simp only [Act.put, List.setIfInBounds_toArray, List.set_cons_zero, List.set_cons_succ, i64_w, i32_w]; rfl)
        refine pS (v := ?_) (a' := ?_) 22 (some 100) (lb 55 8388607) rfl rfl (by kernel_rfl) (fun _ _ _ h => h) (by rfl) ?_ ?_ ?_; rotate_left; (intro w'; go_simp; with_reducible rfl); rotate_left; (simp only [Act.put, List.setIfInBounds_toArray, List.set_cons_zero, List.set_cons_succ, i64_w, i32_w]; rfl)
        refine pS (v := ?_) (a' := ?_) 24 (some 102) (lb 55 25165823) rfl rfl (by kernel_rfl) (fun _ _ _ h => h) (by rfl) ?_ ?_ ?_; rotate_left; (intro w'; go_simp; with_reducible rfl); rotate_left; (simp only [Act.put, List.setIfInBounds_toArray, List.set_cons_zero, List.set_cons_succ, i64_w, i32_w]; rfl)
        refine one_ (i := 23) (N := some 101) (lb 55 33554431) rfl rfl (by kernel_rfl) (by decide) (fun K hK => ?_)
        refine goes_ Try.func73 (by kernel_rfl) rfl #[.pointer (some ⟨gs, 0, none⟩), .int .i64 id] (by rfl) rfl rfl (by simp only [List.map_toArray, List.map_cons, List.map_nil]; rfl) ?_
        with_reducible refine (slotOf_T gs g3 v now row id w _ F7.out.S HL.out).mono ?_
        rintro e w8 ⟨rfl, hb⟩
        refine ⟨_, rfl, ?_⟩
        rw [AT.out]
        have F8 := Aside0.mk (F7.out.below hb)
        have FB8 := Aside0.mk (below_step FB7.out hb)
        have U8 := Aside0.mk (blk_below U7.out hb)
        clear hb
        refine hK.out _ _ ((blk_cell U8.out 0).trans rfl) (fun hHeld => ?_)
        clear hK K
        refine norm_ (a' := ?_) ?_ ?_
        rotate_left
        · show Act.put _ (some 101) _ = _
          simp only [Act.put, List.setIfInBounds_toArray, List.set_cons_zero, List.set_cons_succ, i64_w, i32_w]
          rfl
        refine pS (v := ?_) (a' := ?_) 25 (some 103) (lb 55 67108863) rfl rfl (by kernel_rfl) (fun _ _ _ h => h) (by rfl) ?_ ?_ ?_; rotate_left; (intro w'; go_simp; with_reducible rfl); rotate_left; (simp only [Act.put, List.setIfInBounds_toArray, List.set_cons_zero, List.set_cons_succ, i64_w, i32_w]; rfl)
        refine pS (v := ?_) (a' := ?_) 26 (some 104) (lb 55 134217727) rfl rfl (by kernel_rfl) (fun _ _ _ h => h) (by rfl) ?_ ?_ ?_; rotate_left; (intro w'; go_simp; with_reducible rfl); rotate_left; (simp only [Act.put, List.setIfInBounds_toArray, List.set_cons_zero, List.set_cons_succ, i64_w, i32_w]; rfl)
        refine pS (v := ?_) (a' := ?_) 27 (some 105) (lb 55 268435455) rfl rfl (by kernel_rfl) (fun _ _ _ h => h) (by rfl) ?_ ?_ ?_; rotate_left; (intro w'; go_simp; with_reducible rfl); rotate_left; (simp only [Act.put, List.setIfInBounds_toArray, List.set_cons_zero, List.set_cons_succ, i64_w, i32_w]; rfl)
        refine pS (v := ?_) (a' := ?_) 28 (some 106) (lb 55 536870911) rfl rfl (by kernel_rfl) (fun _ _ _ h => h) (by rfl) ?_ ?_ ?_; rotate_left; (intro w'; go_simp; with_reducible rfl); rotate_left; (simp only [Act.put, List.setIfInBounds_toArray, List.set_cons_zero, List.set_cons_succ, i64_w, i32_w]; rfl)
        refine pS (v := ?_) (a' := ?_) 29 (some 107) (lb 55 1073741823) rfl rfl (by kernel_rfl) (fun _ _ _ h => h) (by rfl) ?_ ?_ ?_; rotate_left; (intro w'; go_simp; with_reducible rfl); rotate_left; (simp only [Act.put, List.setIfInBounds_toArray, List.set_cons_zero, List.set_cons_succ, i64_w, i32_w]; rfl)
        refine pS (v := ?_) (a' := ?_) 31 (some 109) (lb 55 3221225471) rfl rfl (by kernel_rfl) (fun _ _ _ h => h) (by rfl) ?_ ?_ ?_; rotate_left; (intro w'; go_simp; with_reducible rfl); rotate_left; (simp only [Act.put, List.setIfInBounds_toArray, List.set_cons_zero, List.set_cons_succ, i64_w, i32_w]; rfl)
        refine pS (v := ?_) (a' := ?_) 32 (some 110) (lb 55 7516192767) rfl rfl (by kernel_rfl) (fun _ _ _ h => h) (by rfl) ?_ ?_ ?_; rotate_left; (intro w'; go_simp; with_reducible rfl); rotate_left; (simp only [Act.put, List.setIfInBounds_toArray, List.set_cons_zero, List.set_cons_succ, i64_w, i32_w]; rfl)
        refine one_ (i := 30) (N := some 108) (lb 55 8589934591) rfl rfl (by kernel_rfl) (by decide) (fun K hK => ?_)
        refine goes_ Try.func75 (by kernel_rfl) rfl #[.pointer (some ⟨gs, 0, none⟩), .int .i64 slot] (by rfl) rfl rfl (by simp only [List.map_toArray, List.map_cons, List.map_nil]; rfl) ?_
        with_reducible refine (soulAll_T gs g3 v now row slot w _ F8.out.S HL.out).mono ?_
        rintro e w9 ⟨u9, rfl, hr, hb⟩
        refine ⟨_, rfl, ?_⟩
        have F9 := Aside0.mk (F8.out.below hb)
        have FB9 := Aside0.mk (below_step FB8.out hb)
        have U9 := Aside0.mk (blk_below U8.out hb)
        have V9 := Aside0.mk hr
        clear hr hb
        refine hK.out _ _ ((blk_cell U9.out 0).trans rfl) (fun hHeld => ?_)
        clear hK K
        refine norm_ (a' := ?_) ?_ ?_
        rotate_left
        · show Act.put _ (some 108) _ = _
          simp only [Act.put, List.setIfInBounds_toArray, List.set_cons_zero, List.set_cons_succ, i64_w, i32_w]
          rfl
        refine one_ (i := 33) (N := some 111) (lb 55 17179869183) rfl rfl (by kernel_rfl) (by decide) (fun K hK => ?_)
        refine goes_ Try.func76 (by kernel_rfl) rfl #[.pointer (some ⟨gu, 0, none⟩), .int .i64 slot] (by rfl) rfl rfl (by simp only [List.map_toArray, List.map_cons, List.map_nil]; rfl) ?_
        with_reducible refine (r6all_T F9.out slot HL.out).mono ?_
        rintro e w10 ⟨u10, rfl, hr, hb⟩
        refine ⟨_, rfl, ?_⟩
        have F10 := Aside0.mk (F9.out.below hb)
        have FB10 := Aside0.mk (below_step FB9.out hb)
        have U10 := Aside0.mk (blk_below U9.out hb)
        have V10 := Aside0.mk hr
        have V9b := Aside0.mk (Kd.R_below V9.out hb)
        clear hr hb
        refine hK.out _ _ ((blk_cell U10.out 0).trans rfl) (fun hHeld => ?_)
        clear hK K
        refine norm_ (a' := ?_) ?_ ?_
        rotate_left
        · show Act.put _ (some 111) _ = _
          simp only [Act.put, List.setIfInBounds_toArray, List.set_cons_zero, List.set_cons_succ, i64_w, i32_w]
          rfl
        refine one_ (i := 34) (N := some 112) (lb 55 34359738367) rfl rfl (by kernel_rfl) (by decide) (fun K hK => ?_)
        refine goes_ Try.func74 (by kernel_rfl) rfl #[u9, u10] (by rfl) rfl rfl (by simp only [List.map_toArray, List.map_cons, List.map_nil]; rfl) ?_
        with_reducible refine (ints_T u9 u10 _ _ _ w10 V9b.out V10.out LA.out).mono ?_
        rintro e w11 ⟨rfl, hb⟩
        refine ⟨_, rfl, ?_⟩
        have F11 := Aside0.mk (F10.out.below hb)
        have FB11 := Aside0.mk (below_step FB10.out hb)
        have U11 := Aside0.mk (blk_below U10.out hb)
        clear hb
        refine hK.out _ _ ((blk_cell U11.out 0).trans rfl) (fun hHeld => ?_)
        clear hK K
        refine norm_ (a' := ?_) ?_ ?_
        rotate_left
        · show Act.put _ (some 112) _ = _
          simp only [Act.put, List.setIfInBounds_toArray, List.set_cons_zero, List.set_cons_succ, i64_w, i32_w]
          rfl
        refine pS (v := ?_) (a' := ?_) 35 (some 113) (lb 55 68719476735) rfl rfl (by kernel_rfl) (fun _ _ _ h => h) (by rfl) ?_ ?_ ?_; rotate_left; (intro w'; go_simp; with_reducible rfl); rotate_left; (simp only [Act.put, List.setIfInBounds_toArray, List.set_cons_zero, List.set_cons_succ, i64_w, i32_w]; rfl)
        refine pS (v := ?_) (a' := ?_) 36 (some 114) (lb 55 137438953471) rfl rfl (by kernel_rfl) (fun _ _ _ h => h) (by rfl) ?_ ?_ ?_; rotate_left; (intro w'; go_simp; with_reducible rfl); rotate_left; (simp only [Act.put, List.setIfInBounds_toArray, List.set_cons_zero, List.set_cons_succ, i64_w, i32_w]; rfl)
        refine pS (v := ?_) (a' := ?_) 37 (some 115) (lb 55 274877906943) rfl rfl (by kernel_rfl) (fun _ _ _ h => h) (by rfl) ?_ ?_ ?_; rotate_left; (intro w'; go_simp; with_reducible rfl); rotate_left; (simp only [Act.put, List.setIfInBounds_toArray, List.set_cons_zero, List.set_cons_succ, i64_w, i32_w]; rfl)
        refine pS (v := ?_) (a' := ?_) 38 (some 116) (lb 55 549755813887) rfl rfl (by kernel_rfl) (fun _ _ _ h => h) (by rfl) ?_ ?_ ?_; rotate_left; (intro w'; go_simp; with_reducible rfl); rotate_left; (simp only [Act.put, List.setIfInBounds_toArray, List.set_cons_zero, List.set_cons_succ, i64_w, i32_w]; rfl)
        refine pS (v := ?_) (a' := ?_) 40 (some 118) (lb 55 1649267441663) rfl rfl (by kernel_rfl) (fun _ _ _ h => h) (by rfl) ?_ ?_ ?_; rotate_left; (intro w'; go_simp; with_reducible rfl); rotate_left; (simp only [Act.put, List.setIfInBounds_toArray, List.set_cons_zero, List.set_cons_succ, i64_w, i32_w]; rfl)
        refine pS (v := ?_) (a' := ?_) 41 (some 119) (lb 55 3848290697215) rfl rfl (by kernel_rfl) (fun _ _ _ h => h) (by rfl) ?_ ?_ ?_; rotate_left; (intro w'; go_simp; with_reducible rfl); rotate_left; (simp only [Act.put, List.setIfInBounds_toArray, List.set_cons_zero, List.set_cons_succ, i64_w, i32_w]; rfl)
        refine pS (v := ?_) (a' := ?_) 42 (some 120) (lb 55 8246337208319) rfl rfl (by kernel_rfl) (fun _ _ _ h => h) (by rfl) ?_ ?_ ?_; rotate_left; (intro w'; go_simp; with_reducible rfl); rotate_left; (simp only [Act.put, List.setIfInBounds_toArray, List.set_cons_zero, List.set_cons_succ, i64_w, i32_w]; rfl)
        refine tS (v := ?_) (a' := ?_) 43 (some 121) (lb 55 17042430230527) rfl rfl (by kernel_rfl) (fun _ _ _ h => h) hHeld (by rfl) ?_ ?_ ?_; rotate_left; (rintro w' s0; go_simp; with_reducible rfl); rotate_left; (simp only [Act.put, List.setIfInBounds_toArray, List.set_cons_zero, List.set_cons_succ, i64_w, i32_w]; rfl)
        refine pS (v := ?_) (a' := ?_) 44 (some 122) (lb 55 34634616274943) rfl rfl (by kernel_rfl) (fun _ _ _ h => h) (by rfl) ?_ ?_ ?_; rotate_left; (intro w'; go_simp; with_reducible rfl); rotate_left; (simp only [Act.put, List.setIfInBounds_toArray, List.set_cons_zero, List.set_cons_succ, i64_w, i32_w]; rfl)
        refine one_ (i := 39) (N := some 117) (lb 55 35184372088831) rfl rfl (by kernel_rfl) (by decide) (fun K hK => ?_)
        refine goes_ Try.func29 (by kernel_rfl) rfl #[.pointer (some ⟨gs, 0, none⟩)] (by rfl) rfl rfl (by simp only [List.map_toArray, List.map_cons, List.map_nil]; rfl) ?_
        with_reducible refine (soulCount_T gs g3 v now row w _ F11.out.S).mono ?_
        rintro e w12 ⟨rfl, hb⟩
        refine ⟨_, rfl, ?_⟩
        have F12 := Aside0.mk (F11.out.below hb)
        have FB12 := Aside0.mk (below_step FB11.out hb)
        have U12 := Aside0.mk (blk_below U11.out hb)
        clear hb
        refine hK.out _ _ ((blk_cell U12.out 0).trans rfl) (fun hHeld => ?_)
        clear hK K
        refine norm_ (a' := ?_) ?_ ?_
        rotate_left
        · show Act.put _ (some 117) _ = _
          simp only [Act.put, List.setIfInBounds_toArray, List.set_cons_zero, List.set_cons_succ, i64_w, i32_w]
          rfl
        refine pS (v := ?_) (a' := ?_) 45 (some 123) (lb 55 70368744177663) rfl rfl (by kernel_rfl) (fun _ _ _ h => h) (by rfl) ?_ ?_ ?_; rotate_left; (intro w'; go_simp; with_reducible rfl); rotate_left; (simp only [Act.put, List.setIfInBounds_toArray, List.set_cons_zero, List.set_cons_succ, i64_w, i32_w]; rfl)
        refine pS (v := ?_) (a' := ?_) 46 (some 124) (lb 55 140737488355327) rfl rfl (by kernel_rfl) (fun _ _ _ h => h) (by rfl) ?_ ?_ ?_; rotate_left; (intro w'; go_simp; with_reducible rfl); rotate_left; (simp only [Act.put, List.setIfInBounds_toArray, List.set_cons_zero, List.set_cons_succ, i64_w, i32_w]; rfl)
        refine pS (v := ?_) (a' := ?_) 47 (some 125) (lb 55 281474976710655) rfl rfl (by kernel_rfl) (fun _ _ _ h => h) (by rfl) ?_ ?_ ?_; rotate_left; (intro w'; go_simp; with_reducible rfl); rotate_left; (simp only [Act.put, List.setIfInBounds_toArray, List.set_cons_zero, List.set_cons_succ, i64_w, i32_w]; rfl)
        refine pS (v := ?_) (a' := ?_) 48 (some 126) (lb 55 562949953421311) rfl rfl (by kernel_rfl) (fun _ _ _ h => h) (by rfl) ?_ ?_ ?_; rotate_left; (intro w'; go_simp; with_reducible rfl); rotate_left; (simp only [Act.put, List.setIfInBounds_toArray, List.set_cons_zero, List.set_cons_succ, i64_w, i32_w]; rfl)
        refine pS (v := ?_) (a' := ?_) 50 (some 128) (lb 55 1688849860263935) rfl rfl (by kernel_rfl) (fun _ _ _ h => h) (by rfl) ?_ ?_ ?_; rotate_left; (intro w'; go_simp; with_reducible rfl); rotate_left; (simp only [Act.put, List.setIfInBounds_toArray, List.set_cons_zero, List.set_cons_succ, i64_w, i32_w]; rfl)
        refine one_ (i := 49) (N := some 127) (lb 55 2251799813685247) rfl rfl (by kernel_rfl) (by decide) (fun K hK => ?_)
        refine goes_ Try.func77 (by kernel_rfl) rfl #[.pointer (some ⟨gs, 0, none⟩)] (by rfl) rfl rfl (by simp only [List.map_toArray, List.map_cons, List.map_nil]; rfl) ?_
        with_reducible refine (s6slots_T F12.out JL.out HL.out).mono ?_
        rintro e w13 ⟨u13, rfl, hr, hb⟩
        refine ⟨_, rfl, ?_⟩
        have F13 := Aside0.mk (F12.out.below hb)
        have FB13 := Aside0.mk (below_step FB12.out hb)
        have U13 := Aside0.mk (blk_below U12.out hb)
        have V13 := Aside0.mk hr
        clear hr hb
        refine hK.out _ _ ((blk_cell U13.out 0).trans rfl) (fun hHeld => ?_)
        clear hK K
        refine norm_ (a' := ?_) ?_ ?_
        rotate_left
        · show Act.put _ (some 127) _ = _
          simp only [Act.put, List.setIfInBounds_toArray, List.set_cons_zero, List.set_cons_succ, i64_w, i32_w]
          rfl
        refine one_ (i := 51) (N := some 129) (lb 55 4503599627370495) rfl rfl (by kernel_rfl) (by decide) (fun K hK => ?_)
        refine goes_ Try.func78 (by kernel_rfl) rfl #[.pointer (some ⟨gu, 0, none⟩)] (by rfl) rfl rfl (by simp only [List.map_toArray, List.map_cons, List.map_nil]; rfl) ?_
        with_reducible refine (r6slots_T F13.out HL.out).mono ?_
        rintro e w14 ⟨u14, rfl, hr, hb⟩
        refine ⟨_, rfl, ?_⟩
        have F14 := Aside0.mk (F13.out.below hb)
        have FB14 := Aside0.mk (below_step FB13.out hb)
        have U14 := Aside0.mk (blk_below U13.out hb)
        have V14 := Aside0.mk hr
        have V13b := Aside0.mk (Kd.R_below V13.out hb)
        clear hr hb
        refine hK.out _ _ ((blk_cell U14.out 0).trans rfl) (fun hHeld => ?_)
        clear hK K
        refine norm_ (a' := ?_) ?_ ?_
        rotate_left
        · show Act.put _ (some 129) _ = _
          simp only [Act.put, List.setIfInBounds_toArray, List.set_cons_zero, List.set_cons_succ, i64_w, i32_w]
          rfl
        refine one_ (i := 52) (N := some 130) (lb 55 9007199254740991) rfl rfl (by kernel_rfl) (by decide) (fun K hK => ?_)
        refine goes_ Try.func74 (by kernel_rfl) rfl #[u13, u14] (by rfl) rfl rfl (by simp only [List.map_toArray, List.map_cons, List.map_nil]; rfl) ?_
        with_reducible refine (ints_T u13 u14 _ _ _ w14 V13b.out V14.out LF.out).mono ?_
        rintro e w15 ⟨rfl, hb⟩
        refine ⟨_, rfl, ?_⟩
        have F15 := Aside0.mk (F14.out.below hb)
        have FB15 := Aside0.mk (below_step FB14.out hb)
        have U15 := Aside0.mk (blk_below U14.out hb)
        clear hb
        refine hK.out _ _ ((blk_cell U15.out 0).trans rfl) (fun hHeld => ?_)
        clear hK K
        refine norm_ (a' := ?_) ?_ ?_
        rotate_left
        · show Act.put _ (some 130) _ = _
          simp only [Act.put, List.setIfInBounds_toArray, List.set_cons_zero, List.set_cons_succ, i64_w, i32_w]
          rfl
        refine pS (v := ?_) (a' := ?_) 53 (some 131) (lb 55 18014398509481983) rfl rfl (by kernel_rfl) (fun _ _ _ h => h) (by rfl) ?_ ?_ ?_; rotate_left; (intro w'; go_simp; with_reducible rfl); rotate_left; (simp only [Act.put, List.setIfInBounds_toArray, List.set_cons_zero, List.set_cons_succ, i64_w, i32_w]; rfl)
        refine pS (v := ?_) (a' := ?_) 54 (some 132) (lb 55 36028797018963967) rfl rfl (by kernel_rfl) (fun _ _ _ h => h) (by rfl) ?_ ?_ ?_; rotate_left; (intro w'; go_simp; with_reducible rfl); rotate_left; (simp only [Act.put, List.setIfInBounds_toArray, List.set_cons_zero, List.set_cons_succ, i64_w, i32_w]; rfl)
        refine done_ (by kernel_rfl) ?_
        go_wp2_with fail
        refine (soulBornNil_T slot _).mono ?_
        rintro e w16 ⟨rfl, hb⟩
        have FB16 := Aside0.mk (below_step FB15.out hb)
        clear hb
        go_wp2_with fail
        refine (soulNowNil_T slot _).mono ?_
        rintro e w17 ⟨rfl, hb⟩
        have FB17 := Aside0.mk (below_step FB16.out hb)
        clear hb
        go_wp2_with fail
        refine (slotOfNil_T id _).mono ?_
        rintro e w18 ⟨rfl, hb⟩
        have FB18 := Aside0.mk (below_step FB17.out hb)
        clear hb
        go_wp2_with fail
        refine (soulCountNil_T _).mono ?_
        rintro e w19 ⟨rfl, hb⟩
        have FB19 := Aside0.mk (below_step FB18.out hb)
        clear hb
        go_wp2_with fail
        refine (soulAllNil_T slot _).mono ?_
        rintro e w20 ⟨rfl, hb⟩
        have FB20 := Aside0.mk (below_step FB19.out hb)
        clear hb
        go_wp2_with fail
        refine (soulSlotsNil_T _).mono ?_
        rintro e w21 ⟨rfl, hb⟩
        have FB21 := Aside0.mk (below_step FB20.out hb)
        clear hb
        go_wp2_with fail
        refine (soulIsNil_T slot id _).mono ?_
        rintro e w22 ⟨rfl, hb⟩
        have FB22 := Aside0.mk (below_step FB21.out hb)
        clear hb
        go_wp2_with fail
        go_ret
        exact ⟨rfl, FB22.out⟩
      · have t4 : decide (id ≤ (row.length : Int)) = false := decide_eq_false h2
        have AT := Aside0.mk (show slotR row id = 0 from if_pos (.inr (by omega)))
        clear h1 h2
        go_wp2_with fail
        clear cu
        refine (r6now_T JR.out slot HL.out).mono ?_
        rintro e w5 ⟨rfl, hb⟩
        rw [NW.out]
        have F5 := Aside0.mk (JR.out.below hb).drew
        have FB5 := Aside0.mk (below_drew (below_step JB.out hb))
        have U5 := Aside0.mk (blk_drew (blk_below JR.out.blk hb))
        clear hb
        have cu5 : w5.drew.cell? ⟨gu, 0, none⟩ = some (.slice Ar row.length cr) := (blk_cell U5.out 0).trans rfl
        have EI := Aside0.mk (show isR now slot id = (nw == id) by unfold isR; rw [NG.out, IDN.out]; rfl)
        have ti : ((nw == id) != (nw == id)) = false := by simp
        have ta : ((0 : Int) != 0) = false := by simp
        go_wp2_with fail
        refine start_ (n := 55) (S := fun w' => w'.cell? ⟨gu, 0, none⟩ = some (.slice Ar row.length cr)) (ds := []) (lb 55 0) (by kernel_rfl) rfl rfl (cu5) (fun hHeld => ?_)
        refine pS (v := ?_) (a' := ?_) 0 (some 78) (lb 55 1) rfl rfl (by kernel_rfl) (fun _ _ _ h => h) (by rfl) ?_ ?_ ?_; rotate_left; (intro w'; go_simp; with_reducible rfl); rotate_left; (simp only [Act.put, List.setIfInBounds_toArray, List.set_cons_zero, List.set_cons_succ, i64_w, i32_w]; rfl)
        refine pS (v := ?_) (a' := ?_) 1 (some 79) (lb 55 3) rfl rfl (by kernel_rfl) (fun _ _ _ h => h) (by rfl) ?_ ?_ ?_; rotate_left; (intro w'; go_simp; with_reducible rfl); rotate_left; (simp only [Act.put, List.setIfInBounds_toArray, List.set_cons_zero, List.set_cons_succ, i64_w, i32_w]; rfl)
        refine pS (v := ?_) (a' := ?_) 3 (some 81) (lb 55 11) rfl rfl (by kernel_rfl) (fun _ _ _ h => h) (by rfl) ?_ ?_ ?_; rotate_left; (intro w'; go_simp; with_reducible rfl); rotate_left; (simp only [Act.put, List.setIfInBounds_toArray, List.set_cons_zero, List.set_cons_succ, i64_w, i32_w]; rfl)
        refine one_ (i := 2) (N := some 80) (lb 55 15) rfl rfl (by kernel_rfl) (by decide) (fun K hK => ?_)
        refine goes_ Try.func41 (by kernel_rfl) rfl #[.pointer (some ⟨gs, 0, none⟩), .int .i64 slot] (by rfl) rfl rfl (by simp only [List.map_toArray, List.map_cons, List.map_nil]; rfl) ?_
        with_reducible refine (soulNow_T gs g3 v now row slot w _ F5.out.S).mono ?_
        rintro e w6 ⟨rfl, hb⟩
        refine ⟨_, rfl, ?_⟩
        rw [NG.out]
        have F6 := Aside0.mk (F5.out.below hb)
        have FB6 := Aside0.mk (below_step FB5.out hb)
        have U6 := Aside0.mk (blk_below U5.out hb)
        clear hb
        refine hK.out _ _ ((blk_cell U6.out 0).trans rfl) (fun hHeld => ?_)
        clear hK K
        refine norm_ (a' := ?_) ?_ ?_
        rotate_left
        · show Act.put _ (some 80) _ = _
          simp only [Act.put, List.setIfInBounds_toArray, List.set_cons_zero, List.set_cons_succ, i64_w, i32_w]
          rfl
        refine pS (v := ?_) (a' := ?_) 4 (some 82) (lb 55 31) rfl rfl (by kernel_rfl) (fun _ _ _ h => h) (by rfl) ?_ ?_ ?_; rotate_left; (intro w'; go_simp; with_reducible rfl); rotate_left; (simp only [Act.put, List.setIfInBounds_toArray, List.set_cons_zero, List.set_cons_succ, i64_w, i32_w]; rfl)
        refine pS (v := ?_) (a' := ?_) 5 (some 83) (lb 55 63) rfl rfl (by kernel_rfl) (fun _ _ _ h => h) (by rfl) ?_ ?_ ?_; rotate_left; (intro w'; go_simp; with_reducible rfl); rotate_left; (simp only [Act.put, List.setIfInBounds_toArray, List.set_cons_zero, List.set_cons_succ, i64_w, i32_w]; rfl)
        refine pS (v := ?_) (a' := ?_) 6 (some 84) (lb 55 127) rfl rfl (by kernel_rfl) (fun _ _ _ h => h) (by rfl) ?_ ?_ ?_; rotate_left; (intro w'; go_simp; with_reducible rfl); rotate_left; (simp only [Act.put, List.setIfInBounds_toArray, List.set_cons_zero, List.set_cons_succ, i64_w, i32_w]; rfl)
        refine pS (v := ?_) (a' := ?_) 7 (some 85) (lb 55 255) rfl rfl (by kernel_rfl) (fun _ _ _ h => h) (by rfl) ?_ ?_ ?_; rotate_left; (intro w'; go_simp; with_reducible rfl); rotate_left; (simp only [Act.put, List.setIfInBounds_toArray, List.set_cons_zero, List.set_cons_succ, i64_w, i32_w]; rfl)
        refine pS (v := ?_) (a' := ?_) 8 (some 86) (lb 55 511) rfl rfl (by kernel_rfl) (fun _ _ _ h => h) (by rfl) ?_ ?_ ?_; rotate_left; (intro w'; go_simp; with_reducible rfl); rotate_left; (simp only [Act.put, List.setIfInBounds_toArray, List.set_cons_zero, List.set_cons_succ, i64_w, i32_w]; rfl)
        refine pS (v := ?_) (a' := ?_) 9 (some 87) (lb 55 1023) rfl rfl (by kernel_rfl) (fun _ _ _ h => h) (by rfl) ?_ ?_ ?_; rotate_left; (intro w'; go_simp; with_reducible rfl); rotate_left; (simp only [Act.put, List.setIfInBounds_toArray, List.set_cons_zero, List.set_cons_succ, i64_w, i32_w]; rfl)
        refine pS (v := ?_) (a' := ?_) 11 (some 89) (lb 55 3071) rfl rfl (by kernel_rfl) (fun _ _ _ h => h) (by rfl) ?_ ?_ ?_; rotate_left; (intro w'; go_simp; with_reducible rfl); rotate_left; (simp only [Act.put, List.setIfInBounds_toArray, List.set_cons_zero, List.set_cons_succ, i64_w, i32_w]; rfl)
        refine pS (v := ?_) (a' := ?_) 12 (some 90) (lb 55 7167) rfl rfl (by kernel_rfl) (fun _ _ _ h => h) (by rfl) ?_ ?_ ?_; rotate_left; (intro w'; go_simp; with_reducible rfl); rotate_left; (simp only [Act.put, List.setIfInBounds_toArray, List.set_cons_zero, List.set_cons_succ, i64_w, i32_w]; rfl)
        refine one_ (i := 10) (N := some 88) (lb 55 8191) rfl rfl (by kernel_rfl) (by decide) (fun K hK => ?_)
        refine goes_ Try.func72 (by kernel_rfl) rfl #[.pointer (some ⟨gs, 0, none⟩), Value.agg #[.int .i64 slot, .int .i64 id]] (by rfl) rfl rfl (by simp only [List.map_toArray, List.map_cons, List.map_nil]; rfl) ?_
        with_reducible refine (soulIs_T gs g3 v now row slot id w _ F6.out.S).mono ?_
        rintro e w7 ⟨rfl, hb⟩
        refine ⟨_, rfl, ?_⟩
        rw [EI.out]
        have F7 := Aside0.mk (F6.out.below hb)
        have FB7 := Aside0.mk (below_step FB6.out hb)
        have U7 := Aside0.mk (blk_below U6.out hb)
        clear hb
        refine hK.out _ _ ((blk_cell U7.out 0).trans rfl) (fun hHeld => ?_)
        clear hK K
        refine norm_ (a' := ?_) ?_ ?_
        rotate_left
        · show Act.put _ (some 88) _ = _
          simp only [Act.put, List.setIfInBounds_toArray, List.set_cons_zero, List.set_cons_succ, i64_w, i32_w]
          rfl
        refine pS (v := ?_) (a' := ?_) 13 (some 91) (lb 55 16383) rfl rfl (by kernel_rfl) (fun _ _ _ h => h) (by rfl) ?_ ?_ ?_; rotate_left; (intro w'; go_simp; with_reducible rfl); rotate_left; (simp only [Act.put, List.setIfInBounds_toArray, List.set_cons_zero, List.set_cons_succ, i64_w, i32_w]; rfl)
        refine pS (v := ?_) (a' := ?_) 14 (some 92) (lb 55 32767) rfl rfl (by kernel_rfl) (fun _ _ _ h => h) (by rfl) ?_ ?_ ?_; rotate_left; (intro w'; go_simp; with_reducible rfl); rotate_left; (simp only [Act.put, List.setIfInBounds_toArray, List.set_cons_zero, List.set_cons_succ, i64_w, i32_w]; rfl)
        refine pS (v := ?_) (a' := ?_) 15 (some 93) (lb 55 65535) rfl rfl (by kernel_rfl) (fun _ _ _ h => h) (by rfl) ?_ ?_ ?_; rotate_left; (intro w'; go_simp; with_reducible rfl); rotate_left; (simp only [Act.put, List.setIfInBounds_toArray, List.set_cons_zero, List.set_cons_succ, i64_w, i32_w]; rfl)
        refine pS (v := ?_) (a' := ?_) 16 (some 94) (lb 55 131071) rfl rfl (by kernel_rfl) (fun _ _ _ h => h) (by rfl) ?_ ?_ ?_; rotate_left; (intro w'; go_simp; with_reducible rfl); rotate_left; (simp only [Act.put, List.setIfInBounds_toArray, List.set_cons_zero, List.set_cons_succ, i64_w, i32_w]; rfl)
        refine pS (v := ?_) (a' := ?_) 17 (some 95) (lb 55 262143) rfl rfl (by kernel_rfl) (fun _ _ _ h => h) (by rfl) ?_ ?_ ?_; rotate_left; (intro w'; go_simp; with_reducible rfl); rotate_left; (simp only [Act.put, List.setIfInBounds_toArray, List.set_cons_zero, List.set_cons_succ, i64_w, i32_w]; rfl)
        refine pS (v := ?_) (a' := ?_) 18 (some 96) (lb 55 524287) rfl rfl (by kernel_rfl) (fun _ _ _ h => h) (by rfl) ?_ ?_ ?_; rotate_left; (intro w'; go_simp; with_reducible rfl); rotate_left; (simp only [Act.put, List.setIfInBounds_toArray, List.set_cons_zero, List.set_cons_succ, i64_w, i32_w]; rfl)
        refine pS (v := ?_) (a' := ?_) 19 (some 97) (lb 55 1048575) rfl rfl (by kernel_rfl) (fun _ _ _ h => h) (by rfl) ?_ ?_ ?_; rotate_left; (intro w'; go_simp; with_reducible rfl); rotate_left; (simp only [Act.put, List.setIfInBounds_toArray, List.set_cons_zero, List.set_cons_succ, i64_w, i32_w]; rfl)
        refine pS (v := ?_) (a' := ?_) 20 (some 98) (lb 55 2097151) rfl rfl (by kernel_rfl) (fun _ _ _ h => h) (by rfl) ?_ ?_ ?_; rotate_left; (intro w'; go_simp; with_reducible rfl); rotate_left; (simp only [Act.put, List.setIfInBounds_toArray, List.set_cons_zero, List.set_cons_succ, i64_w, i32_w]; rfl)
        refine pS (v := ?_) (a' := ?_) 21 (some 99) (lb 55 4194303) rfl rfl (by kernel_rfl) (fun _ _ _ h => h) (by rfl) ?_ ?_ ?_; rotate_left; (intro w'; go_simp; with_reducible rfl); rotate_left; (simp only [Act.put, List.setIfInBounds_toArray, List.set_cons_zero, List.set_cons_succ, i64_w, i32_w]; rfl)
        refine pS (v := ?_) (a' := ?_) 22 (some 100) (lb 55 8388607) rfl rfl (by kernel_rfl) (fun _ _ _ h => h) (by rfl) ?_ ?_ ?_; rotate_left; (intro w'; go_simp; with_reducible rfl); rotate_left; (simp only [Act.put, List.setIfInBounds_toArray, List.set_cons_zero, List.set_cons_succ, i64_w, i32_w]; rfl)
        refine pS (v := ?_) (a' := ?_) 24 (some 102) (lb 55 25165823) rfl rfl (by kernel_rfl) (fun _ _ _ h => h) (by rfl) ?_ ?_ ?_; rotate_left; (intro w'; go_simp; with_reducible rfl); rotate_left; (simp only [Act.put, List.setIfInBounds_toArray, List.set_cons_zero, List.set_cons_succ, i64_w, i32_w]; rfl)
        refine one_ (i := 23) (N := some 101) (lb 55 33554431) rfl rfl (by kernel_rfl) (by decide) (fun K hK => ?_)
        refine goes_ Try.func73 (by kernel_rfl) rfl #[.pointer (some ⟨gs, 0, none⟩), .int .i64 id] (by rfl) rfl rfl (by simp only [List.map_toArray, List.map_cons, List.map_nil]; rfl) ?_
        with_reducible refine (slotOf_T gs g3 v now row id w _ F7.out.S HL.out).mono ?_
        rintro e w8 ⟨rfl, hb⟩
        refine ⟨_, rfl, ?_⟩
        rw [AT.out]
        have F8 := Aside0.mk (F7.out.below hb)
        have FB8 := Aside0.mk (below_step FB7.out hb)
        have U8 := Aside0.mk (blk_below U7.out hb)
        clear hb
        refine hK.out _ _ ((blk_cell U8.out 0).trans rfl) (fun hHeld => ?_)
        clear hK K
        refine norm_ (a' := ?_) ?_ ?_
        rotate_left
        · show Act.put _ (some 101) _ = _
          simp only [Act.put, List.setIfInBounds_toArray, List.set_cons_zero, List.set_cons_succ, i64_w, i32_w]
          rfl
        refine pS (v := ?_) (a' := ?_) 25 (some 103) (lb 55 67108863) rfl rfl (by kernel_rfl) (fun _ _ _ h => h) (by rfl) ?_ ?_ ?_; rotate_left; (intro w'; go_simp; with_reducible rfl); rotate_left; (simp only [Act.put, List.setIfInBounds_toArray, List.set_cons_zero, List.set_cons_succ, i64_w, i32_w]; rfl)
        refine pS (v := ?_) (a' := ?_) 26 (some 104) (lb 55 134217727) rfl rfl (by kernel_rfl) (fun _ _ _ h => h) (by rfl) ?_ ?_ ?_; rotate_left; (intro w'; go_simp; with_reducible rfl); rotate_left; (simp only [Act.put, List.setIfInBounds_toArray, List.set_cons_zero, List.set_cons_succ, i64_w, i32_w]; rfl)
        refine pS (v := ?_) (a' := ?_) 27 (some 105) (lb 55 268435455) rfl rfl (by kernel_rfl) (fun _ _ _ h => h) (by rfl) ?_ ?_ ?_; rotate_left; (intro w'; go_simp; with_reducible rfl); rotate_left; (simp only [Act.put, List.setIfInBounds_toArray, List.set_cons_zero, List.set_cons_succ, i64_w, i32_w]; rfl)
        refine pS (v := ?_) (a' := ?_) 28 (some 106) (lb 55 536870911) rfl rfl (by kernel_rfl) (fun _ _ _ h => h) (by rfl) ?_ ?_ ?_; rotate_left; (intro w'; go_simp; with_reducible rfl); rotate_left; (simp only [Act.put, List.setIfInBounds_toArray, List.set_cons_zero, List.set_cons_succ, i64_w, i32_w]; rfl)
        refine pS (v := ?_) (a' := ?_) 29 (some 107) (lb 55 1073741823) rfl rfl (by kernel_rfl) (fun _ _ _ h => h) (by rfl) ?_ ?_ ?_; rotate_left; (intro w'; go_simp; with_reducible rfl); rotate_left; (simp only [Act.put, List.setIfInBounds_toArray, List.set_cons_zero, List.set_cons_succ, i64_w, i32_w]; rfl)
        refine pS (v := ?_) (a' := ?_) 31 (some 109) (lb 55 3221225471) rfl rfl (by kernel_rfl) (fun _ _ _ h => h) (by rfl) ?_ ?_ ?_; rotate_left; (intro w'; go_simp; with_reducible rfl); rotate_left; (simp only [Act.put, List.setIfInBounds_toArray, List.set_cons_zero, List.set_cons_succ, i64_w, i32_w]; rfl)
        refine pS (v := ?_) (a' := ?_) 32 (some 110) (lb 55 7516192767) rfl rfl (by kernel_rfl) (fun _ _ _ h => h) (by rfl) ?_ ?_ ?_; rotate_left; (intro w'; go_simp; with_reducible rfl); rotate_left; (simp only [Act.put, List.setIfInBounds_toArray, List.set_cons_zero, List.set_cons_succ, i64_w, i32_w]; rfl)
        refine one_ (i := 30) (N := some 108) (lb 55 8589934591) rfl rfl (by kernel_rfl) (by decide) (fun K hK => ?_)
        refine goes_ Try.func75 (by kernel_rfl) rfl #[.pointer (some ⟨gs, 0, none⟩), .int .i64 slot] (by rfl) rfl rfl (by simp only [List.map_toArray, List.map_cons, List.map_nil]; rfl) ?_
        with_reducible refine (soulAll_T gs g3 v now row slot w _ F8.out.S HL.out).mono ?_
        rintro e w9 ⟨u9, rfl, hr, hb⟩
        refine ⟨_, rfl, ?_⟩
        have F9 := Aside0.mk (F8.out.below hb)
        have FB9 := Aside0.mk (below_step FB8.out hb)
        have U9 := Aside0.mk (blk_below U8.out hb)
        have V9 := Aside0.mk hr
        clear hr hb
        refine hK.out _ _ ((blk_cell U9.out 0).trans rfl) (fun hHeld => ?_)
        clear hK K
        refine norm_ (a' := ?_) ?_ ?_
        rotate_left
        · show Act.put _ (some 108) _ = _
          simp only [Act.put, List.setIfInBounds_toArray, List.set_cons_zero, List.set_cons_succ, i64_w, i32_w]
          rfl
        refine one_ (i := 33) (N := some 111) (lb 55 17179869183) rfl rfl (by kernel_rfl) (by decide) (fun K hK => ?_)
        refine goes_ Try.func76 (by kernel_rfl) rfl #[.pointer (some ⟨gu, 0, none⟩), .int .i64 slot] (by rfl) rfl rfl (by simp only [List.map_toArray, List.map_cons, List.map_nil]; rfl) ?_
        with_reducible refine (r6all_T F9.out slot HL.out).mono ?_
        rintro e w10 ⟨u10, rfl, hr, hb⟩
        refine ⟨_, rfl, ?_⟩
        have F10 := Aside0.mk (F9.out.below hb)
        have FB10 := Aside0.mk (below_step FB9.out hb)
        have U10 := Aside0.mk (blk_below U9.out hb)
        have V10 := Aside0.mk hr
        have V9b := Aside0.mk (Kd.R_below V9.out hb)
        clear hr hb
        refine hK.out _ _ ((blk_cell U10.out 0).trans rfl) (fun hHeld => ?_)
        clear hK K
        refine norm_ (a' := ?_) ?_ ?_
        rotate_left
        · show Act.put _ (some 111) _ = _
          simp only [Act.put, List.setIfInBounds_toArray, List.set_cons_zero, List.set_cons_succ, i64_w, i32_w]
          rfl
        refine one_ (i := 34) (N := some 112) (lb 55 34359738367) rfl rfl (by kernel_rfl) (by decide) (fun K hK => ?_)
        refine goes_ Try.func74 (by kernel_rfl) rfl #[u9, u10] (by rfl) rfl rfl (by simp only [List.map_toArray, List.map_cons, List.map_nil]; rfl) ?_
        with_reducible refine (ints_T u9 u10 _ _ _ w10 V9b.out V10.out LA.out).mono ?_
        rintro e w11 ⟨rfl, hb⟩
        refine ⟨_, rfl, ?_⟩
        have F11 := Aside0.mk (F10.out.below hb)
        have FB11 := Aside0.mk (below_step FB10.out hb)
        have U11 := Aside0.mk (blk_below U10.out hb)
        clear hb
        refine hK.out _ _ ((blk_cell U11.out 0).trans rfl) (fun hHeld => ?_)
        clear hK K
        refine norm_ (a' := ?_) ?_ ?_
        rotate_left
        · show Act.put _ (some 112) _ = _
          simp only [Act.put, List.setIfInBounds_toArray, List.set_cons_zero, List.set_cons_succ, i64_w, i32_w]
          rfl
        refine pS (v := ?_) (a' := ?_) 35 (some 113) (lb 55 68719476735) rfl rfl (by kernel_rfl) (fun _ _ _ h => h) (by rfl) ?_ ?_ ?_; rotate_left; (intro w'; go_simp; with_reducible rfl); rotate_left; (simp only [Act.put, List.setIfInBounds_toArray, List.set_cons_zero, List.set_cons_succ, i64_w, i32_w]; rfl)
        refine pS (v := ?_) (a' := ?_) 36 (some 114) (lb 55 137438953471) rfl rfl (by kernel_rfl) (fun _ _ _ h => h) (by rfl) ?_ ?_ ?_; rotate_left; (intro w'; go_simp; with_reducible rfl); rotate_left; (simp only [Act.put, List.setIfInBounds_toArray, List.set_cons_zero, List.set_cons_succ, i64_w, i32_w]; rfl)
        refine pS (v := ?_) (a' := ?_) 37 (some 115) (lb 55 274877906943) rfl rfl (by kernel_rfl) (fun _ _ _ h => h) (by rfl) ?_ ?_ ?_; rotate_left; (intro w'; go_simp; with_reducible rfl); rotate_left; (simp only [Act.put, List.setIfInBounds_toArray, List.set_cons_zero, List.set_cons_succ, i64_w, i32_w]; rfl)
        refine pS (v := ?_) (a' := ?_) 38 (some 116) (lb 55 549755813887) rfl rfl (by kernel_rfl) (fun _ _ _ h => h) (by rfl) ?_ ?_ ?_; rotate_left; (intro w'; go_simp; with_reducible rfl); rotate_left; (simp only [Act.put, List.setIfInBounds_toArray, List.set_cons_zero, List.set_cons_succ, i64_w, i32_w]; rfl)
        refine pS (v := ?_) (a' := ?_) 40 (some 118) (lb 55 1649267441663) rfl rfl (by kernel_rfl) (fun _ _ _ h => h) (by rfl) ?_ ?_ ?_; rotate_left; (intro w'; go_simp; with_reducible rfl); rotate_left; (simp only [Act.put, List.setIfInBounds_toArray, List.set_cons_zero, List.set_cons_succ, i64_w, i32_w]; rfl)
        refine pS (v := ?_) (a' := ?_) 41 (some 119) (lb 55 3848290697215) rfl rfl (by kernel_rfl) (fun _ _ _ h => h) (by rfl) ?_ ?_ ?_; rotate_left; (intro w'; go_simp; with_reducible rfl); rotate_left; (simp only [Act.put, List.setIfInBounds_toArray, List.set_cons_zero, List.set_cons_succ, i64_w, i32_w]; rfl)
        refine pS (v := ?_) (a' := ?_) 42 (some 120) (lb 55 8246337208319) rfl rfl (by kernel_rfl) (fun _ _ _ h => h) (by rfl) ?_ ?_ ?_; rotate_left; (intro w'; go_simp; with_reducible rfl); rotate_left; (simp only [Act.put, List.setIfInBounds_toArray, List.set_cons_zero, List.set_cons_succ, i64_w, i32_w]; rfl)
        refine tS (v := ?_) (a' := ?_) 43 (some 121) (lb 55 17042430230527) rfl rfl (by kernel_rfl) (fun _ _ _ h => h) hHeld (by rfl) ?_ ?_ ?_; rotate_left; (rintro w' s0; go_simp; with_reducible rfl); rotate_left; (simp only [Act.put, List.setIfInBounds_toArray, List.set_cons_zero, List.set_cons_succ, i64_w, i32_w]; rfl)
        refine pS (v := ?_) (a' := ?_) 44 (some 122) (lb 55 34634616274943) rfl rfl (by kernel_rfl) (fun _ _ _ h => h) (by rfl) ?_ ?_ ?_; rotate_left; (intro w'; go_simp; with_reducible rfl); rotate_left; (simp only [Act.put, List.setIfInBounds_toArray, List.set_cons_zero, List.set_cons_succ, i64_w, i32_w]; rfl)
        refine one_ (i := 39) (N := some 117) (lb 55 35184372088831) rfl rfl (by kernel_rfl) (by decide) (fun K hK => ?_)
        refine goes_ Try.func29 (by kernel_rfl) rfl #[.pointer (some ⟨gs, 0, none⟩)] (by rfl) rfl rfl (by simp only [List.map_toArray, List.map_cons, List.map_nil]; rfl) ?_
        with_reducible refine (soulCount_T gs g3 v now row w _ F11.out.S).mono ?_
        rintro e w12 ⟨rfl, hb⟩
        refine ⟨_, rfl, ?_⟩
        have F12 := Aside0.mk (F11.out.below hb)
        have FB12 := Aside0.mk (below_step FB11.out hb)
        have U12 := Aside0.mk (blk_below U11.out hb)
        clear hb
        refine hK.out _ _ ((blk_cell U12.out 0).trans rfl) (fun hHeld => ?_)
        clear hK K
        refine norm_ (a' := ?_) ?_ ?_
        rotate_left
        · show Act.put _ (some 117) _ = _
          simp only [Act.put, List.setIfInBounds_toArray, List.set_cons_zero, List.set_cons_succ, i64_w, i32_w]
          rfl
        refine pS (v := ?_) (a' := ?_) 45 (some 123) (lb 55 70368744177663) rfl rfl (by kernel_rfl) (fun _ _ _ h => h) (by rfl) ?_ ?_ ?_; rotate_left; (intro w'; go_simp; with_reducible rfl); rotate_left; (simp only [Act.put, List.setIfInBounds_toArray, List.set_cons_zero, List.set_cons_succ, i64_w, i32_w]; rfl)
        refine pS (v := ?_) (a' := ?_) 46 (some 124) (lb 55 140737488355327) rfl rfl (by kernel_rfl) (fun _ _ _ h => h) (by rfl) ?_ ?_ ?_; rotate_left; (intro w'; go_simp; with_reducible rfl); rotate_left; (simp only [Act.put, List.setIfInBounds_toArray, List.set_cons_zero, List.set_cons_succ, i64_w, i32_w]; rfl)
        refine pS (v := ?_) (a' := ?_) 47 (some 125) (lb 55 281474976710655) rfl rfl (by kernel_rfl) (fun _ _ _ h => h) (by rfl) ?_ ?_ ?_; rotate_left; (intro w'; go_simp; with_reducible rfl); rotate_left; (simp only [Act.put, List.setIfInBounds_toArray, List.set_cons_zero, List.set_cons_succ, i64_w, i32_w]; rfl)
        refine pS (v := ?_) (a' := ?_) 48 (some 126) (lb 55 562949953421311) rfl rfl (by kernel_rfl) (fun _ _ _ h => h) (by rfl) ?_ ?_ ?_; rotate_left; (intro w'; go_simp; with_reducible rfl); rotate_left; (simp only [Act.put, List.setIfInBounds_toArray, List.set_cons_zero, List.set_cons_succ, i64_w, i32_w]; rfl)
        refine pS (v := ?_) (a' := ?_) 50 (some 128) (lb 55 1688849860263935) rfl rfl (by kernel_rfl) (fun _ _ _ h => h) (by rfl) ?_ ?_ ?_; rotate_left; (intro w'; go_simp; with_reducible rfl); rotate_left; (simp only [Act.put, List.setIfInBounds_toArray, List.set_cons_zero, List.set_cons_succ, i64_w, i32_w]; rfl)
        refine one_ (i := 49) (N := some 127) (lb 55 2251799813685247) rfl rfl (by kernel_rfl) (by decide) (fun K hK => ?_)
        refine goes_ Try.func77 (by kernel_rfl) rfl #[.pointer (some ⟨gs, 0, none⟩)] (by rfl) rfl rfl (by simp only [List.map_toArray, List.map_cons, List.map_nil]; rfl) ?_
        with_reducible refine (s6slots_T F12.out JL.out HL.out).mono ?_
        rintro e w13 ⟨u13, rfl, hr, hb⟩
        refine ⟨_, rfl, ?_⟩
        have F13 := Aside0.mk (F12.out.below hb)
        have FB13 := Aside0.mk (below_step FB12.out hb)
        have U13 := Aside0.mk (blk_below U12.out hb)
        have V13 := Aside0.mk hr
        clear hr hb
        refine hK.out _ _ ((blk_cell U13.out 0).trans rfl) (fun hHeld => ?_)
        clear hK K
        refine norm_ (a' := ?_) ?_ ?_
        rotate_left
        · show Act.put _ (some 127) _ = _
          simp only [Act.put, List.setIfInBounds_toArray, List.set_cons_zero, List.set_cons_succ, i64_w, i32_w]
          rfl
        refine one_ (i := 51) (N := some 129) (lb 55 4503599627370495) rfl rfl (by kernel_rfl) (by decide) (fun K hK => ?_)
        refine goes_ Try.func78 (by kernel_rfl) rfl #[.pointer (some ⟨gu, 0, none⟩)] (by rfl) rfl rfl (by simp only [List.map_toArray, List.map_cons, List.map_nil]; rfl) ?_
        with_reducible refine (r6slots_T F13.out HL.out).mono ?_
        rintro e w14 ⟨u14, rfl, hr, hb⟩
        refine ⟨_, rfl, ?_⟩
        have F14 := Aside0.mk (F13.out.below hb)
        have FB14 := Aside0.mk (below_step FB13.out hb)
        have U14 := Aside0.mk (blk_below U13.out hb)
        have V14 := Aside0.mk hr
        have V13b := Aside0.mk (Kd.R_below V13.out hb)
        clear hr hb
        refine hK.out _ _ ((blk_cell U14.out 0).trans rfl) (fun hHeld => ?_)
        clear hK K
        refine norm_ (a' := ?_) ?_ ?_
        rotate_left
        · show Act.put _ (some 129) _ = _
          simp only [Act.put, List.setIfInBounds_toArray, List.set_cons_zero, List.set_cons_succ, i64_w, i32_w]
          rfl
        refine one_ (i := 52) (N := some 130) (lb 55 9007199254740991) rfl rfl (by kernel_rfl) (by decide) (fun K hK => ?_)
        refine goes_ Try.func74 (by kernel_rfl) rfl #[u13, u14] (by rfl) rfl rfl (by simp only [List.map_toArray, List.map_cons, List.map_nil]; rfl) ?_
        with_reducible refine (ints_T u13 u14 _ _ _ w14 V13b.out V14.out LF.out).mono ?_
        rintro e w15 ⟨rfl, hb⟩
        refine ⟨_, rfl, ?_⟩
        have F15 := Aside0.mk (F14.out.below hb)
        have FB15 := Aside0.mk (below_step FB14.out hb)
        have U15 := Aside0.mk (blk_below U14.out hb)
        clear hb
        refine hK.out _ _ ((blk_cell U15.out 0).trans rfl) (fun hHeld => ?_)
        clear hK K
        refine norm_ (a' := ?_) ?_ ?_
        rotate_left
        · show Act.put _ (some 130) _ = _
          simp only [Act.put, List.setIfInBounds_toArray, List.set_cons_zero, List.set_cons_succ, i64_w, i32_w]
          rfl
        refine pS (v := ?_) (a' := ?_) 53 (some 131) (lb 55 18014398509481983) rfl rfl (by kernel_rfl) (fun _ _ _ h => h) (by rfl) ?_ ?_ ?_; rotate_left; (intro w'; go_simp; with_reducible rfl); rotate_left; (simp only [Act.put, List.setIfInBounds_toArray, List.set_cons_zero, List.set_cons_succ, i64_w, i32_w]; rfl)
        refine pS (v := ?_) (a' := ?_) 54 (some 132) (lb 55 36028797018963967) rfl rfl (by kernel_rfl) (fun _ _ _ h => h) (by rfl) ?_ ?_ ?_; rotate_left; (intro w'; go_simp; with_reducible rfl); rotate_left; (simp only [Act.put, List.setIfInBounds_toArray, List.set_cons_zero, List.set_cons_succ, i64_w, i32_w]; rfl)
        refine done_ (by kernel_rfl) ?_
        go_wp2_with fail
        refine (soulBornNil_T slot _).mono ?_
        rintro e w16 ⟨rfl, hb⟩
        have FB16 := Aside0.mk (below_step FB15.out hb)
        clear hb
        go_wp2_with fail
        refine (soulNowNil_T slot _).mono ?_
        rintro e w17 ⟨rfl, hb⟩
        have FB17 := Aside0.mk (below_step FB16.out hb)
        clear hb
        go_wp2_with fail
        refine (slotOfNil_T id _).mono ?_
        rintro e w18 ⟨rfl, hb⟩
        have FB18 := Aside0.mk (below_step FB17.out hb)
        clear hb
        go_wp2_with fail
        refine (soulCountNil_T _).mono ?_
        rintro e w19 ⟨rfl, hb⟩
        have FB19 := Aside0.mk (below_step FB18.out hb)
        clear hb
        go_wp2_with fail
        refine (soulAllNil_T slot _).mono ?_
        rintro e w20 ⟨rfl, hb⟩
        have FB20 := Aside0.mk (below_step FB19.out hb)
        clear hb
        go_wp2_with fail
        refine (soulSlotsNil_T _).mono ?_
        rintro e w21 ⟨rfl, hb⟩
        have FB21 := Aside0.mk (below_step FB20.out hb)
        clear hb
        go_wp2_with fail
        refine (soulIsNil_T slot id _).mono ?_
        rintro e w22 ⟨rfl, hb⟩
        have FB22 := Aside0.mk (below_step FB21.out hb)
        clear hb
        go_wp2_with fail
        go_ret
        exact ⟨rfl, FB22.out⟩
end Go.Proofs.Ytlpnggapndokeaa.PIdealKeeps

