/-
The memory that tells anything, and its reference, beside each other.
-/
import Derived.Test.YtlpnggapndokeaaRefG
import Derived.Test.YtlpnggapndokeaaShadeBX
import Derived.Test.YtlpnggapndokeaaShadeKinds
import Derived.Test.YtlpnggapndokeaaIdealAw
namespace Go.Proofs.Ytlpnggapndokeaa.PIdealKeeps
open Go Go.RowKit Go.Proofs.YtlpnggapndokeaaW.PrintWords Go.Proofs.YtlpnggapndokeaaW.PrintLast Go.Proofs.YtlpnggapndokeaaW.PrintMore Go.Proofs.Ytlpnggapndokeaa.M Go.Proofs.Ytlpnggapndokeaa.U
attribute [local go_sem] max2_int min2_int max_two min_two max_three min_three max_four min_four
set_option linter.unusedVariables false
set_option linter.unusedSimpArgs false
section
variable {w0 w w1 : World} {gh gg gp gc gm gl gs g3 gu : Nat} {tu : TypeId} {G G' : GSt} {sv vws : Value} {ws ws' : List Int} {orow : Option Nat}
theorem wordsT (hG : GhostIs w0 w gg gp gc gm gl gs g3 G) (hw : (Kd.int .u64).R 26 w w0.heap.size (fun _ => True) vws ws) (hf : Fr (GhostT gg gc gm gl) w w1) : (Kd.int .u64).R 26 w1 w0.heap.size (fun _ => True) vws ws := by
  refine row_kept rfl hw hf (fun k o _ hk ht => ?_)
  obtain ⟨cs, rfl⟩ := ht
  exact gnoT hG hk (by decide) (by decide) _
theorem wordsB (hG : GhostIs w0 w gg gp gc gm gl gs g3 G) (hw : (Kd.int .u64).R 26 w w0.heap.size (fun _ => True) vws ws) (hf : Fr (RowS gs g3 (rowAt w gs)) w w1) : (Kd.int .u64).R 26 w1 w0.heap.size (fun _ => True) vws ws := by
  refine row_kept rfl hw hf (fun k o _ hk ht => ?_)
  obtain ⟨cs, rfl⟩ := ht
  exact gnoB hG hk (by decide) (by decide) _
theorem refS_no {p : Nat} {cs : Array Value} {t : TypeId} (n1 : t ≠ tu) (n2 : t ≠ 143) : ¬ RefS w gu tu p (.cells cs t (0, 0)) := by
  rintro ⟨_, ⟨_, x⟩ | x⟩
  · exact n1 (isT_eq x)
  · exact n2 (isT_eq x)
theorem refB_no {p : Nat} {cs : Array Value} {t : TypeId} (n1 : t ≠ tu) (n2 : t ≠ 3) : ¬ RefB w gu tu orow p (.cells cs t (0, 0)) := by
  rintro ⟨_, ⟨_, x⟩ | ⟨_, x⟩⟩
  · exact n1 (isT_eq x)
  · exact n2 (isT_eq x)
theorem TyOk.w26 (h : TyOk tu) : (26 : TypeId) ≠ tu := h.2.2.2.2.2.2.2.2.symm
theorem TyOk.w134 (h : TyOk tu) : (134 : TypeId) ≠ tu := h.2.2.2.2.2.2.2.1.symm
theorem wordsS (hw : (Kd.int .u64).R 26 w w0.heap.size (fun _ => True) vws ws) (ht : TyOk tu) (hf : Fr (RefS w gu tu) w w1) : (Kd.int .u64).R 26 w1 w0.heap.size (fun _ => True) vws ws := by
  refine row_kept rfl hw hf (fun k o _ hk h => ?_)
  obtain ⟨cs, rfl⟩ := h
  exact refS_no ht.w26 (by decide)
theorem wordsUB (hw : (Kd.int .u64).R 26 w w0.heap.size (fun _ => True) vws ws) (ht : TyOk tu) (hf : Fr (RefB w gu tu orow) w w1) : (Kd.int .u64).R 26 w1 w0.heap.size (fun _ => True) vws ws := by
  refine row_kept rfl hw hf (fun k o _ hk h => ?_)
  obtain ⟨cs, rfl⟩ := h
  exact refB_no ht.w26 (by decide)
theorem shadeS (hI : ShadeIs w0 w gh gg gp gc gm gl gs g3 G sv ws) (ht : TyOk tu) (hf : Fr (RefS w gu tu) w w1) : ShadeIs w0 w1 gh gg gp gc gm gl gs g3 G sv ws ∧ rowAt w1 gs = rowAt w gs :=
  ⟨hI.keep (ghostS hI.ghost ht hf).1 hf (fun _ => refS_no ht.w134 (by decide)) (fun j cs hj => refS_no ht.w26 (by decide)), (ghostS hI.ghost ht hf).2⟩
theorem shadeB (hI : ShadeIs w0 w gh gg gp gc gm gl gs g3 G sv ws) (ht : TyOk tu) (hf : Fr (RefB w gu tu (rowAt w gs)) w w1) : ShadeIs w0 w1 gh gg gp gc gm gl gs g3 G sv ws ∧ rowAt w1 gs = rowAt w gs :=
  ⟨hI.keep (ghostB hI.ghost ht hf).1 hf (fun _ => refB_no ht.w134 (by decide)) (fun j cs hj => refB_no ht.w26 (by decide)), (ghostB hI.ghost ht hf).2⟩
end
/-- What the reference's load answers: the word, whom it leads to, whether it is stale. -/
def l10V (U : RSt) (ws : List Int) (st ld : Int) (k : K3) (id : Int) : Value := if rst U k.1 k.2.1 id = true then .tuple #[.int .u64 (nextW ws (st + 1)), .int .i64 0, .bool true] else .tuple #[.int .u64 (oget U.W k), .int .i64 ld, .bool false]
def L10Post (w0 w : World) (gu : Nat) (tu : TypeId) (ex : List Value) (orow : Option Nat) (U : RSt) (ws : List Int) (fl st ld : Int) (k : K3) (id : Int) (e : Ending) (w' : World) : Prop :=
  e = .returned (l10V U ws st ld k id) ∧ RefAt w0 w' gu tu (.int .i64 fl :: .int .i64 (if rst U k.1 k.2.1 id = true then wrap64 (st + 1) else st) :: ex) orow U ∧ Below w0.heap.size w0 w' ∧ Fr (RefS w gu tu) w w'
set_option maxHeartbeats 8000000 in
set_option maxRecDepth 100000 in
theorem rload10_T {w0 w : World} {gu : Nat} {orow : Option Nat} {U : RSt} {fl st : Int} (pk ps pp id ld : Int) (vws : Value) (ws : List Int) (h : RefAt w0 w gu 88 (.int .i64 fl :: .int .i64 st :: vws :: []) orow U) (hw : (Kd.int .u64).R 26 w w0.heap.size (fun _ => True) vws ws) (hB : Below w0.heap.size w0 w) (hl : U.W.length ≤ 100000 ∧ U.L.length ≤ 100000 ∧ U.R.length ≤ 100000) (hld : oget U.L (pk, ps, pp) = ld) (hr : 0 ≤ ld ∧ ld < 9223372036854775808) (hs : 0 ≤ st ∧ st ≤ 100000) :
    Calls Try.prog 104 #[.pointer (some ⟨gu, 0, none⟩), .agg #[.int .i64 pk, .int .i64 ps, .int .i64 pp], .int .i64 id] w (L10Post w0 w gu 88 (vws :: []) orow U ws fl st ld (pk, ps, pp) id) := by
  unfold L10Post l10V
  show Calls Try.prog 104 _ w fun e w' => e = .returned (if rst U pk ps id = true then .tuple #[.int .u64 (nextW ws (st + 1)), .int .i64 0, .bool true] else .tuple #[.int .u64 (oget U.W (pk, ps, pp)), .int .i64 ld, .bool false]) ∧ RefAt w0 w' gu 88 (.int .i64 fl :: .int .i64 (if rst U pk ps id = true then wrap64 (st + 1) else st) :: vws :: []) orow U ∧ Below w0.heap.size w0 w' ∧ Fr (RefS w gu 88) w w'
  have hu23 := Try.underlying23
  have hu74 := Try.underlying74
  have hu76 := Try.underlying76
  have hu88 := Try.underlying88
  have HT := Aside0.mk (show TyOk 88 by unfold TyOk; decide)
  have X0 := Aside0.mk (blk_new w (.cells #[.int .i64 pk, .int .i64 ps, .int .i64 pp] 23))
  have XI := Aside0.mk (h.alloc (.cells #[.int .i64 pk, .int .i64 ps, .int .i64 pp] 23))
  have XW := Aside0.mk (below_alloc (Below.refl w.heap.size w) (.cells #[.int .i64 pk, .int .i64 ps, .int .i64 pp] 23))
  have XB := Aside0.mk (below_alloc hB (.cells #[.int .i64 pk, .int .i64 ps, .int .i64 pp] 23))
  have XR := Aside0.mk (Kd.R_below hw XW.out)
  have HL := Aside0.mk hl
  have LD := Aside0.mk hld
  have LR := Aside0.mk hr
  have HS := Aside0.mk hs
  obtain ⟨sr, hsr⟩ : ∃ z, rst U pk ps id = z := ⟨_, rfl⟩
  rw [hsr]
  have SR := Aside0.mk hsr
  obtain ⟨cu, hcu⟩ : ∃ z, oget U.W (pk, ps, pp) = z := ⟨_, rfl⟩
  rw [hcu]
  have CU := Aside0.mk hcu
  clear h hw hB hl hld hr hs hsr hcu
  go_enter Try.func104, Try.ntmps104
  go_wp2_with fail
  have D0 := Aside0.mk (blk_drew X0.out)
  have DI := Aside0.mk XI.out.drew
  have DB := Aside0.mk (below_drew XB.out)
  have DW := Aside0.mk (below_drew XW.out)
  have DR := Aside0.mk (Kd.R_below XR.out (below_drew (Below.refl _ _)))
  refine start_ (n := 13) (S := fun w' => w'.cell? ⟨w.heap.size, 0, none⟩ = some (.int .i64 pk) ∧ w'.cell? ⟨w.heap.size, 1, none⟩ = some (.int .i64 ps) ∧ w'.cell? ⟨w.heap.size, 2, none⟩ = some (.int .i64 pp)) (ds := [5]) (lb 13 0) (by kernel_rfl) rfl rfl ⟨(blk_cell D0.out 0).trans rfl, (blk_cell D0.out 1).trans rfl, (blk_cell D0.out 2).trans rfl⟩ (fun hHeld => ?_)
  refine pS (v := ?_) (a' := ?_) 0 (some 13) (lb 13 1) rfl rfl (by kernel_rfl) (fun _ _ _ h => h) (by rfl) ?_ ?_ ?_; rotate_left; (intro w'; go_simp; with_reducible rfl); rotate_left; (simp only [Act.put, List.setIfInBounds_toArray, List.set_cons_zero, List.set_cons_succ, i64_w, i32_w]; rfl)
  refine pS (v := ?_) (a' := ?_) 1 (some 14) (lb 13 3) rfl rfl (by kernel_rfl) (fun _ _ _ h => h) (by rfl) ?_ ?_ ?_; rotate_left; (intro w'; go_simp; with_reducible rfl); rotate_left; (simp only [Act.put, List.setIfInBounds_toArray, List.set_cons_zero, List.set_cons_succ, i64_w, i32_w]; rfl)
  refine pS (v := ?_) (a' := ?_) 2 (some 15) (lb 13 7) rfl rfl (by kernel_rfl) (fun _ _ _ h => h) (by rfl) ?_ ?_ ?_; rotate_left; (intro w'; go_simp; with_reducible rfl); rotate_left; (simp only [Act.put, List.setIfInBounds_toArray, List.set_cons_zero, List.set_cons_succ, i64_w, i32_w]; rfl)
  refine pS (v := ?_) (a' := ?_) 4 (some 17) (lb 13 23) rfl rfl (by kernel_rfl) (fun _ _ _ h => h) (by rfl) ?_ ?_ ?_; rotate_left; (intro w'; go_simp; with_reducible rfl); rotate_left; (simp only [Act.put, List.setIfInBounds_toArray, List.set_cons_zero, List.set_cons_succ, i64_w, i32_w]; rfl)
  refine tS (v := ?_) (a' := ?_) 3 (some 16) (lb 13 31) rfl rfl (by kernel_rfl) (fun _ _ _ h => h) hHeld (by rfl) ?_ ?_ ?_; rotate_left; (rintro w' ⟨s0, s1, s2⟩; go_simp; with_reducible rfl); rotate_left; (simp only [Act.put, List.setIfInBounds_toArray, List.set_cons_zero, List.set_cons_succ, i64_w, i32_w]; rfl)
  refine last_ (i := 5) (N := some 18) (lb 13 63) rfl rfl (by kernel_rfl) (by decide) (fun K hK => ?_)
  refine goes_ Try.func97 (by kernel_rfl) rfl #[.pointer (some ⟨gu, 0, none⟩), .agg #[.int .i64 pk, .int .i64 ps, .int .i64 pp], .int .i64 id] (by rfl) rfl rfl (by simp only [List.map_toArray, List.map_cons, List.map_nil]; rfl) ?_
  with_reducible refine (rload8_T pk ps pp id ld DI.out DB.out HT.out.three HL.out LD.out LR.out).mono ?_
  rintro e w2 ⟨rfl, h1_, h2_, h3_⟩
  refine ⟨_, rfl, ?_⟩
  rw [CU.out, show rst U ((pk, ps, pp) : K3).1 ((pk, ps, pp) : K3).2.1 id = sr from SR.out]
  rw [show rst U ((pk, ps, pp) : K3).1 ((pk, ps, pp) : K3).2.1 id = sr from SR.out] at h1_
  have YI := Aside0.mk h1_
  have YB := Aside0.mk h2_
  have YW := Aside0.mk (refS_after DW.out h3_)
  have YR := Aside0.mk (wordsS DR.out HT.out h3_)
  clear h1_ h2_ h3_ XI XB X0 XW XR
  refine hK.out _ _ ?_
  clear hK K
  refine norm_ (a' := ?_) ?_ ?_
  rotate_left
  · show Act.put _ (some 18) _ = _
    simp only [Act.put, List.setIfInBounds_toArray, List.set_cons_zero, List.set_cons_succ, i64_w, i32_w]
    rfl
  refine pS (v := ?_) (a' := ?_) 6 (some 12) (lb 13 127) rfl rfl (by kernel_rfl) (fun _ _ _ h => h) (by rfl) ?_ ?_ ?_; rotate_left; (intro w'; go_simp; with_reducible rfl); rotate_left; (simp only [Act.put, List.setIfInBounds_toArray, List.set_cons_zero, List.set_cons_succ, i64_w, i32_w]; rfl)
  refine pS (v := ?_) (a' := ?_) 7 (some 19) (lb 13 255) rfl rfl (by kernel_rfl) (fun _ _ _ h => h) (by rfl) ?_ ?_ ?_; rotate_left; (intro w'; go_simp; with_reducible rfl); rotate_left; (simp only [Act.put, List.setIfInBounds_toArray, List.set_cons_zero, List.set_cons_succ, i64_w, i32_w]; rfl)
  refine pS (v := ?_) (a' := ?_) 8 (some 20) (lb 13 511) rfl rfl (by kernel_rfl) (fun _ _ _ h => h) (by rfl) ?_ ?_ ?_; rotate_left; (intro w'; go_simp; with_reducible rfl); rotate_left; (simp only [Act.put, List.setIfInBounds_toArray, List.set_cons_zero, List.set_cons_succ, i64_w, i32_w]; rfl)
  refine pS (v := ?_) (a' := ?_) 9 (some 21) (lb 13 1023) rfl rfl (by kernel_rfl) (fun _ _ _ h => h) (by rfl) ?_ ?_ ?_; rotate_left; (intro w'; go_simp; with_reducible rfl); rotate_left; (simp only [Act.put, List.setIfInBounds_toArray, List.set_cons_zero, List.set_cons_succ, i64_w, i32_w]; rfl)
  refine pS (v := ?_) (a' := ?_) 10 (some 9) (lb 13 2047) rfl rfl (by kernel_rfl) (fun _ _ _ h => h) (by rfl) ?_ ?_ ?_; rotate_left; (intro w'; go_simp; with_reducible rfl); rotate_left; (simp only [Act.put, List.setIfInBounds_toArray, List.set_cons_zero, List.set_cons_succ, i64_w, i32_w]; rfl)
  refine pS (v := ?_) (a' := ?_) 11 (some 10) (lb 13 4095) rfl rfl (by kernel_rfl) (fun _ _ _ h => h) (by rfl) ?_ ?_ ?_; rotate_left; (intro w'; go_simp; with_reducible rfl); rotate_left; (simp only [Act.put, List.setIfInBounds_toArray, List.set_cons_zero, List.set_cons_succ, i64_w, i32_w]; rfl)
  refine pS (v := ?_) (a' := ?_) 12 (some 11) (lb 13 8191) rfl rfl (by kernel_rfl) (fun _ _ _ h => h) (by rfl) ?_ ?_ ?_; rotate_left; (intro w'; go_simp; with_reducible rfl); rotate_left; (simp only [Act.put, List.setIfInBounds_toArray, List.set_cons_zero, List.set_cons_succ, i64_w, i32_w]; rfl)
  refine done_ (by kernel_rfl) ?_
  cases sr with
  | false =>
    go_wp2_with fail
    refine bodyPost_ret (results_tmp3 rfl _ _ _) rfl ⟨?_, YI.out, YB.out, YW.out⟩
    rfl
  | true =>
    obtain ⟨A, c, ev, hcc, hC⟩ := Kd.R_reads YR.out
    subst ev
    have HCM := Aside0.mk (Kd.C_max hC)
    obtain ⟨vW, vL, vR, hbu⟩ := YI.out.blk
    have HBU := Aside0.mk hbu
    have c5 : w2.cell? ⟨gu, 5, none⟩ = some (.slice A ws.length c) := (blk_cell hbu 5).trans rfl
    have ew : wrap64 (st + 1) = st + 1 := by have := HS.out; unfold wrap64; omega
    have YA := Aside0.mk (show RefAt w0 w2 gu 88 (.int .i64 fl :: .int .i64 (wrap64 (st + 1)) :: .slice A ws.length c :: []) orow U from YI.out)
    have YE := Aside0.mk (show RefAt w0 w2 gu 88 (.int .i64 fl :: .int .i64 (st + 1) :: .slice A ws.length c :: []) orow U by rw [← ew]; exact YA.out)
    by_cases h0 : ws.length = 0
    · have t1 : ((ws.length : Int) == 0) = true := by rw [h0]; rfl
      have E := Aside0.mk (show nextW ws (st + 1) = 0 from if_pos h0)
      clear h0 hcc hC hbu
      go_wp2_with fail
      refine bodyPost_ret (results_tmp3 rfl _ _ _) rfl ⟨?_, by first | exact YE.out | exact YA.out, YB.out, YW.out⟩
      rw [E.out]
      rfl
    · have t1 : ((ws.length : Int) == 0) = false := beq_eq_false_iff_ne.mpr (by omega)
      obtain ⟨s1, hs1⟩ : ∃ z, wrap64 (st + 1) = z := ⟨_, rfl⟩
      have hs1' : s1 = st + 1 := hs1.symm.trans ew
      have HS1 := Aside0.mk hs1
      have e1 : wrap64 (s1 - 1) = st := by rw [hs1']; have := HS.out; unfold wrap64; omega
      have hpos : (0 : Int) < (ws.length : Int) := by omega
      have p0 : 0 ≤ st.tmod ws.length := by rw [Go.Proofs.Ytlpnggapndokeaa.U.tmod_pos HS.out.1]; exact Int.emod_nonneg _ (Int.ne_of_gt hpos)
      have q0 : st.tmod ws.length < ws.length := by rw [Go.Proofs.Ytlpnggapndokeaa.U.tmod_pos HS.out.1]; exact Int.emod_lt_of_pos _ hpos
      have e2 : wrap64 (st.tmod ws.length) = st.tmod ws.length := by have := HCM.out; unfold wrap64; omega
      obtain ⟨ad, hA, hx⟩ := Kd.at_int hC _ p0 q0
      subst hA
      have E := Aside0.mk (show nextW ws (st + 1) = rd ws (st.tmod ws.length) by
        unfold nextW
        rw [if_neg h0, show st + 1 - 1 = st by omega])
      have hx2 : w2.drew.cell? (ad.add (st.tmod ws.length).toNat) = some (.int .u64 (rd ws (st.tmod ws.length))) := hx
      have HD := Aside0.mk (blk_drew HBU.out)
      have p0b : decide (0 ≤ st.tmod ws.length) = true := decide_eq_true p0
      have nz2 : ¬ ws = [] := by intro e; rw [e] at h0; exact h0 rfl
      rw [if_pos rfl] at HD
      rw [hs1] at HD
      replace p0 := eq_true p0
      replace q0 := eq_true q0
      clear hx h0 hpos hs1' hcc hC hbu ew
      go_wp2_with fail
      refine start_ (n := 21) (S := fun w' => w'.cell? ⟨gu, 5, none⟩ = some (.slice (some ad) ws.length c) ∧ w'.cell? ⟨gu, 4, none⟩ = some (.int .i64 s1) ∧ w'.cell? (ad.add (st.tmod ws.length).toNat) = some (.int .u64 (rd ws (st.tmod ws.length)))) (ds := []) (lb 21 0) (by kernel_rfl) rfl rfl ⟨(blk_cell HD.out 5).trans rfl, (blk_cell HD.out 4).trans rfl, hx2⟩ (fun hHeld => ?_)
      refine pS (v := ?_) (a' := ?_) 0 (some 32) (lb 21 1) rfl rfl (by kernel_rfl) (fun _ _ _ h => h) (by rfl) ?_ ?_ ?_; rotate_left; (intro w'; go_simp; with_reducible rfl); rotate_left; (simp only [Act.put, List.setIfInBounds_toArray, List.set_cons_zero, List.set_cons_succ, i64_w, i32_w]; rfl)
      refine pS (v := ?_) (a' := ?_) 1 (some 33) (lb 21 3) rfl rfl (by kernel_rfl) (fun _ _ _ h => h) (by rfl) ?_ ?_ ?_; rotate_left; (intro w'; go_simp; with_reducible rfl); rotate_left; (simp only [Act.put, List.setIfInBounds_toArray, List.set_cons_zero, List.set_cons_succ, i64_w, i32_w]; rfl)
      refine pS (v := ?_) (a' := ?_) 2 (some 34) (lb 21 7) rfl rfl (by kernel_rfl) (fun _ _ _ h => h) (by rfl) ?_ ?_ ?_; rotate_left; (intro w'; go_simp; with_reducible rfl); rotate_left; (simp only [Act.put, List.setIfInBounds_toArray, List.set_cons_zero, List.set_cons_succ, i64_w, i32_w]; rfl)
      refine pS (v := ?_) (a' := ?_) 4 (some 36) (lb 21 23) rfl rfl (by kernel_rfl) (fun _ _ _ h => h) (by rfl) ?_ ?_ ?_; rotate_left; (intro w'; go_simp; with_reducible rfl); rotate_left; (simp only [Act.put, List.setIfInBounds_toArray, List.set_cons_zero, List.set_cons_succ, i64_w, i32_w]; rfl)
      refine pS (v := ?_) (a' := ?_) 5 (some 37) (lb 21 55) rfl rfl (by kernel_rfl) (fun _ _ _ h => h) (by rfl) ?_ ?_ ?_; rotate_left; (intro w'; go_simp; with_reducible rfl); rotate_left; (simp only [Act.put, List.setIfInBounds_toArray, List.set_cons_zero, List.set_cons_succ, i64_w, i32_w]; rfl)
      refine pS (v := ?_) (a' := ?_) 6 (some 38) (lb 21 119) rfl rfl (by kernel_rfl) (fun _ _ _ h => h) (by rfl) ?_ ?_ ?_; rotate_left; (intro w'; go_simp; with_reducible rfl); rotate_left; (simp only [Act.put, List.setIfInBounds_toArray, List.set_cons_zero, List.set_cons_succ, i64_w, i32_w]; rfl)
      refine pS (v := ?_) (a' := ?_) 7 (some 39) (lb 21 247) rfl rfl (by kernel_rfl) (fun _ _ _ h => h) (by rfl) ?_ ?_ ?_; rotate_left; (intro w'; go_simp; with_reducible rfl); rotate_left; (simp only [Act.put, List.setIfInBounds_toArray, List.set_cons_zero, List.set_cons_succ, i64_w, i32_w]; rfl)
      refine pS (v := ?_) (a' := ?_) 10 (some 42) (lb 21 1271) rfl rfl (by kernel_rfl) (fun _ _ _ h => h) (by rfl) ?_ ?_ ?_; rotate_left; (intro w'; go_simp; with_reducible rfl); rotate_left; (simp only [Act.put, List.setIfInBounds_toArray, List.set_cons_zero, List.set_cons_succ, i64_w, i32_w]; rfl)
      refine pS (v := ?_) (a' := ?_) 11 (some 43) (lb 21 3319) rfl rfl (by kernel_rfl) (fun _ _ _ h => h) (by rfl) ?_ ?_ ?_; rotate_left; (intro w'; go_simp; with_reducible rfl); rotate_left; (simp only [Act.put, List.setIfInBounds_toArray, List.set_cons_zero, List.set_cons_succ, i64_w, i32_w]; rfl)
      refine pS (v := ?_) (a' := ?_) 12 (some 44) (lb 21 7415) rfl rfl (by kernel_rfl) (fun _ _ _ h => h) (by rfl) ?_ ?_ ?_; rotate_left; (intro w'; go_simp; with_reducible rfl); rotate_left; (simp only [Act.put, List.setIfInBounds_toArray, List.set_cons_zero, List.set_cons_succ, i64_w, i32_w]; rfl)
      refine tS (v := ?_) (a' := ?_) 3 (some 35) (lb 21 7423) rfl rfl (by kernel_rfl) (fun _ _ _ h => h) hHeld (by rfl) ?_ ?_ ?_; rotate_left; (rintro w' ⟨s0, s1, s2⟩; go_simp; with_reducible rfl); rotate_left; (simp only [Act.put, List.setIfInBounds_toArray, List.set_cons_zero, List.set_cons_succ, i64_w, i32_w]; rfl)
      refine tS (v := ?_) (a' := ?_) 8 (some 40) (lb 21 7679) rfl rfl (by kernel_rfl) (fun _ _ _ h => h) hHeld (by rfl) ?_ ?_ ?_; rotate_left; (rintro w' ⟨s0, s1, s2⟩; go_simp; with_reducible rfl); rotate_left; (simp only [Act.put, List.setIfInBounds_toArray, List.set_cons_zero, List.set_cons_succ, i64_w, i32_w]; rfl)
      refine pS (v := ?_) (a' := ?_) 9 (some 41) (lb 21 8191) rfl rfl (by kernel_rfl) (fun _ _ _ h => h) (by rfl) ?_ ?_ ?_; rotate_left; (intro w'; go_simp; with_reducible rfl); rotate_left; (simp only [Act.put, List.setIfInBounds_toArray, List.set_cons_zero, List.set_cons_succ, i64_w, i32_w]; rfl)
      refine tS (v := ?_) (a' := ?_) 13 (some 45) (lb 21 16383) rfl rfl (by kernel_rfl) (fun _ _ _ h => h) hHeld (by rfl) ?_ ?_ ?_; rotate_left; (rintro w' ⟨s0, s1, s2⟩; go_simp; with_reducible rfl); rotate_left; (simp only [Act.put, List.setIfInBounds_toArray, List.set_cons_zero, List.set_cons_succ, i64_w, i32_w]; rfl)
      refine pS (v := ?_) (a' := ?_) 14 (some 46) (lb 21 32767) rfl rfl (by kernel_rfl) (fun _ _ _ h => h) (by rfl) ?_ ?_ ?_; rotate_left; (intro w'; go_simp; with_reducible rfl); rotate_left; (simp only [Act.put, List.setIfInBounds_toArray, List.set_cons_zero, List.set_cons_succ, i64_w, i32_w]; rfl)
      refine pS (v := ?_) (a' := ?_) 15 (some 47) (lb 21 65535) rfl rfl (by kernel_rfl) (fun _ _ _ h => h) (by rfl) ?_ ?_ ?_; rotate_left; (intro w'; go_simp; with_reducible rfl); rotate_left; (simp only [Act.put, List.setIfInBounds_toArray, List.set_cons_zero, List.set_cons_succ, i64_w, i32_w]; rfl)
      refine pS (v := ?_) (a' := ?_) 16 (some 48) (lb 21 131071) rfl rfl (by kernel_rfl) (fun _ _ _ h => h) (by rfl) ?_ ?_ ?_; rotate_left; (intro w'; go_simp; with_reducible rfl); rotate_left; (simp only [Act.put, List.setIfInBounds_toArray, List.set_cons_zero, List.set_cons_succ, i64_w, i32_w]; rfl)
      refine tS (v := ?_) (a' := ?_) 17 (some 49) (lb 21 262143) rfl rfl (by kernel_rfl) (fun _ _ _ h => h) hHeld (by rfl) ?_ ?_ ?_; rotate_left; (rintro w' ⟨s0, s1, s2⟩; go_simp; with_reducible rfl); rotate_left; (simp only [Act.put, List.setIfInBounds_toArray, List.set_cons_zero, List.set_cons_succ, i64_w, i32_w]; rfl)
      refine pS (v := ?_) (a' := ?_) 18 (some 6) (lb 21 524287) rfl rfl (by kernel_rfl) (fun _ _ _ h => h) (by rfl) ?_ ?_ ?_; rotate_left; (intro w'; go_simp; with_reducible rfl); rotate_left; (simp only [Act.put, List.setIfInBounds_toArray, List.set_cons_zero, List.set_cons_succ, i64_w, i32_w]; rfl)
      refine pS (v := ?_) (a' := ?_) 19 (some 7) (lb 21 1048575) rfl rfl (by kernel_rfl) (fun _ _ _ h => h) (by rfl) ?_ ?_ ?_; rotate_left; (intro w'; go_simp; with_reducible rfl); rotate_left; (simp only [Act.put, List.setIfInBounds_toArray, List.set_cons_zero, List.set_cons_succ, i64_w, i32_w]; rfl)
      refine pS (v := ?_) (a' := ?_) 20 (some 8) (lb 21 2097151) rfl rfl (by kernel_rfl) (fun _ _ _ h => h) (by rfl) ?_ ?_ ?_; rotate_left; (intro w'; go_simp; with_reducible rfl); rotate_left; (simp only [Act.put, List.setIfInBounds_toArray, List.set_cons_zero, List.set_cons_succ, i64_w, i32_w]; rfl)
      refine done_ (by kernel_rfl) ?_
      go_wp2_with fail
      refine bodyPost_ret (results_tmp3 rfl _ _ _) rfl ⟨?_, by first | exact YE.out.drew | exact YA.out.drew | (rw [← HS1.out]; exact YA.out.drew), below_drew YB.out, YW.out.drew⟩
      rw [E.out]
      rfl
end Go.Proofs.Ytlpnggapndokeaa.PIdealKeeps

namespace Go.Proofs.Ytlpnggapndokeaa.PIdealKeeps
open Go Go.RowKit Go.Proofs.YtlpnggapndokeaaW.PrintWords Go.Proofs.YtlpnggapndokeaaW.PrintLast Go.Proofs.YtlpnggapndokeaaW.PrintMore Go.Proofs.Ytlpnggapndokeaa.M Go.Proofs.Ytlpnggapndokeaa.U
attribute [local go_sem] max2_int min2_int max_two min_two max_three min_three max_four min_four
set_option linter.unusedVariables false
set_option linter.unusedSimpArgs false
/-- What an act leaves. -/
def D10Post (w0 : World) (gh gg gp gc gm gl gs g3 gu : Nat) (sv vws : Value) (ws : List Int) (n : Nat) (e : Ending) (w' : World) : Prop :=
  e = .returned (.bool true) ∧ ∃ G' U', ShadeIs w0 w' gh gg gp gc gm gl gs g3 G' sv ws ∧ RefAt w0 w' gu 88 (.int .i64 G'.faults :: .int .i64 G'.stale :: vws :: []) (rowAt w' gs) U' ∧ Rel8 G' U' ∧ Below w0.heap.size w0 w' ∧ Lok U' (n + 1) ∧ StOk G' (n + 1) ∧ (Kd.int .u64).R 26 w' w0.heap.size (fun _ => True) vws ws
set_option maxHeartbeats 16000000 in
set_option maxRecDepth 100000 in
theorem does10_T (gh gg gp gc gm gl gs g3 gu : Nat) (sv vws : Value) (ws : List Int) (G : GSt) (U : RSt) (kd pk ps pp id ox oy : Int) (ost : Bool) (vx vy : Int) (vst : Bool) (n : Nat) (w0 w : World) (hI : ShadeIs w0 w gh gg gp gc gm gl gs g3 G sv ws) (hQ : RefAt w0 w gu 88 (.int .i64 G.faults :: .int .i64 G.stale :: vws :: []) (rowAt w gs) U) (hw : (Kd.int .u64).R 26 w w0.heap.size (fun _ => True) vws ws) (hB : Below w0.heap.size w0 w) (hR : Rel8 G U) (hL : Lok U n) (hn : n ≤ 10000) (hS : StOk G n) (hy : 0 ≤ vy ∧ vy < 9223372036854775808) :
    Calls Try.prog 56 #[.pointer (some ⟨gh, 0, none⟩), .pointer (some ⟨gu, 0, none⟩), .agg #[.int .i64 kd, .int .i64 pk, .int .i64 ps, .int .i64 pp, .int .i64 id, .int .u64 ox, .int .i64 oy, .bool ost, .int .u64 vx, .int .i64 vy, .bool vst]] w (D10Post w0 gh gg gp gc gm gl gs g3 gu sv vws ws n) := by
  have hu25 := Try.underlying25
  have hu28 := Try.underlying28
  have hu23 := Try.underlying23
  have hu89 := Try.underlying89
  have hu74 := Try.underlying74
  have hu76 := Try.underlying76
  have e28 := eq28
  have hu88 := Try.underlying88
  have LS := Aside0.mk (show 0 ≤ G.stale ∧ G.stale ≤ 100000 by unfold StOk at hS; omega)
  have HT := Aside0.mk (show TyOk 88 by unfold TyOk; decide)
  have HO := Aside0.mk hI.ghost.plain.cells.once
  have HR := Aside0.mk hR
  have HY := Aside0.mk hy
  have HL := Aside0.mk hL
  have HN := Aside0.mk hn
  have HS := Aside0.mk hS
  have LL := Aside0.mk (show U.W.length ≤ 100000 ∧ U.L.length ≤ 100000 ∧ U.R.length ≤ 100000 by have := hL.1; have := hL.2.1; have := hL.2.2; omega)
  have LA := Aside0.mk (show G.row.length ≤ 100000 by rw [hR.row]; exact LL.out.2.2)
  obtain ⟨cu, hcu⟩ : ∃ z, oget U.W (pk, ps, pp) = z := ⟨_, rfl⟩
  obtain ⟨ld, hld⟩ : ∃ z, oget U.L (pk, ps, pp) = z := ⟨_, rfl⟩
  have CU := Aside0.mk hcu
  have LD := Aside0.mk hld
  have LR := Aside0.mk (show 0 ≤ ld ∧ ld < 9223372036854775808 by rw [← hld]; exact hR.rng _)
  have CW := Aside0.mk (show getw G.p.m (pk, ps, pp) = cu by rw [hR.words]; exact hcu)
  have CL := Aside0.mk (show (get G.leads (pk, ps, pp)).getD 0 = ld by rw [hR.leads]; exact hld)
  have X1 := Aside0.mk (blk_alloc (blk_new w (.cells #[.int .i64 kd, .int .i64 pk, .int .i64 ps, .int .i64 pp, .int .i64 id, .int .u64 ox, .int .i64 oy, .bool ost, .int .u64 vx, .int .i64 vy, .bool vst] 89)) (.cells #[.int .i64 pk, .int .i64 ps, .int .i64 pp] 23))
  have P1 := Aside0.mk (blk_new2 w (.cells #[.int .i64 kd, .int .i64 pk, .int .i64 ps, .int .i64 pp, .int .i64 id, .int .u64 ox, .int .i64 oy, .bool ost, .int .u64 vx, .int .i64 vy, .bool vst] 89) (.cells #[.int .i64 pk, .int .i64 ps, .int .i64 pp] 23))
  have BB := below_alloc (below_alloc (Below.refl w.heap.size w) (.cells #[.int .i64 kd, .int .i64 pk, .int .i64 ps, .int .i64 pp, .int .i64 id, .int .u64 ox, .int .i64 oy, .bool ost, .int .u64 vx, .int .i64 vy, .bool vst] 89)) (.cells #[.int .i64 pk, .int .i64 ps, .int .i64 pp] 23)
  have M1 := Aside0.mk (hI.below BB)
  have Q1 := Aside0.mk (refMove (hI.ghost.rowSame (fun cs hc => blk_below hc BB)) (hQ.below BB))
  have W1 := Aside0.mk (Kd.R_below hw BB)
  have B1 := Aside0.mk (below_alloc (below_alloc hB (.cells #[.int .i64 kd, .int .i64 pk, .int .i64 ps, .int .i64 pp, .int .i64 id, .int .u64 ox, .int .i64 oy, .bool ost, .int .u64 vx, .int .i64 vy, .bool vst] 89)) (.cells #[.int .i64 pk, .int .i64 ps, .int .i64 pp] 23))
  clear hI hQ hB hR hL hn hS hy hcu hld BB hw
  go_enter Try.func56, Try.ntmps56
  by_cases k1 : kd = 1
  · subst k1
    have b0 : ((w.alloc (.cells #[.int .i64 1, .int .i64 pk, .int .i64 ps, .int .i64 pp, .int .i64 id, .int .u64 ox, .int .i64 oy, .bool ost, .int .u64 vx, .int .i64 vy, .bool vst] 89)).alloc (.cells #[.int .i64 pk, .int .i64 ps, .int .i64 pp] 23)).cell? ⟨w.heap.size, 0, none⟩ = some (.int .i64 1) := (blk_cell X1.out 0).trans rfl
    have b4 : ((w.alloc (.cells #[.int .i64 1, .int .i64 pk, .int .i64 ps, .int .i64 pp, .int .i64 id, .int .u64 ox, .int .i64 oy, .bool ost, .int .u64 vx, .int .i64 vy, .bool vst] 89)).alloc (.cells #[.int .i64 pk, .int .i64 ps, .int .i64 pp] 23)).cell? ⟨w.heap.size, 4, none⟩ = some (.int .i64 id) := (blk_cell X1.out 4).trans rfl
    have p0 : ((w.alloc (.cells #[.int .i64 1, .int .i64 pk, .int .i64 ps, .int .i64 pp, .int .i64 id, .int .u64 ox, .int .i64 oy, .bool ost, .int .u64 vx, .int .i64 vy, .bool vst] 89)).alloc (.cells #[.int .i64 pk, .int .i64 ps, .int .i64 pp] 23)).cell? ⟨(w.heap.size + 1), 0, none⟩ = some (.int .i64 pk) := (blk_cell P1.out 0).trans rfl
    have p1 : ((w.alloc (.cells #[.int .i64 1, .int .i64 pk, .int .i64 ps, .int .i64 pp, .int .i64 id, .int .u64 ox, .int .i64 oy, .bool ost, .int .u64 vx, .int .i64 vy, .bool vst] 89)).alloc (.cells #[.int .i64 pk, .int .i64 ps, .int .i64 pp] 23)).cell? ⟨(w.heap.size + 1), 1, none⟩ = some (.int .i64 ps) := (blk_cell P1.out 1).trans rfl
    have p2 : ((w.alloc (.cells #[.int .i64 1, .int .i64 pk, .int .i64 ps, .int .i64 pp, .int .i64 id, .int .u64 ox, .int .i64 oy, .bool ost, .int .u64 vx, .int .i64 vy, .bool vst] 89)).alloc (.cells #[.int .i64 pk, .int .i64 ps, .int .i64 pp] 23)).cell? ⟨(w.heap.size + 1), 2, none⟩ = some (.int .i64 pp) := (blk_cell P1.out 2).trans rfl
    go_wp2_with fail
    clear b0 b4 p0 p1 p2
    generalize ((w.alloc (.cells #[.int .i64 1, .int .i64 pk, .int .i64 ps, .int .i64 pp, .int .i64 id, .int .u64 ox, .int .i64 oy, .bool ost, .int .u64 vx, .int .i64 vy, .bool vst] 89)).alloc (.cells #[.int .i64 pk, .int .i64 ps, .int .i64 pp] 23)) = w1 at *
    refine (rload10_T pk ps pp id ld vws ws Q1.out W1.out B1.out LL.out LD.out LR.out LS.out).mono ?_
    rintro e w2 ⟨rfl, h1_, h2_, h3_⟩
    have M2 := Aside0.mk (shadeS M1.out HT.out h3_).1
    have Q2 := Aside0.mk (refMove (shadeS M1.out HT.out h3_).2 h1_)
    have B2 := Aside0.mk h2_
    have X2 := Aside0.mk (refS_stays h3_ X1.out (by decide) (by decide))
    have P2 := Aside0.mk (refS_stays h3_ P1.out (by decide) (by decide))
    have W2 := Aside0.mk (wordsS W1.out HT.out h3_)
    clear h1_ h2_ h3_
    obtain ⟨a, ha⟩ : ∃ z, nextW ws (G.stale + 1) = z := ⟨_, rfl⟩
    have HA := Aside0.mk ha
    clear ha
    rcases Bool.eq_false_or_eq_true (rst U pk ps id) with hst | hst
    · have L1 : l10V U ws G.stale ld (pk, ps, pp) id = .tuple #[.int .u64 a, .int .i64 0, .bool true] := (if_pos hst).trans (by rw [HA.out])
      have EV := Aside0.mk (show sloadV G ws (pk, ps, pp) id = .agg #[.int .u64 a, .int .i64 0, .bool true] by rw [sload_stale (show staleR G ((pk, ps, pp) : K3).1 ((pk, ps, pp) : K3).2.1 id = true by rw [HR.out.stale]; exact hst), HA.out])
      rw [L1]
      clear L1 hst
      have b1 : w2.cell? ⟨w.heap.size, 1, none⟩ = some (.int .i64 pk) := (blk_cell X2.out 1).trans rfl
      have b2 : w2.cell? ⟨w.heap.size, 2, none⟩ = some (.int .i64 ps) := (blk_cell X2.out 2).trans rfl
      have b3 : w2.cell? ⟨w.heap.size, 3, none⟩ = some (.int .i64 pp) := (blk_cell X2.out 3).trans rfl
      have b4 : w2.cell? ⟨w.heap.size, 4, none⟩ = some (.int .i64 id) := (blk_cell X2.out 4).trans rfl
      go_wp2_with fail
      clear b1 b2 b3 b4
      refine (sload_T gh gg gp gc gm gl gs g3 G sv ws pk ps pp id w0 _ M2.out B2.out LS.out).mono ?_
      rintro e w3 ⟨rfl, h1_, h2_, h3_⟩
      rw [EV.out]
      have M3 := Aside0.mk h1_
      have Q3 := Aside0.mk (refT M2.out.ghost Q2.out HT.out h3_)
      have B3 := Aside0.mk h2_
      have W3 := Aside0.mk (wordsT M2.out.ghost W2.out h3_)
      clear h1_ h2_ h3_
      have te : ∀ d W, (Op.equalIn (d + 2) 28 (.agg #[.int .u64 a, .int .i64 0, .bool true]) (.agg #[.int .u64 a, .int .i64 0, .bool true])).run Try.prog W = .ok true W := fun d W => by rw [eq28]; simp
      clear e28
      go_wp2_with fail
      go_ret
      exact ⟨rfl, gloadG G (pk, ps, pp) id, U, M3.out, (by rw [HR.out.loadS]; exact Q3.out), HR.out.load _ _, B3.out, lok_same HL.out, stOk_load HS.out HN.out _ _, W3.out⟩
    · have L1 : l10V U ws G.stale ld (pk, ps, pp) id = .tuple #[.int .u64 cu, .int .i64 ld, .bool false] := (if_neg (by rw [show rst U ((pk, ps, pp) : K3).1 ((pk, ps, pp) : K3).2.1 id = false from hst]; decide)).trans (by rw [CU.out])
      have EV := Aside0.mk (show sloadV G ws (pk, ps, pp) id = .agg #[.int .u64 cu, .int .i64 ld, .bool false] by rw [sload_fresh (show staleR G ((pk, ps, pp) : K3).1 ((pk, ps, pp) : K3).2.1 id = false by rw [HR.out.stale]; exact hst), CW.out, CL.out])
      rw [L1]
      clear L1 hst
      have b1 : w2.cell? ⟨w.heap.size, 1, none⟩ = some (.int .i64 pk) := (blk_cell X2.out 1).trans rfl
      have b2 : w2.cell? ⟨w.heap.size, 2, none⟩ = some (.int .i64 ps) := (blk_cell X2.out 2).trans rfl
      have b3 : w2.cell? ⟨w.heap.size, 3, none⟩ = some (.int .i64 pp) := (blk_cell X2.out 3).trans rfl
      have b4 : w2.cell? ⟨w.heap.size, 4, none⟩ = some (.int .i64 id) := (blk_cell X2.out 4).trans rfl
      go_wp2_with fail
      clear b1 b2 b3 b4
      refine (sload_T gh gg gp gc gm gl gs g3 G sv ws pk ps pp id w0 _ M2.out B2.out LS.out).mono ?_
      rintro e w3 ⟨rfl, h1_, h2_, h3_⟩
      rw [EV.out]
      have M3 := Aside0.mk h1_
      have Q3 := Aside0.mk (refT M2.out.ghost Q2.out HT.out h3_)
      have B3 := Aside0.mk h2_
      have W3 := Aside0.mk (wordsT M2.out.ghost W2.out h3_)
      clear h1_ h2_ h3_
      have te : ∀ d W, (Op.equalIn (d + 2) 28 (.agg #[.int .u64 cu, .int .i64 ld, .bool false]) (.agg #[.int .u64 cu, .int .i64 ld, .bool false])).run Try.prog W = .ok true W := fun d W => by rw [eq28]; simp
      clear e28
      go_wp2_with fail
      go_ret
      exact ⟨rfl, gloadG G (pk, ps, pp) id, U, M3.out, (by rw [HR.out.loadS]; exact Q3.out), HR.out.load _ _, B3.out, lok_same HL.out, stOk_load HS.out HN.out _ _, W3.out⟩
  have u1 : (kd == 1) = false := beq_eq_false_iff_ne.mpr k1
  clear k1
  by_cases k2 : kd = 2
  · subst k2
    have b0 : ((w.alloc (.cells #[.int .i64 2, .int .i64 pk, .int .i64 ps, .int .i64 pp, .int .i64 id, .int .u64 ox, .int .i64 oy, .bool ost, .int .u64 vx, .int .i64 vy, .bool vst] 89)).alloc (.cells #[.int .i64 pk, .int .i64 ps, .int .i64 pp] 23)).cell? ⟨w.heap.size, 0, none⟩ = some (.int .i64 2) := (blk_cell X1.out 0).trans rfl
    have b1 : ((w.alloc (.cells #[.int .i64 2, .int .i64 pk, .int .i64 ps, .int .i64 pp, .int .i64 id, .int .u64 ox, .int .i64 oy, .bool ost, .int .u64 vx, .int .i64 vy, .bool vst] 89)).alloc (.cells #[.int .i64 pk, .int .i64 ps, .int .i64 pp] 23)).cell? ⟨w.heap.size, 1, none⟩ = some (.int .i64 pk) := (blk_cell X1.out 1).trans rfl
    have b2 : ((w.alloc (.cells #[.int .i64 2, .int .i64 pk, .int .i64 ps, .int .i64 pp, .int .i64 id, .int .u64 ox, .int .i64 oy, .bool ost, .int .u64 vx, .int .i64 vy, .bool vst] 89)).alloc (.cells #[.int .i64 pk, .int .i64 ps, .int .i64 pp] 23)).cell? ⟨w.heap.size, 2, none⟩ = some (.int .i64 ps) := (blk_cell X1.out 2).trans rfl
    have b3 : ((w.alloc (.cells #[.int .i64 2, .int .i64 pk, .int .i64 ps, .int .i64 pp, .int .i64 id, .int .u64 ox, .int .i64 oy, .bool ost, .int .u64 vx, .int .i64 vy, .bool vst] 89)).alloc (.cells #[.int .i64 pk, .int .i64 ps, .int .i64 pp] 23)).cell? ⟨w.heap.size, 3, none⟩ = some (.int .i64 pp) := (blk_cell X1.out 3).trans rfl
    have b4 : ((w.alloc (.cells #[.int .i64 2, .int .i64 pk, .int .i64 ps, .int .i64 pp, .int .i64 id, .int .u64 ox, .int .i64 oy, .bool ost, .int .u64 vx, .int .i64 vy, .bool vst] 89)).alloc (.cells #[.int .i64 pk, .int .i64 ps, .int .i64 pp] 23)).cell? ⟨w.heap.size, 4, none⟩ = some (.int .i64 id) := (blk_cell X1.out 4).trans rfl
    have b8 : ((w.alloc (.cells #[.int .i64 2, .int .i64 pk, .int .i64 ps, .int .i64 pp, .int .i64 id, .int .u64 ox, .int .i64 oy, .bool ost, .int .u64 vx, .int .i64 vy, .bool vst] 89)).alloc (.cells #[.int .i64 pk, .int .i64 ps, .int .i64 pp] 23)).cell? ⟨w.heap.size, 8, none⟩ = some (.int .u64 vx) := (blk_cell X1.out 8).trans rfl
    have b9 : ((w.alloc (.cells #[.int .i64 2, .int .i64 pk, .int .i64 ps, .int .i64 pp, .int .i64 id, .int .u64 ox, .int .i64 oy, .bool ost, .int .u64 vx, .int .i64 vy, .bool vst] 89)).alloc (.cells #[.int .i64 pk, .int .i64 ps, .int .i64 pp] 23)).cell? ⟨w.heap.size, 9, none⟩ = some (.int .i64 vy) := (blk_cell X1.out 9).trans rfl
    have b10 : ((w.alloc (.cells #[.int .i64 2, .int .i64 pk, .int .i64 ps, .int .i64 pp, .int .i64 id, .int .u64 ox, .int .i64 oy, .bool ost, .int .u64 vx, .int .i64 vy, .bool vst] 89)).alloc (.cells #[.int .i64 pk, .int .i64 ps, .int .i64 pp] 23)).cell? ⟨w.heap.size, 10, none⟩ = some (.bool vst) := (blk_cell X1.out 10).trans rfl
    go_wp2_with fail
    clear b0 b1 b2 b3 b4 b8 b9 b10
    generalize ((w.alloc (.cells #[.int .i64 2, .int .i64 pk, .int .i64 ps, .int .i64 pp, .int .i64 id, .int .u64 ox, .int .i64 oy, .bool ost, .int .u64 vx, .int .i64 vy, .bool vst] 89)).alloc (.cells #[.int .i64 pk, .int .i64 ps, .int .i64 pp] 23)) = w1 at *
    refine (sstore_T gh gg gp gc gm gl gs g3 G sv ws pk ps pp id vx vy vst w0 _ M1.out B1.out).mono ?_
    rintro e w2 ⟨rfl, h1_, h2_, h3_⟩
    have M2 := Aside0.mk h1_
    have Q2 := Aside0.mk (refT M1.out.ghost Q1.out HT.out h3_)
    have B2 := Aside0.mk h2_
    have X2 := Aside0.mk (M1.out.ghost.stayT h3_ X1.out (by decide) (by decide))
    have P2 := Aside0.mk (M1.out.ghost.stayT h3_ P1.out (by decide) (by decide))
    have W2 := Aside0.mk (wordsT M1.out.ghost W1.out h3_)
    clear h1_ h2_ h3_
    have b4 : w2.cell? ⟨w.heap.size, 4, none⟩ = some (.int .i64 id) := (blk_cell X2.out 4).trans rfl
    have b8 : w2.cell? ⟨w.heap.size, 8, none⟩ = some (.int .u64 vx) := (blk_cell X2.out 8).trans rfl
    have b9 : w2.cell? ⟨w.heap.size, 9, none⟩ = some (.int .i64 vy) := (blk_cell X2.out 9).trans rfl
    have b10 : w2.cell? ⟨w.heap.size, 10, none⟩ = some (.bool vst) := (blk_cell X2.out 10).trans rfl
    have p0 : w2.cell? ⟨(w.heap.size + 1), 0, none⟩ = some (.int .i64 pk) := (blk_cell P2.out 0).trans rfl
    have p1 : w2.cell? ⟨(w.heap.size + 1), 1, none⟩ = some (.int .i64 ps) := (blk_cell P2.out 1).trans rfl
    have p2 : w2.cell? ⟨(w.heap.size + 1), 2, none⟩ = some (.int .i64 pp) := (blk_cell P2.out 2).trans rfl
    go_wp2_with fail
    clear b4 b8 b9 b10 p0 p1 p2
    refine (rstore7_T pk ps pp id vx vy vst Q2.out B2.out HT.out.three LL.out).mono ?_
    rintro e w3 ⟨rfl, h1_, h2_, h3_⟩
    have M3 := Aside0.mk (shadeS M2.out HT.out h3_).1
    have Q3 := Aside0.mk (refMove (shadeS M2.out HT.out h3_).2 h1_)
    have B3 := Aside0.mk h2_
    have W3 := Aside0.mk (wordsS W2.out HT.out h3_)
    clear h1_ h2_ h3_
    go_wp2_with fail
    go_ret
    exact ⟨rfl, gstoreG G (pk, ps, pp) id vx vy vst, stU U (pk, ps, pp) vx vy, M3.out, (by rw [HR.out.storeF]; exact Q3.out), HR.out.store HO.out _ _ _ _ _ HY.out, B3.out, lok_set HL.out _ _ _, stOk_same HS.out rfl, W3.out⟩
  have u2 : (kd == 2) = false := beq_eq_false_iff_ne.mpr k2
  clear k2
  by_cases k3 : kd = 3
  · subst k3
    obtain ⟨wz, hwz⟩ : ∃ z, z = ((w.alloc (.cells #[.int .i64 3, .int .i64 pk, .int .i64 ps, .int .i64 pp, .int .i64 id, .int .u64 ox, .int .i64 oy, .bool ost, .int .u64 vx, .int .i64 vy, .bool vst] 89)).alloc (.cells #[.int .i64 pk, .int .i64 ps, .int .i64 pp] 23)) := ⟨_, rfl⟩
    rw [← hwz] at M1 Q1 B1 X1 P1 W1
    have hb := below_alloc (Below.refl wz.heap.size wz) (.cells #[.int .u64 ox, .int .i64 oy, .bool ost] 28)
    have GZ := Aside0.mk (show wz.heap.size = w.heap.size + 1 + 1 by rw [hwz]; simp)
    have O2 := Aside0.mk (show (wz.alloc (.cells #[.int .u64 ox, .int .i64 oy, .bool ost] 28)).heap[w.heap.size + 1 + 1]? = some (.cells #[.int .u64 ox, .int .i64 oy, .bool ost] 28) from by rw [← GZ.out]; exact blk_new wz (.cells #[.int .u64 ox, .int .i64 oy, .bool ost] 28))
    have HB2 := Aside0.mk hb
    have M2 := Aside0.mk (M1.out.below hb)
    have Q2 := Aside0.mk (refMove (M1.out.ghost.rowSame (fun cs hc => blk_below hc hb)) (Q1.out.below hb))
    have B2 := Aside0.mk (below_step B1.out hb)
    have X2 := Aside0.mk (blk_below X1.out hb)
    have P2 := Aside0.mk (blk_below P1.out hb)
    have W2 := Aside0.mk (Kd.R_below W1.out hb)
    clear hb
    have b0 : (wz.alloc (.cells #[.int .u64 ox, .int .i64 oy, .bool ost] 28)).cell? ⟨w.heap.size, 0, none⟩ = some (.int .i64 3) := (blk_cell X2.out 0).trans rfl
    have b1 : (wz.alloc (.cells #[.int .u64 ox, .int .i64 oy, .bool ost] 28)).cell? ⟨w.heap.size, 1, none⟩ = some (.int .i64 pk) := (blk_cell X2.out 1).trans rfl
    have b2 : (wz.alloc (.cells #[.int .u64 ox, .int .i64 oy, .bool ost] 28)).cell? ⟨w.heap.size, 2, none⟩ = some (.int .i64 ps) := (blk_cell X2.out 2).trans rfl
    have b3 : (wz.alloc (.cells #[.int .u64 ox, .int .i64 oy, .bool ost] 28)).cell? ⟨w.heap.size, 3, none⟩ = some (.int .i64 pp) := (blk_cell X2.out 3).trans rfl
    have b4 : (wz.alloc (.cells #[.int .u64 ox, .int .i64 oy, .bool ost] 28)).cell? ⟨w.heap.size, 4, none⟩ = some (.int .i64 id) := (blk_cell X2.out 4).trans rfl
    have b5 : (wz.alloc (.cells #[.int .u64 ox, .int .i64 oy, .bool ost] 28)).cell? ⟨w.heap.size, 5, none⟩ = some (.int .u64 ox) := (blk_cell X2.out 5).trans rfl
    have b6 : (wz.alloc (.cells #[.int .u64 ox, .int .i64 oy, .bool ost] 28)).cell? ⟨w.heap.size, 6, none⟩ = some (.int .i64 oy) := (blk_cell X2.out 6).trans rfl
    have b7 : (wz.alloc (.cells #[.int .u64 ox, .int .i64 oy, .bool ost] 28)).cell? ⟨w.heap.size, 7, none⟩ = some (.bool ost) := (blk_cell X2.out 7).trans rfl
    have b8 : (wz.alloc (.cells #[.int .u64 ox, .int .i64 oy, .bool ost] 28)).cell? ⟨w.heap.size, 8, none⟩ = some (.int .u64 vx) := (blk_cell X2.out 8).trans rfl
    have b9 : (wz.alloc (.cells #[.int .u64 ox, .int .i64 oy, .bool ost] 28)).cell? ⟨w.heap.size, 9, none⟩ = some (.int .i64 vy) := (blk_cell X2.out 9).trans rfl
    have b10 : (wz.alloc (.cells #[.int .u64 ox, .int .i64 oy, .bool ost] 28)).cell? ⟨w.heap.size, 10, none⟩ = some (.bool vst) := (blk_cell X2.out 10).trans rfl
    have o0 : (wz.alloc (.cells #[.int .u64 ox, .int .i64 oy, .bool ost] 28)).cell? ⟨w.heap.size + 1 + 1, 0, none⟩ = some (.int .u64 ox) := (blk_cell O2.out 0).trans rfl
    have o1 : (wz.alloc (.cells #[.int .u64 ox, .int .i64 oy, .bool ost] 28)).cell? ⟨w.heap.size + 1 + 1, 1, none⟩ = some (.int .i64 oy) := (blk_cell O2.out 1).trans rfl
    have o2 : (wz.alloc (.cells #[.int .u64 ox, .int .i64 oy, .bool ost] 28)).cell? ⟨w.heap.size + 1 + 1, 2, none⟩ = some (.bool ost) := (blk_cell O2.out 2).trans rfl
    have hx0 : wz.cell? ⟨w.heap.size, 0, none⟩ = some (.int .i64 3) := (blk_cell X1.out 0).trans rfl
    have hx5 : wz.cell? ⟨w.heap.size, 5, none⟩ = some (.int .u64 ox) := (blk_cell X1.out 5).trans rfl
    have hx6 : wz.cell? ⟨w.heap.size, 6, none⟩ = some (.int .i64 oy) := (blk_cell X1.out 6).trans rfl
    have hx7 : wz.cell? ⟨w.heap.size, 7, none⟩ = some (.bool ost) := (blk_cell X1.out 7).trans rfl
    rw [hwz] at b0 b1 b2 b3 b4 b5 b6 b7 b8 b9 b10 o0 o1 o2 hx0 hx5 hx6 hx7
    go_wp2_with fail
    clear b0 b1 b2 b3 b4 b5 b6 b7 b8 b9 b10 o0 o1 o2 hx0 hx5 hx6 hx7
    rw [← hwz]
    clear hwz
    generalize wz.alloc (.cells #[.int .u64 ox, .int .i64 oy, .bool ost] 28) = w2 at *
    generalize w.heap.size + 1 + 1 = go at *
    have Od := Aside0.mk (blk_drew O2.out)
    have Xd := Aside0.mk (blk_drew X2.out)
    have Pd := Aside0.mk (blk_drew P2.out)
    have Md := Aside0.mk M2.out.drew
    have Qd := Aside0.mk (refMove (M2.out.ghost.rowSame (fun cs hc => blk_drew hc)) Q2.out.drew)
    have Bd := Aside0.mk (below_drew B2.out)
    have Wd := Aside0.mk (Kd.R_below W2.out (below_drew (Below.refl _ _)))
    have SR := Aside0.mk (show cswapR G.p (pk, ps, pp) ox = decide (cu = ox) by rw [HR.out.swapR, CU.out])
    obtain ⟨ans, hans⟩ : ∃ z, decide (cu = ox) = z := ⟨_, rfl⟩
    rw [hans] at SR
    have AN := Aside0.mk (show decide (oget U.W (pk, ps, pp) = ox) = ans by rw [CU.out]; exact hans)
    clear hans
    have te : (ans == ans) = true := beq_self_eq_true ans
    refine start_ (n := 28) (S := fun w' => w'.cell? ⟨w.heap.size, 1, none⟩ = some (.int .i64 pk) ∧ w'.cell? ⟨w.heap.size, 2, none⟩ = some (.int .i64 ps) ∧ w'.cell? ⟨w.heap.size, 3, none⟩ = some (.int .i64 pp) ∧ w'.cell? ⟨w.heap.size, 4, none⟩ = some (.int .i64 id) ∧ w'.cell? ⟨w.heap.size, 8, none⟩ = some (.int .u64 vx) ∧ w'.cell? ⟨w.heap.size, 9, none⟩ = some (.int .i64 vy) ∧ w'.cell? ⟨w.heap.size, 10, none⟩ = some (.bool vst) ∧ w'.cell? ⟨go, 0, none⟩ = some (.int .u64 ox) ∧ w'.cell? ⟨go, 1, none⟩ = some (.int .i64 oy) ∧ w'.cell? ⟨go, 2, none⟩ = some (.bool ost) ∧ w'.cell? ⟨(w.heap.size + 1), 0, none⟩ = some (.int .i64 pk) ∧ w'.cell? ⟨(w.heap.size + 1), 1, none⟩ = some (.int .i64 ps) ∧ w'.cell? ⟨(w.heap.size + 1), 2, none⟩ = some (.int .i64 pp)) (ds := [25]) (lb 28 0) (by kernel_rfl) rfl rfl ⟨(blk_cell Xd.out 1).trans rfl, (blk_cell Xd.out 2).trans rfl, (blk_cell Xd.out 3).trans rfl, (blk_cell Xd.out 4).trans rfl, (blk_cell Xd.out 8).trans rfl, (blk_cell Xd.out 9).trans rfl, (blk_cell Xd.out 10).trans rfl, (blk_cell Od.out 0).trans rfl, (blk_cell Od.out 1).trans rfl, (blk_cell Od.out 2).trans rfl, (blk_cell Pd.out 0).trans rfl, (blk_cell Pd.out 1).trans rfl, (blk_cell Pd.out 2).trans rfl⟩ (fun hHeld => ?_)
    refine pS (v := ?_) (a' := ?_) 0 (some 80) (lb 28 1) rfl rfl (by kernel_rfl) (fun _ _ _ h => h) (by rfl) ?_ ?_ ?_; rotate_left; (intro w'; go_simp; with_reducible rfl); rotate_left; (simp only [Act.put, List.setIfInBounds_toArray, List.set_cons_zero, List.set_cons_succ, i64_w, i32_w]; rfl)
    refine pS (v := ?_) (a' := ?_) 1 (some 81) (lb 28 3) rfl rfl (by kernel_rfl) (fun _ _ _ h => h) (by rfl) ?_ ?_ ?_; rotate_left; (intro w'; go_simp; with_reducible rfl); rotate_left; (simp only [Act.put, List.setIfInBounds_toArray, List.set_cons_zero, List.set_cons_succ, i64_w, i32_w]; rfl)
    refine pS (v := ?_) (a' := ?_) 4 (some 84) (lb 28 19) rfl rfl (by kernel_rfl) (fun _ _ _ h => h) (by rfl) ?_ ?_ ?_; rotate_left; (intro w'; go_simp; with_reducible rfl); rotate_left; (simp only [Act.put, List.setIfInBounds_toArray, List.set_cons_zero, List.set_cons_succ, i64_w, i32_w]; rfl)
    refine pS (v := ?_) (a' := ?_) 7 (some 87) (lb 28 147) rfl rfl (by kernel_rfl) (fun _ _ _ h => h) (by rfl) ?_ ?_ ?_; rotate_left; (intro w'; go_simp; with_reducible rfl); rotate_left; (simp only [Act.put, List.setIfInBounds_toArray, List.set_cons_zero, List.set_cons_succ, i64_w, i32_w]; rfl)
    refine pS (v := ?_) (a' := ?_) 9 (some 89) (lb 28 659) rfl rfl (by kernel_rfl) (fun _ _ _ h => h) (by rfl) ?_ ?_ ?_; rotate_left; (intro w'; go_simp; with_reducible rfl); rotate_left; (simp only [Act.put, List.setIfInBounds_toArray, List.set_cons_zero, List.set_cons_succ, i64_w, i32_w]; rfl)
    refine pS (v := ?_) (a' := ?_) 10 (some 90) (lb 28 1683) rfl rfl (by kernel_rfl) (fun _ _ _ h => h) (by rfl) ?_ ?_ ?_; rotate_left; (intro w'; go_simp; with_reducible rfl); rotate_left; (simp only [Act.put, List.setIfInBounds_toArray, List.set_cons_zero, List.set_cons_succ, i64_w, i32_w]; rfl)
    refine pS (v := ?_) (a' := ?_) 12 (some 92) (lb 28 5779) rfl rfl (by kernel_rfl) (fun _ _ _ h => h) (by rfl) ?_ ?_ ?_; rotate_left; (intro w'; go_simp; with_reducible rfl); rotate_left; (simp only [Act.put, List.setIfInBounds_toArray, List.set_cons_zero, List.set_cons_succ, i64_w, i32_w]; rfl)
    refine pS (v := ?_) (a' := ?_) 14 (some 94) (lb 28 22163) rfl rfl (by kernel_rfl) (fun _ _ _ h => h) (by rfl) ?_ ?_ ?_; rotate_left; (intro w'; go_simp; with_reducible rfl); rotate_left; (simp only [Act.put, List.setIfInBounds_toArray, List.set_cons_zero, List.set_cons_succ, i64_w, i32_w]; rfl)
    refine pS (v := ?_) (a' := ?_) 16 (some 96) (lb 28 87699) rfl rfl (by kernel_rfl) (fun _ _ _ h => h) (by rfl) ?_ ?_ ?_; rotate_left; (intro w'; go_simp; with_reducible rfl); rotate_left; (simp only [Act.put, List.setIfInBounds_toArray, List.set_cons_zero, List.set_cons_succ, i64_w, i32_w]; rfl)
    refine pS (v := ?_) (a' := ?_) 17 (some 97) (lb 28 218771) rfl rfl (by kernel_rfl) (fun _ _ _ h => h) (by rfl) ?_ ?_ ?_; rotate_left; (intro w'; go_simp; with_reducible rfl); rotate_left; (simp only [Act.put, List.setIfInBounds_toArray, List.set_cons_zero, List.set_cons_succ, i64_w, i32_w]; rfl)
    refine pS (v := ?_) (a' := ?_) 19 (some 99) (lb 28 743059) rfl rfl (by kernel_rfl) (fun _ _ _ h => h) (by rfl) ?_ ?_ ?_; rotate_left; (intro w'; go_simp; with_reducible rfl); rotate_left; (simp only [Act.put, List.setIfInBounds_toArray, List.set_cons_zero, List.set_cons_succ, i64_w, i32_w]; rfl)
    refine pS (v := ?_) (a' := ?_) 20 (some 100) (lb 28 1791635) rfl rfl (by kernel_rfl) (fun _ _ _ h => h) (by rfl) ?_ ?_ ?_; rotate_left; (intro w'; go_simp; with_reducible rfl); rotate_left; (simp only [Act.put, List.setIfInBounds_toArray, List.set_cons_zero, List.set_cons_succ, i64_w, i32_w]; rfl)
    refine pS (v := ?_) (a' := ?_) 22 (some 102) (lb 28 5985939) rfl rfl (by kernel_rfl) (fun _ _ _ h => h) (by rfl) ?_ ?_ ?_; rotate_left; (intro w'; go_simp; with_reducible rfl); rotate_left; (simp only [Act.put, List.setIfInBounds_toArray, List.set_cons_zero, List.set_cons_succ, i64_w, i32_w]; rfl)
    refine pS (v := ?_) (a' := ?_) 23 (some 103) (lb 28 14374547) rfl rfl (by kernel_rfl) (fun _ _ _ h => h) (by rfl) ?_ ?_ ?_; rotate_left; (intro w'; go_simp; with_reducible rfl); rotate_left; (simp only [Act.put, List.setIfInBounds_toArray, List.set_cons_zero, List.set_cons_succ, i64_w, i32_w]; rfl)
    refine tS (v := ?_) (a' := ?_) 2 (some 82) (lb 28 14374551) rfl rfl (by kernel_rfl) (fun _ _ _ h => h) hHeld (by rfl) ?_ ?_ ?_; rotate_left; (rintro w' ⟨s0, s1, s2, s3, s4, s5, s6, s7, s8, s9, s10, s11, s12⟩; go_simp; with_reducible rfl); rotate_left; (simp only [Act.put, List.setIfInBounds_toArray, List.set_cons_zero, List.set_cons_succ, i64_w, i32_w]; rfl)
    refine tS (v := ?_) (a' := ?_) 3 (some 83) (lb 28 14374559) rfl rfl (by kernel_rfl) (fun _ _ _ h => h) hHeld (by rfl) ?_ ?_ ?_; rotate_left; (rintro w' ⟨s0, s1, s2, s3, s4, s5, s6, s7, s8, s9, s10, s11, s12⟩; go_simp; with_reducible rfl); rotate_left; (simp only [Act.put, List.setIfInBounds_toArray, List.set_cons_zero, List.set_cons_succ, i64_w, i32_w]; rfl)
    refine tS (v := ?_) (a' := ?_) 5 (some 85) (lb 28 14374591) rfl rfl (by kernel_rfl) (fun _ _ _ h => h) hHeld (by rfl) ?_ ?_ ?_; rotate_left; (rintro w' ⟨s0, s1, s2, s3, s4, s5, s6, s7, s8, s9, s10, s11, s12⟩; go_simp; with_reducible rfl); rotate_left; (simp only [Act.put, List.setIfInBounds_toArray, List.set_cons_zero, List.set_cons_succ, i64_w, i32_w]; rfl)
    refine tS (v := ?_) (a' := ?_) 8 (some 88) (lb 28 14374847) rfl rfl (by kernel_rfl) (fun _ _ _ h => h) hHeld (by rfl) ?_ ?_ ?_; rotate_left; (rintro w' ⟨s0, s1, s2, s3, s4, s5, s6, s7, s8, s9, s10, s11, s12⟩; go_simp; with_reducible rfl); rotate_left; (simp only [Act.put, List.setIfInBounds_toArray, List.set_cons_zero, List.set_cons_succ, i64_w, i32_w]; rfl)
    refine tS (v := ?_) (a' := ?_) 11 (some 91) (lb 28 14376895) rfl rfl (by kernel_rfl) (fun _ _ _ h => h) hHeld (by rfl) ?_ ?_ ?_; rotate_left; (rintro w' ⟨s0, s1, s2, s3, s4, s5, s6, s7, s8, s9, s10, s11, s12⟩; go_simp; with_reducible rfl); rotate_left; (simp only [Act.put, List.setIfInBounds_toArray, List.set_cons_zero, List.set_cons_succ, i64_w, i32_w]; rfl)
    refine tS (v := ?_) (a' := ?_) 13 (some 93) (lb 28 14385087) rfl rfl (by kernel_rfl) (fun _ _ _ h => h) hHeld (by rfl) ?_ ?_ ?_; rotate_left; (rintro w' ⟨s0, s1, s2, s3, s4, s5, s6, s7, s8, s9, s10, s11, s12⟩; go_simp; with_reducible rfl); rotate_left; (simp only [Act.put, List.setIfInBounds_toArray, List.set_cons_zero, List.set_cons_succ, i64_w, i32_w]; rfl)
    refine tS (v := ?_) (a' := ?_) 15 (some 95) (lb 28 14417855) rfl rfl (by kernel_rfl) (fun _ _ _ h => h) hHeld (by rfl) ?_ ?_ ?_; rotate_left; (rintro w' ⟨s0, s1, s2, s3, s4, s5, s6, s7, s8, s9, s10, s11, s12⟩; go_simp; with_reducible rfl); rotate_left; (simp only [Act.put, List.setIfInBounds_toArray, List.set_cons_zero, List.set_cons_succ, i64_w, i32_w]; rfl)
    refine tS (v := ?_) (a' := ?_) 18 (some 98) (lb 28 14679999) rfl rfl (by kernel_rfl) (fun _ _ _ h => h) hHeld (by rfl) ?_ ?_ ?_; rotate_left; (rintro w' ⟨s0, s1, s2, s3, s4, s5, s6, s7, s8, s9, s10, s11, s12⟩; go_simp; with_reducible rfl); rotate_left; (simp only [Act.put, List.setIfInBounds_toArray, List.set_cons_zero, List.set_cons_succ, i64_w, i32_w]; rfl)
    refine tS (v := ?_) (a' := ?_) 21 (some 101) (lb 28 16777151) rfl rfl (by kernel_rfl) (fun _ _ _ h => h) hHeld (by rfl) ?_ ?_ ?_; rotate_left; (rintro w' ⟨s0, s1, s2, s3, s4, s5, s6, s7, s8, s9, s10, s11, s12⟩; go_simp; with_reducible rfl); rotate_left; (simp only [Act.put, List.setIfInBounds_toArray, List.set_cons_zero, List.set_cons_succ, i64_w, i32_w]; rfl)
    refine tS (v := ?_) (a' := ?_) 24 (some 104) (lb 28 33554367) rfl rfl (by kernel_rfl) (fun _ _ _ h => h) hHeld (by rfl) ?_ ?_ ?_; rotate_left; (rintro w' ⟨s0, s1, s2, s3, s4, s5, s6, s7, s8, s9, s10, s11, s12⟩; go_simp; with_reducible rfl); rotate_left; (simp only [Act.put, List.setIfInBounds_toArray, List.set_cons_zero, List.set_cons_succ, i64_w, i32_w]; rfl)
    refine one_ (i := 6) (N := some 86) (lb 28 33554431) rfl rfl (by kernel_rfl) (by decide) (fun K hK => ?_)
    refine goes_ Try.func61 (by kernel_rfl) rfl #[.pointer (some ⟨gh, 0, none⟩), Value.agg #[.int .i64 pk, .int .i64 ps, .int .i64 pp, .int .i64 id], .agg #[.int .u64 ox, .int .i64 oy, .bool ost], Value.agg #[.int .u64 vx, .int .i64 vy, .bool vst]] (by rfl) rfl rfl (by simp only [List.map_toArray, List.map_cons, List.map_nil]; rfl) ?_
    with_reducible refine (sswap_T gh gg gp gc gm gl gs g3 G sv ws pk ps pp id ox oy vx vy ost vst w0 _ Md.out Bd.out).mono ?_
    rintro e w5 ⟨rfl, h1_, h2_, h3_⟩
    refine ⟨_, rfl, ?_⟩
    rw [SR.out]
    have O5 := Aside0.mk (Md.out.ghost.stayT h3_ Od.out (by decide) (by decide))
    have M5 := Aside0.mk h1_
    have Q5 := Aside0.mk (refT Md.out.ghost Qd.out HT.out h3_)
    have B5 := Aside0.mk h2_
    have X5 := Aside0.mk (Md.out.ghost.stayT h3_ Xd.out (by decide) (by decide))
    have P5 := Aside0.mk (Md.out.ghost.stayT h3_ Pd.out (by decide) (by decide))
    have W5 := Aside0.mk (wordsT Md.out.ghost Wd.out h3_)
    clear h1_ h2_ h3_
    refine hK.out _ _ ⟨(blk_cell X5.out 1).trans rfl, (blk_cell X5.out 2).trans rfl, (blk_cell X5.out 3).trans rfl, (blk_cell X5.out 4).trans rfl, (blk_cell X5.out 8).trans rfl, (blk_cell X5.out 9).trans rfl, (blk_cell X5.out 10).trans rfl, (blk_cell O5.out 0).trans rfl, (blk_cell O5.out 1).trans rfl, (blk_cell O5.out 2).trans rfl, (blk_cell P5.out 0).trans rfl, (blk_cell P5.out 1).trans rfl, (blk_cell P5.out 2).trans rfl⟩ (fun hHeld => ?_)
    clear hK K
    refine norm_ (a' := ?_) ?_ ?_
    rotate_left
    · show Act.put _ (some 86) _ = _
      simp only [Act.put, List.setIfInBounds_toArray, List.set_cons_zero, List.set_cons_succ, i64_w, i32_w]
      rfl
    refine last_ (i := 25) (N := some 105) (lb 28 67108863) rfl rfl (by kernel_rfl) (by decide) (fun K hK => ?_)
    refine goes_ Try.func99 (by kernel_rfl) rfl #[.pointer (some ⟨gu, 0, none⟩), Value.agg #[.int .i64 pk, .int .i64 ps, .int .i64 pp], .int .i64 id, .int .u64 ox, .bool ost, .int .u64 vx, .int .i64 vy, .bool vst] (by rfl) rfl rfl (by simp only [List.map_toArray, List.map_cons, List.map_nil]; rfl) ?_
    with_reducible refine (rswap7_T pk ps pp id ox vx vy ost vst Q5.out B5.out HT.out.three LL.out).mono ?_
    rintro e w6 ⟨rfl, h1_, h2_, h3_⟩
    refine ⟨_, rfl, ?_⟩
    rw [AN.out]
    have M6 := Aside0.mk (shadeS M5.out HT.out h3_).1
    have Q6 := Aside0.mk (refMove (shadeS M5.out HT.out h3_).2 h1_)
    have B6 := Aside0.mk h2_
    have W6 := Aside0.mk (wordsS W5.out HT.out h3_)
    clear h1_ h2_ h3_
    refine hK.out _ _ ?_
    clear hK K
    refine norm_ (a' := ?_) ?_ ?_
    rotate_left
    · show Act.put _ (some 105) _ = _
      simp only [Act.put, List.setIfInBounds_toArray, List.set_cons_zero, List.set_cons_succ, i64_w, i32_w]
      rfl
    refine pS (v := ?_) (a' := ?_) 26 (some 106) (lb 28 134217727) rfl rfl (by kernel_rfl) (fun _ _ _ h => h) (by rfl) ?_ ?_ ?_; rotate_left; (intro w'; go_simp; with_reducible rfl); rotate_left; (simp only [Act.put, List.setIfInBounds_toArray, List.set_cons_zero, List.set_cons_succ, i64_w, i32_w]; rfl)
    refine pS (v := ?_) (a' := ?_) 27 (some 6) (lb 28 268435455) rfl rfl (by kernel_rfl) (fun _ _ _ h => h) (by rfl) ?_ ?_ ?_; rotate_left; (intro w'; go_simp; with_reducible rfl); rotate_left; (simp only [Act.put, List.setIfInBounds_toArray, List.set_cons_zero, List.set_cons_succ, i64_w, i32_w]; rfl)
    refine done_ (by kernel_rfl) ?_
    go_wp2_with fail
    go_ret
    exact ⟨rfl, gswapG G (pk, ps, pp) id ox vx vy (ost || vst), (if oget U.W (pk, ps, pp) = ox then stU U (pk, ps, pp) vx vy else U), M6.out, (by rw [HR.out.swapF, swapS, Bool.or_comm]; exact Q6.out), HR.out.swap HO.out _ _ _ _ _ _ HY.out, B6.out, (by split; exact lok_set HL.out _ _ _; exact lok_same HL.out), stOk_same HS.out (swapS _ _ _ _ _ _), W6.out⟩
  have u3 : (kd == 3) = false := beq_eq_false_iff_ne.mpr k3
  clear k3
  by_cases k4 : kd = 4
  · subst k4
    obtain ⟨wz, hwz⟩ : ∃ z, z = ((w.alloc (.cells #[.int .i64 4, .int .i64 pk, .int .i64 ps, .int .i64 pp, .int .i64 id, .int .u64 ox, .int .i64 oy, .bool ost, .int .u64 vx, .int .i64 vy, .bool vst] 89)).alloc (.cells #[.int .i64 pk, .int .i64 ps, .int .i64 pp] 23)) := ⟨_, rfl⟩
    rw [← hwz] at M1 Q1 B1 X1 P1 W1
    have hb := below_alloc (Below.refl wz.heap.size wz) (.cells #[.int .u64 ox, .int .i64 oy, .bool ost] 28)
    have GZ := Aside0.mk (show wz.heap.size = w.heap.size + 1 + 1 by rw [hwz]; simp)
    have O2 := Aside0.mk (show (wz.alloc (.cells #[.int .u64 ox, .int .i64 oy, .bool ost] 28)).heap[w.heap.size + 1 + 1]? = some (.cells #[.int .u64 ox, .int .i64 oy, .bool ost] 28) from by rw [← GZ.out]; exact blk_new wz (.cells #[.int .u64 ox, .int .i64 oy, .bool ost] 28))
    have HB2 := Aside0.mk hb
    have M2 := Aside0.mk (M1.out.below hb)
    have Q2 := Aside0.mk (refMove (M1.out.ghost.rowSame (fun cs hc => blk_below hc hb)) (Q1.out.below hb))
    have B2 := Aside0.mk (below_step B1.out hb)
    have X2 := Aside0.mk (blk_below X1.out hb)
    have P2 := Aside0.mk (blk_below P1.out hb)
    have W2 := Aside0.mk (Kd.R_below W1.out hb)
    clear hb
    have b0 : (wz.alloc (.cells #[.int .u64 ox, .int .i64 oy, .bool ost] 28)).cell? ⟨w.heap.size, 0, none⟩ = some (.int .i64 4) := (blk_cell X2.out 0).trans rfl
    have b1 : (wz.alloc (.cells #[.int .u64 ox, .int .i64 oy, .bool ost] 28)).cell? ⟨w.heap.size, 1, none⟩ = some (.int .i64 pk) := (blk_cell X2.out 1).trans rfl
    have b2 : (wz.alloc (.cells #[.int .u64 ox, .int .i64 oy, .bool ost] 28)).cell? ⟨w.heap.size, 2, none⟩ = some (.int .i64 ps) := (blk_cell X2.out 2).trans rfl
    have b3 : (wz.alloc (.cells #[.int .u64 ox, .int .i64 oy, .bool ost] 28)).cell? ⟨w.heap.size, 3, none⟩ = some (.int .i64 pp) := (blk_cell X2.out 3).trans rfl
    have b4 : (wz.alloc (.cells #[.int .u64 ox, .int .i64 oy, .bool ost] 28)).cell? ⟨w.heap.size, 4, none⟩ = some (.int .i64 id) := (blk_cell X2.out 4).trans rfl
    have b5 : (wz.alloc (.cells #[.int .u64 ox, .int .i64 oy, .bool ost] 28)).cell? ⟨w.heap.size, 5, none⟩ = some (.int .u64 ox) := (blk_cell X2.out 5).trans rfl
    have b6 : (wz.alloc (.cells #[.int .u64 ox, .int .i64 oy, .bool ost] 28)).cell? ⟨w.heap.size, 6, none⟩ = some (.int .i64 oy) := (blk_cell X2.out 6).trans rfl
    have b7 : (wz.alloc (.cells #[.int .u64 ox, .int .i64 oy, .bool ost] 28)).cell? ⟨w.heap.size, 7, none⟩ = some (.bool ost) := (blk_cell X2.out 7).trans rfl
    have b8 : (wz.alloc (.cells #[.int .u64 ox, .int .i64 oy, .bool ost] 28)).cell? ⟨w.heap.size, 8, none⟩ = some (.int .u64 vx) := (blk_cell X2.out 8).trans rfl
    have b9 : (wz.alloc (.cells #[.int .u64 ox, .int .i64 oy, .bool ost] 28)).cell? ⟨w.heap.size, 9, none⟩ = some (.int .i64 vy) := (blk_cell X2.out 9).trans rfl
    have b10 : (wz.alloc (.cells #[.int .u64 ox, .int .i64 oy, .bool ost] 28)).cell? ⟨w.heap.size, 10, none⟩ = some (.bool vst) := (blk_cell X2.out 10).trans rfl
    have o0 : (wz.alloc (.cells #[.int .u64 ox, .int .i64 oy, .bool ost] 28)).cell? ⟨w.heap.size + 1 + 1, 0, none⟩ = some (.int .u64 ox) := (blk_cell O2.out 0).trans rfl
    have o1 : (wz.alloc (.cells #[.int .u64 ox, .int .i64 oy, .bool ost] 28)).cell? ⟨w.heap.size + 1 + 1, 1, none⟩ = some (.int .i64 oy) := (blk_cell O2.out 1).trans rfl
    have o2 : (wz.alloc (.cells #[.int .u64 ox, .int .i64 oy, .bool ost] 28)).cell? ⟨w.heap.size + 1 + 1, 2, none⟩ = some (.bool ost) := (blk_cell O2.out 2).trans rfl
    have hx0 : wz.cell? ⟨w.heap.size, 0, none⟩ = some (.int .i64 4) := (blk_cell X1.out 0).trans rfl
    have hx5 : wz.cell? ⟨w.heap.size, 5, none⟩ = some (.int .u64 ox) := (blk_cell X1.out 5).trans rfl
    have hx6 : wz.cell? ⟨w.heap.size, 6, none⟩ = some (.int .i64 oy) := (blk_cell X1.out 6).trans rfl
    have hx7 : wz.cell? ⟨w.heap.size, 7, none⟩ = some (.bool ost) := (blk_cell X1.out 7).trans rfl
    rw [hwz] at b0 b1 b2 b3 b4 b5 b6 b7 b8 b9 b10 o0 o1 o2 hx0 hx5 hx6 hx7
    go_wp2_with fail
    clear b0 b1 b2 b3 b4 b5 b6 b7 b8 b9 b10 o0 o1 o2 hx0 hx5 hx6 hx7
    rw [← hwz]
    clear hwz
    generalize wz.alloc (.cells #[.int .u64 ox, .int .i64 oy, .bool ost] 28) = w2 at *
    generalize w.heap.size + 1 + 1 = go at *
    have Xd := Aside0.mk (blk_drew X2.out)
    have Pd := Aside0.mk (blk_drew P2.out)
    have Od := Aside0.mk (blk_drew O2.out)
    have Md := Aside0.mk M2.out.drew
    have Qd := Aside0.mk (refMove (M2.out.ghost.rowSame (fun cs hc => blk_drew hc)) Q2.out.drew)
    have Bd := Aside0.mk (below_drew B2.out)
    have Wd := Aside0.mk (Kd.R_below W2.out (below_drew (Below.refl _ _)))
    have HBd := Aside0.mk (below_drew HB2.out)
    refine start_ (n := 7) (S := fun w' => w'.cell? ⟨(w.heap.size + 1), 0, none⟩ = some (.int .i64 pk) ∧ w'.cell? ⟨(w.heap.size + 1), 1, none⟩ = some (.int .i64 ps) ∧ w'.cell? ⟨(w.heap.size + 1), 2, none⟩ = some (.int .i64 pp)) (ds := [4, 6]) (lb 7 0) (by kernel_rfl) rfl rfl ⟨(blk_cell Pd.out 0).trans rfl, (blk_cell Pd.out 1).trans rfl, (blk_cell Pd.out 2).trans rfl⟩ (fun hHeld => ?_)
    refine pS (v := ?_) (a' := ?_) 0 (some 74) (lb 7 1) rfl rfl (by kernel_rfl) (fun _ _ _ h => h) (by rfl) ?_ ?_ ?_; rotate_left; (intro w'; go_simp; with_reducible rfl); rotate_left; (simp only [Act.put, List.setIfInBounds_toArray, List.set_cons_zero, List.set_cons_succ, i64_w, i32_w]; rfl)
    refine pS (v := ?_) (a' := ?_) 1 (some 75) (lb 7 3) rfl rfl (by kernel_rfl) (fun _ _ _ h => h) (by rfl) ?_ ?_ ?_; rotate_left; (intro w'; go_simp; with_reducible rfl); rotate_left; (simp only [Act.put, List.setIfInBounds_toArray, List.set_cons_zero, List.set_cons_succ, i64_w, i32_w]; rfl)
    refine pS (v := ?_) (a' := ?_) 2 (some 76) (lb 7 7) rfl rfl (by kernel_rfl) (fun _ _ _ h => h) (by rfl) ?_ ?_ ?_; rotate_left; (intro w'; go_simp; with_reducible rfl); rotate_left; (simp only [Act.put, List.setIfInBounds_toArray, List.set_cons_zero, List.set_cons_succ, i64_w, i32_w]; rfl)
    refine tS (v := ?_) (a' := ?_) 3 (some 77) (lb 7 15) rfl rfl (by kernel_rfl) (fun _ _ _ h => h) hHeld (by rfl) ?_ ?_ ?_; rotate_left; (rintro w' ⟨s0, s1, s2⟩; go_simp; with_reducible rfl); rotate_left; (simp only [Act.put, List.setIfInBounds_toArray, List.set_cons_zero, List.set_cons_succ, i64_w, i32_w]; rfl)
    refine last_ (i := 4) (N := some 78) (lb 7 31) rfl rfl (by kernel_rfl) (by decide) (fun K hK => ?_)
    refine goes_ Try.func83 (by kernel_rfl) rfl #[.pointer (some ⟨gu, 0, none⟩), Value.agg #[.int .i64 pk, .int .i64 ps, .int .i64 pp]] (by rfl) rfl rfl (by simp only [List.map_toArray, List.map_cons, List.map_nil]; rfl) ?_
    with_reducible refine (rgetW_T pk ps pp Qd.out LL.out.1).mono ?_
    rintro e w3 ⟨rfl, hb⟩
    refine ⟨_, rfl, ?_⟩
    rw [CU.out]
    have O3 := Aside0.mk (blk_below Od.out hb)
    have HB3 := Aside0.mk (below_step HBd.out hb)
    have M3 := Aside0.mk (Md.out.below hb)
    have Q3 := Aside0.mk (refMove (Md.out.ghost.rowSame (fun cs hc => blk_below hc hb)) (Qd.out.below hb))
    have B3 := Aside0.mk (below_step Bd.out hb)
    have X3 := Aside0.mk (blk_below Xd.out hb)
    have P3 := Aside0.mk (blk_below Pd.out hb)
    have W3 := Aside0.mk (Kd.R_below Wd.out hb)
    clear hb
    have co : w3.cell? ⟨go, 0, none⟩ = some (.int .u64 ox) := (blk_cell O3.out 0).trans rfl
    have fo : w3.frozen? ⟨go, 0, none⟩ = false := blk_frozen O3.out 0
    refine hK.out _ _ ?_
    clear hK K
    refine norm_ (a' := ?_) ?_ ?_
    rotate_left
    · show Act.put _ (some 78) _ = _
      simp only [Act.put, List.setIfInBounds_toArray, List.set_cons_zero, List.set_cons_succ, i64_w, i32_w]
      rfl
    refine pS (v := ?_) (a' := ?_) 5 (some 79) (lb 7 63) rfl rfl (by kernel_rfl) (fun _ _ _ h => h) (by rfl) ?_ ?_ ?_; rotate_left; (intro w'; go_simp; with_reducible rfl); rotate_left; (simp only [Act.put, List.setIfInBounds_toArray, List.set_cons_zero, List.set_cons_succ, i64_w, i32_w]; rfl)
    refine last_ (i := 6) (N := none) (lb 7 127) rfl rfl (by kernel_rfl) (by decide) (fun K hK => ?_)
    refine skip_ (w1 := ?_) (by rfl) rfl ?_ ?_
    rotate_left
    · go_simp
      rfl
    have O4 := Aside0.mk (blk_put O3.out 0 (.int .u64 cu) rfl)
    have HB4 := Aside0.mk (HB3.out.setCell (p := ⟨go, 0, none⟩) (by show wz.heap.size ≤ go; rw [GZ.out]; exact Nat.le_refl _) (.int .u64 cu))
    clear co fo
    refine hK.out _ _ ?_
    clear hK K
    refine done_ (by kernel_rfl) ?_
    have hb := HB4.out
    have M4 := Aside0.mk (M1.out.below hb)
    have Q4 := Aside0.mk (refMove (M1.out.ghost.rowSame (fun cs hc => blk_below hc hb)) (Q1.out.below hb))
    have B4 := Aside0.mk (below_step B1.out hb)
    have X4 := Aside0.mk (blk_below X1.out hb)
    have P4 := Aside0.mk (blk_below P1.out hb)
    have W4 := Aside0.mk (Kd.R_below W1.out hb)
    clear hb
    go_wp2_with fail
    generalize w3.setCell ⟨go, 0, none⟩ (.int .u64 cu) = w4 at *
    have Od2 := Aside0.mk (blk_drew O4.out)
    clear Xd Pd Md Qd Bd Od Wd
    have Xd := Aside0.mk (blk_drew X4.out)
    have Pd := Aside0.mk (blk_drew P4.out)
    have Md := Aside0.mk M4.out.drew
    have Qd := Aside0.mk (refMove (M4.out.ghost.rowSame (fun cs hc => blk_drew hc)) Q4.out.drew)
    have Bd := Aside0.mk (below_drew B4.out)
    have Wd := Aside0.mk (Kd.R_below W4.out (below_drew (Below.refl _ _)))
    have SR := Aside0.mk (show cswapR G.p (pk, ps, pp) cu = decide (cu = cu) by rw [HR.out.swapR, CU.out])
    obtain ⟨ans, hans⟩ : ∃ z, decide (cu = cu) = z := ⟨_, rfl⟩
    rw [hans] at SR
    have AN := Aside0.mk (show decide (oget U.W (pk, ps, pp) = cu) = ans by rw [CU.out]; exact hans)
    clear hans
    have te : (ans == ans) = true := beq_self_eq_true ans
    refine start_ (n := 28) (S := fun w' => w'.cell? ⟨w.heap.size, 1, none⟩ = some (.int .i64 pk) ∧ w'.cell? ⟨w.heap.size, 2, none⟩ = some (.int .i64 ps) ∧ w'.cell? ⟨w.heap.size, 3, none⟩ = some (.int .i64 pp) ∧ w'.cell? ⟨w.heap.size, 4, none⟩ = some (.int .i64 id) ∧ w'.cell? ⟨w.heap.size, 8, none⟩ = some (.int .u64 vx) ∧ w'.cell? ⟨w.heap.size, 9, none⟩ = some (.int .i64 vy) ∧ w'.cell? ⟨w.heap.size, 10, none⟩ = some (.bool vst) ∧ w'.cell? ⟨go, 0, none⟩ = some (.int .u64 cu) ∧ w'.cell? ⟨go, 1, none⟩ = some (.int .i64 oy) ∧ w'.cell? ⟨go, 2, none⟩ = some (.bool ost) ∧ w'.cell? ⟨(w.heap.size + 1), 0, none⟩ = some (.int .i64 pk) ∧ w'.cell? ⟨(w.heap.size + 1), 1, none⟩ = some (.int .i64 ps) ∧ w'.cell? ⟨(w.heap.size + 1), 2, none⟩ = some (.int .i64 pp)) (ds := [25]) (lb 28 0) (by kernel_rfl) rfl rfl ⟨(blk_cell Xd.out 1).trans rfl, (blk_cell Xd.out 2).trans rfl, (blk_cell Xd.out 3).trans rfl, (blk_cell Xd.out 4).trans rfl, (blk_cell Xd.out 8).trans rfl, (blk_cell Xd.out 9).trans rfl, (blk_cell Xd.out 10).trans rfl, (blk_cell Od2.out 0).trans rfl, (blk_cell Od2.out 1).trans rfl, (blk_cell Od2.out 2).trans rfl, (blk_cell Pd.out 0).trans rfl, (blk_cell Pd.out 1).trans rfl, (blk_cell Pd.out 2).trans rfl⟩ (fun hHeld => ?_)
    refine pS (v := ?_) (a' := ?_) 0 (some 80) (lb 28 1) rfl rfl (by kernel_rfl) (fun _ _ _ h => h) (by rfl) ?_ ?_ ?_; rotate_left; (intro w'; go_simp; with_reducible rfl); rotate_left; (simp only [Act.put, List.setIfInBounds_toArray, List.set_cons_zero, List.set_cons_succ, i64_w, i32_w]; rfl)
    refine pS (v := ?_) (a' := ?_) 1 (some 81) (lb 28 3) rfl rfl (by kernel_rfl) (fun _ _ _ h => h) (by rfl) ?_ ?_ ?_; rotate_left; (intro w'; go_simp; with_reducible rfl); rotate_left; (simp only [Act.put, List.setIfInBounds_toArray, List.set_cons_zero, List.set_cons_succ, i64_w, i32_w]; rfl)
    refine pS (v := ?_) (a' := ?_) 4 (some 84) (lb 28 19) rfl rfl (by kernel_rfl) (fun _ _ _ h => h) (by rfl) ?_ ?_ ?_; rotate_left; (intro w'; go_simp; with_reducible rfl); rotate_left; (simp only [Act.put, List.setIfInBounds_toArray, List.set_cons_zero, List.set_cons_succ, i64_w, i32_w]; rfl)
    refine pS (v := ?_) (a' := ?_) 7 (some 87) (lb 28 147) rfl rfl (by kernel_rfl) (fun _ _ _ h => h) (by rfl) ?_ ?_ ?_; rotate_left; (intro w'; go_simp; with_reducible rfl); rotate_left; (simp only [Act.put, List.setIfInBounds_toArray, List.set_cons_zero, List.set_cons_succ, i64_w, i32_w]; rfl)
    refine pS (v := ?_) (a' := ?_) 9 (some 89) (lb 28 659) rfl rfl (by kernel_rfl) (fun _ _ _ h => h) (by rfl) ?_ ?_ ?_; rotate_left; (intro w'; go_simp; with_reducible rfl); rotate_left; (simp only [Act.put, List.setIfInBounds_toArray, List.set_cons_zero, List.set_cons_succ, i64_w, i32_w]; rfl)
    refine pS (v := ?_) (a' := ?_) 10 (some 90) (lb 28 1683) rfl rfl (by kernel_rfl) (fun _ _ _ h => h) (by rfl) ?_ ?_ ?_; rotate_left; (intro w'; go_simp; with_reducible rfl); rotate_left; (simp only [Act.put, List.setIfInBounds_toArray, List.set_cons_zero, List.set_cons_succ, i64_w, i32_w]; rfl)
    refine pS (v := ?_) (a' := ?_) 12 (some 92) (lb 28 5779) rfl rfl (by kernel_rfl) (fun _ _ _ h => h) (by rfl) ?_ ?_ ?_; rotate_left; (intro w'; go_simp; with_reducible rfl); rotate_left; (simp only [Act.put, List.setIfInBounds_toArray, List.set_cons_zero, List.set_cons_succ, i64_w, i32_w]; rfl)
    refine pS (v := ?_) (a' := ?_) 14 (some 94) (lb 28 22163) rfl rfl (by kernel_rfl) (fun _ _ _ h => h) (by rfl) ?_ ?_ ?_; rotate_left; (intro w'; go_simp; with_reducible rfl); rotate_left; (simp only [Act.put, List.setIfInBounds_toArray, List.set_cons_zero, List.set_cons_succ, i64_w, i32_w]; rfl)
    refine pS (v := ?_) (a' := ?_) 16 (some 96) (lb 28 87699) rfl rfl (by kernel_rfl) (fun _ _ _ h => h) (by rfl) ?_ ?_ ?_; rotate_left; (intro w'; go_simp; with_reducible rfl); rotate_left; (simp only [Act.put, List.setIfInBounds_toArray, List.set_cons_zero, List.set_cons_succ, i64_w, i32_w]; rfl)
    refine pS (v := ?_) (a' := ?_) 17 (some 97) (lb 28 218771) rfl rfl (by kernel_rfl) (fun _ _ _ h => h) (by rfl) ?_ ?_ ?_; rotate_left; (intro w'; go_simp; with_reducible rfl); rotate_left; (simp only [Act.put, List.setIfInBounds_toArray, List.set_cons_zero, List.set_cons_succ, i64_w, i32_w]; rfl)
    refine pS (v := ?_) (a' := ?_) 19 (some 99) (lb 28 743059) rfl rfl (by kernel_rfl) (fun _ _ _ h => h) (by rfl) ?_ ?_ ?_; rotate_left; (intro w'; go_simp; with_reducible rfl); rotate_left; (simp only [Act.put, List.setIfInBounds_toArray, List.set_cons_zero, List.set_cons_succ, i64_w, i32_w]; rfl)
    refine pS (v := ?_) (a' := ?_) 20 (some 100) (lb 28 1791635) rfl rfl (by kernel_rfl) (fun _ _ _ h => h) (by rfl) ?_ ?_ ?_; rotate_left; (intro w'; go_simp; with_reducible rfl); rotate_left; (simp only [Act.put, List.setIfInBounds_toArray, List.set_cons_zero, List.set_cons_succ, i64_w, i32_w]; rfl)
    refine pS (v := ?_) (a' := ?_) 22 (some 102) (lb 28 5985939) rfl rfl (by kernel_rfl) (fun _ _ _ h => h) (by rfl) ?_ ?_ ?_; rotate_left; (intro w'; go_simp; with_reducible rfl); rotate_left; (simp only [Act.put, List.setIfInBounds_toArray, List.set_cons_zero, List.set_cons_succ, i64_w, i32_w]; rfl)
    refine pS (v := ?_) (a' := ?_) 23 (some 103) (lb 28 14374547) rfl rfl (by kernel_rfl) (fun _ _ _ h => h) (by rfl) ?_ ?_ ?_; rotate_left; (intro w'; go_simp; with_reducible rfl); rotate_left; (simp only [Act.put, List.setIfInBounds_toArray, List.set_cons_zero, List.set_cons_succ, i64_w, i32_w]; rfl)
    refine tS (v := ?_) (a' := ?_) 2 (some 82) (lb 28 14374551) rfl rfl (by kernel_rfl) (fun _ _ _ h => h) hHeld (by rfl) ?_ ?_ ?_; rotate_left; (rintro w' ⟨s0, s1, s2, s3, s4, s5, s6, s7, s8, s9, s10, s11, s12⟩; go_simp; with_reducible rfl); rotate_left; (simp only [Act.put, List.setIfInBounds_toArray, List.set_cons_zero, List.set_cons_succ, i64_w, i32_w]; rfl)
    refine tS (v := ?_) (a' := ?_) 3 (some 83) (lb 28 14374559) rfl rfl (by kernel_rfl) (fun _ _ _ h => h) hHeld (by rfl) ?_ ?_ ?_; rotate_left; (rintro w' ⟨s0, s1, s2, s3, s4, s5, s6, s7, s8, s9, s10, s11, s12⟩; go_simp; with_reducible rfl); rotate_left; (simp only [Act.put, List.setIfInBounds_toArray, List.set_cons_zero, List.set_cons_succ, i64_w, i32_w]; rfl)
    refine tS (v := ?_) (a' := ?_) 5 (some 85) (lb 28 14374591) rfl rfl (by kernel_rfl) (fun _ _ _ h => h) hHeld (by rfl) ?_ ?_ ?_; rotate_left; (rintro w' ⟨s0, s1, s2, s3, s4, s5, s6, s7, s8, s9, s10, s11, s12⟩; go_simp; with_reducible rfl); rotate_left; (simp only [Act.put, List.setIfInBounds_toArray, List.set_cons_zero, List.set_cons_succ, i64_w, i32_w]; rfl)
    refine tS (v := ?_) (a' := ?_) 8 (some 88) (lb 28 14374847) rfl rfl (by kernel_rfl) (fun _ _ _ h => h) hHeld (by rfl) ?_ ?_ ?_; rotate_left; (rintro w' ⟨s0, s1, s2, s3, s4, s5, s6, s7, s8, s9, s10, s11, s12⟩; go_simp; with_reducible rfl); rotate_left; (simp only [Act.put, List.setIfInBounds_toArray, List.set_cons_zero, List.set_cons_succ, i64_w, i32_w]; rfl)
    refine tS (v := ?_) (a' := ?_) 11 (some 91) (lb 28 14376895) rfl rfl (by kernel_rfl) (fun _ _ _ h => h) hHeld (by rfl) ?_ ?_ ?_; rotate_left; (rintro w' ⟨s0, s1, s2, s3, s4, s5, s6, s7, s8, s9, s10, s11, s12⟩; go_simp; with_reducible rfl); rotate_left; (simp only [Act.put, List.setIfInBounds_toArray, List.set_cons_zero, List.set_cons_succ, i64_w, i32_w]; rfl)
    refine tS (v := ?_) (a' := ?_) 13 (some 93) (lb 28 14385087) rfl rfl (by kernel_rfl) (fun _ _ _ h => h) hHeld (by rfl) ?_ ?_ ?_; rotate_left; (rintro w' ⟨s0, s1, s2, s3, s4, s5, s6, s7, s8, s9, s10, s11, s12⟩; go_simp; with_reducible rfl); rotate_left; (simp only [Act.put, List.setIfInBounds_toArray, List.set_cons_zero, List.set_cons_succ, i64_w, i32_w]; rfl)
    refine tS (v := ?_) (a' := ?_) 15 (some 95) (lb 28 14417855) rfl rfl (by kernel_rfl) (fun _ _ _ h => h) hHeld (by rfl) ?_ ?_ ?_; rotate_left; (rintro w' ⟨s0, s1, s2, s3, s4, s5, s6, s7, s8, s9, s10, s11, s12⟩; go_simp; with_reducible rfl); rotate_left; (simp only [Act.put, List.setIfInBounds_toArray, List.set_cons_zero, List.set_cons_succ, i64_w, i32_w]; rfl)
    refine tS (v := ?_) (a' := ?_) 18 (some 98) (lb 28 14679999) rfl rfl (by kernel_rfl) (fun _ _ _ h => h) hHeld (by rfl) ?_ ?_ ?_; rotate_left; (rintro w' ⟨s0, s1, s2, s3, s4, s5, s6, s7, s8, s9, s10, s11, s12⟩; go_simp; with_reducible rfl); rotate_left; (simp only [Act.put, List.setIfInBounds_toArray, List.set_cons_zero, List.set_cons_succ, i64_w, i32_w]; rfl)
    refine tS (v := ?_) (a' := ?_) 21 (some 101) (lb 28 16777151) rfl rfl (by kernel_rfl) (fun _ _ _ h => h) hHeld (by rfl) ?_ ?_ ?_; rotate_left; (rintro w' ⟨s0, s1, s2, s3, s4, s5, s6, s7, s8, s9, s10, s11, s12⟩; go_simp; with_reducible rfl); rotate_left; (simp only [Act.put, List.setIfInBounds_toArray, List.set_cons_zero, List.set_cons_succ, i64_w, i32_w]; rfl)
    refine tS (v := ?_) (a' := ?_) 24 (some 104) (lb 28 33554367) rfl rfl (by kernel_rfl) (fun _ _ _ h => h) hHeld (by rfl) ?_ ?_ ?_; rotate_left; (rintro w' ⟨s0, s1, s2, s3, s4, s5, s6, s7, s8, s9, s10, s11, s12⟩; go_simp; with_reducible rfl); rotate_left; (simp only [Act.put, List.setIfInBounds_toArray, List.set_cons_zero, List.set_cons_succ, i64_w, i32_w]; rfl)
    refine one_ (i := 6) (N := some 86) (lb 28 33554431) rfl rfl (by kernel_rfl) (by decide) (fun K hK => ?_)
    refine goes_ Try.func61 (by kernel_rfl) rfl #[.pointer (some ⟨gh, 0, none⟩), Value.agg #[.int .i64 pk, .int .i64 ps, .int .i64 pp, .int .i64 id], .agg #[.int .u64 cu, .int .i64 oy, .bool ost], Value.agg #[.int .u64 vx, .int .i64 vy, .bool vst]] (by rfl) rfl rfl (by simp only [List.map_toArray, List.map_cons, List.map_nil]; rfl) ?_
    with_reducible refine (sswap_T gh gg gp gc gm gl gs g3 G sv ws pk ps pp id cu oy vx vy ost vst w0 _ Md.out Bd.out).mono ?_
    rintro e w5 ⟨rfl, h1_, h2_, h3_⟩
    refine ⟨_, rfl, ?_⟩
    rw [SR.out]
    have O5 := Aside0.mk (Md.out.ghost.stayT h3_ Od2.out (by decide) (by decide))
    have M5 := Aside0.mk h1_
    have Q5 := Aside0.mk (refT Md.out.ghost Qd.out HT.out h3_)
    have B5 := Aside0.mk h2_
    have X5 := Aside0.mk (Md.out.ghost.stayT h3_ Xd.out (by decide) (by decide))
    have P5 := Aside0.mk (Md.out.ghost.stayT h3_ Pd.out (by decide) (by decide))
    have W5 := Aside0.mk (wordsT Md.out.ghost Wd.out h3_)
    clear h1_ h2_ h3_
    refine hK.out _ _ ⟨(blk_cell X5.out 1).trans rfl, (blk_cell X5.out 2).trans rfl, (blk_cell X5.out 3).trans rfl, (blk_cell X5.out 4).trans rfl, (blk_cell X5.out 8).trans rfl, (blk_cell X5.out 9).trans rfl, (blk_cell X5.out 10).trans rfl, (blk_cell O5.out 0).trans rfl, (blk_cell O5.out 1).trans rfl, (blk_cell O5.out 2).trans rfl, (blk_cell P5.out 0).trans rfl, (blk_cell P5.out 1).trans rfl, (blk_cell P5.out 2).trans rfl⟩ (fun hHeld => ?_)
    clear hK K
    refine norm_ (a' := ?_) ?_ ?_
    rotate_left
    · show Act.put _ (some 86) _ = _
      simp only [Act.put, List.setIfInBounds_toArray, List.set_cons_zero, List.set_cons_succ, i64_w, i32_w]
      rfl
    refine last_ (i := 25) (N := some 105) (lb 28 67108863) rfl rfl (by kernel_rfl) (by decide) (fun K hK => ?_)
    refine goes_ Try.func99 (by kernel_rfl) rfl #[.pointer (some ⟨gu, 0, none⟩), Value.agg #[.int .i64 pk, .int .i64 ps, .int .i64 pp], .int .i64 id, .int .u64 cu, .bool ost, .int .u64 vx, .int .i64 vy, .bool vst] (by rfl) rfl rfl (by simp only [List.map_toArray, List.map_cons, List.map_nil]; rfl) ?_
    with_reducible refine (rswap7_T pk ps pp id cu vx vy ost vst Q5.out B5.out HT.out.three LL.out).mono ?_
    rintro e w6 ⟨rfl, h1_, h2_, h3_⟩
    refine ⟨_, rfl, ?_⟩
    rw [AN.out]
    have M6 := Aside0.mk (shadeS M5.out HT.out h3_).1
    have Q6 := Aside0.mk (refMove (shadeS M5.out HT.out h3_).2 h1_)
    have B6 := Aside0.mk h2_
    have W6 := Aside0.mk (wordsS W5.out HT.out h3_)
    clear h1_ h2_ h3_
    refine hK.out _ _ ?_
    clear hK K
    refine norm_ (a' := ?_) ?_ ?_
    rotate_left
    · show Act.put _ (some 105) _ = _
      simp only [Act.put, List.setIfInBounds_toArray, List.set_cons_zero, List.set_cons_succ, i64_w, i32_w]
      rfl
    refine pS (v := ?_) (a' := ?_) 26 (some 106) (lb 28 134217727) rfl rfl (by kernel_rfl) (fun _ _ _ h => h) (by rfl) ?_ ?_ ?_; rotate_left; (intro w'; go_simp; with_reducible rfl); rotate_left; (simp only [Act.put, List.setIfInBounds_toArray, List.set_cons_zero, List.set_cons_succ, i64_w, i32_w]; rfl)
    refine pS (v := ?_) (a' := ?_) 27 (some 6) (lb 28 268435455) rfl rfl (by kernel_rfl) (fun _ _ _ h => h) (by rfl) ?_ ?_ ?_; rotate_left; (intro w'; go_simp; with_reducible rfl); rotate_left; (simp only [Act.put, List.setIfInBounds_toArray, List.set_cons_zero, List.set_cons_succ, i64_w, i32_w]; rfl)
    refine done_ (by kernel_rfl) ?_
    go_wp2_with fail
    go_ret
    exact ⟨rfl, gswapG G (pk, ps, pp) id cu vx vy (ost || vst), (if oget U.W (pk, ps, pp) = cu then stU U (pk, ps, pp) vx vy else U), M6.out, (by rw [HR.out.swapF, swapS, Bool.or_comm]; exact Q6.out), HR.out.swap HO.out _ _ _ _ _ _ HY.out, B6.out, (by split; exact lok_set HL.out _ _ _; exact lok_same HL.out), stOk_same HS.out (swapS _ _ _ _ _ _), W6.out⟩
  have u4 : (kd == 4) = false := beq_eq_false_iff_ne.mpr k4
  clear k4
  by_cases k5 : kd = 5
  · subst k5
    have b0 : ((w.alloc (.cells #[.int .i64 5, .int .i64 pk, .int .i64 ps, .int .i64 pp, .int .i64 id, .int .u64 ox, .int .i64 oy, .bool ost, .int .u64 vx, .int .i64 vy, .bool vst] 89)).alloc (.cells #[.int .i64 pk, .int .i64 ps, .int .i64 pp] 23)).cell? ⟨w.heap.size, 0, none⟩ = some (.int .i64 5) := (blk_cell X1.out 0).trans rfl
    go_wp2_with fail
    clear b0
    generalize ((w.alloc (.cells #[.int .i64 5, .int .i64 pk, .int .i64 ps, .int .i64 pp, .int .i64 id, .int .u64 ox, .int .i64 oy, .bool ost, .int .u64 vx, .int .i64 vy, .bool vst] 89)).alloc (.cells #[.int .i64 pk, .int .i64 ps, .int .i64 pp] 23)) = w1 at *
    have Xd := Aside0.mk (blk_drew X1.out)
    have Pd := Aside0.mk (blk_drew P1.out)
    have Md := Aside0.mk M1.out.drew
    have Qd := Aside0.mk (refMove (M1.out.ghost.rowSame (fun cs hc => blk_drew hc)) Q1.out.drew)
    have Bd := Aside0.mk (below_drew B1.out)
    have Wd := Aside0.mk (Kd.R_below W1.out (below_drew (Below.refl _ _)))
    have te : (cu == cu) = true := beq_self_eq_true cu
    refine start_ (n := 17) (S := fun w' => w'.cell? ⟨w.heap.size, 1, none⟩ = some (.int .i64 pk) ∧ w'.cell? ⟨w.heap.size, 2, none⟩ = some (.int .i64 ps) ∧ w'.cell? ⟨w.heap.size, 3, none⟩ = some (.int .i64 pp) ∧ w'.cell? ⟨w.heap.size, 4, none⟩ = some (.int .i64 id) ∧ w'.cell? ⟨w.heap.size, 8, none⟩ = some (.int .u64 vx) ∧ w'.cell? ⟨(w.heap.size + 1), 0, none⟩ = some (.int .i64 pk) ∧ w'.cell? ⟨(w.heap.size + 1), 1, none⟩ = some (.int .i64 ps) ∧ w'.cell? ⟨(w.heap.size + 1), 2, none⟩ = some (.int .i64 pp)) (ds := [14]) (lb 17 0) (by kernel_rfl) rfl rfl ⟨(blk_cell Xd.out 1).trans rfl, (blk_cell Xd.out 2).trans rfl, (blk_cell Xd.out 3).trans rfl, (blk_cell Xd.out 4).trans rfl, (blk_cell Xd.out 8).trans rfl, (blk_cell Pd.out 0).trans rfl, (blk_cell Pd.out 1).trans rfl, (blk_cell Pd.out 2).trans rfl⟩ (fun hHeld => ?_)
    refine pS (v := ?_) (a' := ?_) 0 (some 109) (lb 17 1) rfl rfl (by kernel_rfl) (fun _ _ _ h => h) (by rfl) ?_ ?_ ?_; rotate_left; (intro w'; go_simp; with_reducible rfl); rotate_left; (simp only [Act.put, List.setIfInBounds_toArray, List.set_cons_zero, List.set_cons_succ, i64_w, i32_w]; rfl)
    refine pS (v := ?_) (a' := ?_) 1 (some 110) (lb 17 3) rfl rfl (by kernel_rfl) (fun _ _ _ h => h) (by rfl) ?_ ?_ ?_; rotate_left; (intro w'; go_simp; with_reducible rfl); rotate_left; (simp only [Act.put, List.setIfInBounds_toArray, List.set_cons_zero, List.set_cons_succ, i64_w, i32_w]; rfl)
    refine pS (v := ?_) (a' := ?_) 3 (some 112) (lb 17 11) rfl rfl (by kernel_rfl) (fun _ _ _ h => h) (by rfl) ?_ ?_ ?_; rotate_left; (intro w'; go_simp; with_reducible rfl); rotate_left; (simp only [Act.put, List.setIfInBounds_toArray, List.set_cons_zero, List.set_cons_succ, i64_w, i32_w]; rfl)
    refine pS (v := ?_) (a' := ?_) 4 (some 113) (lb 17 27) rfl rfl (by kernel_rfl) (fun _ _ _ h => h) (by rfl) ?_ ?_ ?_; rotate_left; (intro w'; go_simp; with_reducible rfl); rotate_left; (simp only [Act.put, List.setIfInBounds_toArray, List.set_cons_zero, List.set_cons_succ, i64_w, i32_w]; rfl)
    refine pS (v := ?_) (a' := ?_) 7 (some 116) (lb 17 155) rfl rfl (by kernel_rfl) (fun _ _ _ h => h) (by rfl) ?_ ?_ ?_; rotate_left; (intro w'; go_simp; with_reducible rfl); rotate_left; (simp only [Act.put, List.setIfInBounds_toArray, List.set_cons_zero, List.set_cons_succ, i64_w, i32_w]; rfl)
    refine pS (v := ?_) (a' := ?_) 8 (some 117) (lb 17 411) rfl rfl (by kernel_rfl) (fun _ _ _ h => h) (by rfl) ?_ ?_ ?_; rotate_left; (intro w'; go_simp; with_reducible rfl); rotate_left; (simp only [Act.put, List.setIfInBounds_toArray, List.set_cons_zero, List.set_cons_succ, i64_w, i32_w]; rfl)
    refine pS (v := ?_) (a' := ?_) 9 (some 118) (lb 17 923) rfl rfl (by kernel_rfl) (fun _ _ _ h => h) (by rfl) ?_ ?_ ?_; rotate_left; (intro w'; go_simp; with_reducible rfl); rotate_left; (simp only [Act.put, List.setIfInBounds_toArray, List.set_cons_zero, List.set_cons_succ, i64_w, i32_w]; rfl)
    refine pS (v := ?_) (a' := ?_) 11 (some 120) (lb 17 2971) rfl rfl (by kernel_rfl) (fun _ _ _ h => h) (by rfl) ?_ ?_ ?_; rotate_left; (intro w'; go_simp; with_reducible rfl); rotate_left; (simp only [Act.put, List.setIfInBounds_toArray, List.set_cons_zero, List.set_cons_succ, i64_w, i32_w]; rfl)
    refine pS (v := ?_) (a' := ?_) 12 (some 121) (lb 17 7067) rfl rfl (by kernel_rfl) (fun _ _ _ h => h) (by rfl) ?_ ?_ ?_; rotate_left; (intro w'; go_simp; with_reducible rfl); rotate_left; (simp only [Act.put, List.setIfInBounds_toArray, List.set_cons_zero, List.set_cons_succ, i64_w, i32_w]; rfl)
    refine tS (v := ?_) (a' := ?_) 2 (some 111) (lb 17 7071) rfl rfl (by kernel_rfl) (fun _ _ _ h => h) hHeld (by rfl) ?_ ?_ ?_; rotate_left; (rintro w' ⟨s0, s1, s2, s3, s4, s5, s6, s7⟩; go_simp; with_reducible rfl); rotate_left; (simp only [Act.put, List.setIfInBounds_toArray, List.set_cons_zero, List.set_cons_succ, i64_w, i32_w]; rfl)
    refine tS (v := ?_) (a' := ?_) 5 (some 114) (lb 17 7103) rfl rfl (by kernel_rfl) (fun _ _ _ h => h) hHeld (by rfl) ?_ ?_ ?_; rotate_left; (rintro w' ⟨s0, s1, s2, s3, s4, s5, s6, s7⟩; go_simp; with_reducible rfl); rotate_left; (simp only [Act.put, List.setIfInBounds_toArray, List.set_cons_zero, List.set_cons_succ, i64_w, i32_w]; rfl)
    refine tS (v := ?_) (a' := ?_) 10 (some 119) (lb 17 8127) rfl rfl (by kernel_rfl) (fun _ _ _ h => h) hHeld (by rfl) ?_ ?_ ?_; rotate_left; (rintro w' ⟨s0, s1, s2, s3, s4, s5, s6, s7⟩; go_simp; with_reducible rfl); rotate_left; (simp only [Act.put, List.setIfInBounds_toArray, List.set_cons_zero, List.set_cons_succ, i64_w, i32_w]; rfl)
    refine tS (v := ?_) (a' := ?_) 13 (some 122) (lb 17 16319) rfl rfl (by kernel_rfl) (fun _ _ _ h => h) hHeld (by rfl) ?_ ?_ ?_; rotate_left; (rintro w' ⟨s0, s1, s2, s3, s4, s5, s6, s7⟩; go_simp; with_reducible rfl); rotate_left; (simp only [Act.put, List.setIfInBounds_toArray, List.set_cons_zero, List.set_cons_succ, i64_w, i32_w]; rfl)
    refine one_ (i := 6) (N := some 115) (lb 17 16383) rfl rfl (by kernel_rfl) (by decide) (fun K hK => ?_)
    refine goes_ Try.func62 (by kernel_rfl) rfl #[.pointer (some ⟨gh, 0, none⟩), Value.agg #[.int .i64 pk, .int .i64 ps, .int .i64 pp, .int .i64 id], .int .u64 vx] (by rfl) rfl rfl (by simp only [List.map_toArray, List.map_cons, List.map_nil]; rfl) ?_
    with_reducible refine (sadd_T gh gg gp gc gm gl gs g3 G sv ws pk ps pp id vx w0 _ Md.out Bd.out).mono ?_
    rintro e w2 ⟨rfl, h1_, h2_, h3_⟩
    refine ⟨_, rfl, ?_⟩
    rw [CW.out]
    have M2 := Aside0.mk h1_
    have Q2 := Aside0.mk (refT Md.out.ghost Qd.out HT.out h3_)
    have B2 := Aside0.mk h2_
    have X2 := Aside0.mk (Md.out.ghost.stayT h3_ Xd.out (by decide) (by decide))
    have P2 := Aside0.mk (Md.out.ghost.stayT h3_ Pd.out (by decide) (by decide))
    have W2 := Aside0.mk (wordsT Md.out.ghost Wd.out h3_)
    clear h1_ h2_ h3_
    refine hK.out _ _ ⟨(blk_cell X2.out 1).trans rfl, (blk_cell X2.out 2).trans rfl, (blk_cell X2.out 3).trans rfl, (blk_cell X2.out 4).trans rfl, (blk_cell X2.out 8).trans rfl, (blk_cell P2.out 0).trans rfl, (blk_cell P2.out 1).trans rfl, (blk_cell P2.out 2).trans rfl⟩ (fun hHeld => ?_)
    clear hK K
    refine norm_ (a' := ?_) ?_ ?_
    rotate_left
    · show Act.put _ (some 115) _ = _
      simp only [Act.put, List.setIfInBounds_toArray, List.set_cons_zero, List.set_cons_succ, i64_w, i32_w]
      rfl
    refine last_ (i := 14) (N := some 123) (lb 17 32767) rfl rfl (by kernel_rfl) (by decide) (fun K hK => ?_)
    refine goes_ Try.func100 (by kernel_rfl) rfl #[.pointer (some ⟨gu, 0, none⟩), Value.agg #[.int .i64 pk, .int .i64 ps, .int .i64 pp], .int .u64 vx] (by rfl) rfl rfl (by simp only [List.map_toArray, List.map_cons, List.map_nil]; rfl) ?_
    with_reducible refine (radd8_T pk ps pp vx Q2.out B2.out HT.out.three LL.out).mono ?_
    rintro e w3 ⟨rfl, h1_, h2_, h3_⟩
    refine ⟨_, rfl, ?_⟩
    rw [CU.out] at h1_
    rw [CU.out]
    have M3 := Aside0.mk (shadeS M2.out HT.out h3_).1
    have Q3 := Aside0.mk (refMove (shadeS M2.out HT.out h3_).2 h1_)
    have B3 := Aside0.mk h2_
    have W3 := Aside0.mk (wordsS W2.out HT.out h3_)
    clear h1_ h2_ h3_
    refine hK.out _ _ ?_
    clear hK K
    refine norm_ (a' := ?_) ?_ ?_
    rotate_left
    · show Act.put _ (some 123) _ = _
      simp only [Act.put, List.setIfInBounds_toArray, List.set_cons_zero, List.set_cons_succ, i64_w, i32_w]
      rfl
    refine pS (v := ?_) (a' := ?_) 15 (some 124) (lb 17 65535) rfl rfl (by kernel_rfl) (fun _ _ _ h => h) (by rfl) ?_ ?_ ?_; rotate_left; (intro w'; go_simp; with_reducible rfl); rotate_left; (simp only [Act.put, List.setIfInBounds_toArray, List.set_cons_zero, List.set_cons_succ, i64_w, i32_w]; rfl)
    refine pS (v := ?_) (a' := ?_) 16 (some 6) (lb 17 131071) rfl rfl (by kernel_rfl) (fun _ _ _ h => h) (by rfl) ?_ ?_ ?_; rotate_left; (intro w'; go_simp; with_reducible rfl); rotate_left; (simp only [Act.put, List.setIfInBounds_toArray, List.set_cons_zero, List.set_cons_succ, i64_w, i32_w]; rfl)
    refine done_ (by kernel_rfl) ?_
    go_wp2_with fail
    go_ret
    exact ⟨rfl, gaddG G (pk, ps, pp) vx, { U with W := oset U.W (pk, ps, pp) (IntKind.u64.wrap (cu + vx)) }, M3.out, Q3.out, (by rw [← CU.out]; exact HR.out.add HO.out _ _), B3.out, lok_setW HL.out _ _, stOk_same HS.out rfl, W3.out⟩
  have u5 : (kd == 5) = false := beq_eq_false_iff_ne.mpr k5
  clear k5
  by_cases k6 : kd = 6
  · subst k6
    have b0 : ((w.alloc (.cells #[.int .i64 6, .int .i64 pk, .int .i64 ps, .int .i64 pp, .int .i64 id, .int .u64 ox, .int .i64 oy, .bool ost, .int .u64 vx, .int .i64 vy, .bool vst] 89)).alloc (.cells #[.int .i64 pk, .int .i64 ps, .int .i64 pp] 23)).cell? ⟨w.heap.size, 0, none⟩ = some (.int .i64 6) := (blk_cell X1.out 0).trans rfl
    go_wp2_with fail
    clear b0
    generalize ((w.alloc (.cells #[.int .i64 6, .int .i64 pk, .int .i64 ps, .int .i64 pp, .int .i64 id, .int .u64 ox, .int .i64 oy, .bool ost, .int .u64 vx, .int .i64 vy, .bool vst] 89)).alloc (.cells #[.int .i64 pk, .int .i64 ps, .int .i64 pp] 23)) = w1 at *
    have Pd := Aside0.mk (blk_drew P1.out)
    have Md := Aside0.mk M1.out.drew
    have Qd := Aside0.mk (refMove (M1.out.ghost.rowSame (fun cs hc => blk_drew hc)) Q1.out.drew)
    have Bd := Aside0.mk (below_drew B1.out)
    have Wd := Aside0.mk (Kd.R_below W1.out (below_drew (Below.refl _ _)))
    have RE := Aside0.mk (show bornId G.row ps = bornId U.R ps by rw [HR.out.row])
    have te : (bornId U.R ps == bornId U.R ps) = true := beq_self_eq_true _
    refine start_ (n := 12) (S := fun w' => w'.cell? ⟨(w.heap.size + 1), 1, none⟩ = some (.int .i64 ps)) (ds := [9]) (lb 12 0) (by kernel_rfl) rfl rfl ((blk_cell Pd.out 1).trans rfl) (fun hHeld => ?_)
    refine pS (v := ?_) (a' := ?_) 0 (some 127) (lb 12 1) rfl rfl (by kernel_rfl) (fun _ _ _ h => h) (by rfl) ?_ ?_ ?_; rotate_left; (intro w'; go_simp; with_reducible rfl); rotate_left; (simp only [Act.put, List.setIfInBounds_toArray, List.set_cons_zero, List.set_cons_succ, i64_w, i32_w]; rfl)
    refine pS (v := ?_) (a' := ?_) 1 (some 128) (lb 12 3) rfl rfl (by kernel_rfl) (fun _ _ _ h => h) (by rfl) ?_ ?_ ?_; rotate_left; (intro w'; go_simp; with_reducible rfl); rotate_left; (simp only [Act.put, List.setIfInBounds_toArray, List.set_cons_zero, List.set_cons_succ, i64_w, i32_w]; rfl)
    refine pS (v := ?_) (a' := ?_) 4 (some 131) (lb 12 19) rfl rfl (by kernel_rfl) (fun _ _ _ h => h) (by rfl) ?_ ?_ ?_; rotate_left; (intro w'; go_simp; with_reducible rfl); rotate_left; (simp only [Act.put, List.setIfInBounds_toArray, List.set_cons_zero, List.set_cons_succ, i64_w, i32_w]; rfl)
    refine pS (v := ?_) (a' := ?_) 5 (some 132) (lb 12 51) rfl rfl (by kernel_rfl) (fun _ _ _ h => h) (by rfl) ?_ ?_ ?_; rotate_left; (intro w'; go_simp; with_reducible rfl); rotate_left; (simp only [Act.put, List.setIfInBounds_toArray, List.set_cons_zero, List.set_cons_succ, i64_w, i32_w]; rfl)
    refine pS (v := ?_) (a' := ?_) 6 (some 133) (lb 12 115) rfl rfl (by kernel_rfl) (fun _ _ _ h => h) (by rfl) ?_ ?_ ?_; rotate_left; (intro w'; go_simp; with_reducible rfl); rotate_left; (simp only [Act.put, List.setIfInBounds_toArray, List.set_cons_zero, List.set_cons_succ, i64_w, i32_w]; rfl)
    refine pS (v := ?_) (a' := ?_) 7 (some 134) (lb 12 243) rfl rfl (by kernel_rfl) (fun _ _ _ h => h) (by rfl) ?_ ?_ ?_; rotate_left; (intro w'; go_simp; with_reducible rfl); rotate_left; (simp only [Act.put, List.setIfInBounds_toArray, List.set_cons_zero, List.set_cons_succ, i64_w, i32_w]; rfl)
    refine tS (v := ?_) (a' := ?_) 2 (some 129) (lb 12 247) rfl rfl (by kernel_rfl) (fun _ _ _ h => h) hHeld (by rfl) ?_ ?_ ?_; rotate_left; (rintro w' s0; go_simp; with_reducible rfl); rotate_left; (simp only [Act.put, List.setIfInBounds_toArray, List.set_cons_zero, List.set_cons_succ, i64_w, i32_w]; rfl)
    refine tS (v := ?_) (a' := ?_) 8 (some 135) (lb 12 503) rfl rfl (by kernel_rfl) (fun _ _ _ h => h) hHeld (by rfl) ?_ ?_ ?_; rotate_left; (rintro w' s0; go_simp; with_reducible rfl); rotate_left; (simp only [Act.put, List.setIfInBounds_toArray, List.set_cons_zero, List.set_cons_succ, i64_w, i32_w]; rfl)
    refine one_ (i := 3) (N := some 130) (lb 12 511) rfl rfl (by kernel_rfl) (by decide) (fun K hK => ?_)
    refine goes_ Try.func63 (by kernel_rfl) rfl #[.pointer (some ⟨gh, 0, none⟩), .int .i64 ps] (by rfl) rfl rfl (by simp only [List.map_toArray, List.map_cons, List.map_nil]; rfl) ?_
    with_reducible refine (sborn_T gh gg gp gc gm gl gs g3 G sv ws ps w0 _ Md.out Bd.out LA.out).mono ?_
    rintro e w2 ⟨rfl, h1_, h2_, h3_, h4_⟩
    refine ⟨_, rfl, ?_⟩
    rw [RE.out]
    have M2 := Aside0.mk h1_
    have Q2 := Aside0.mk (refB Md.out.ghost Qd.out HT.out h1_.ghost h3_ h4_)
    have B2 := Aside0.mk h2_
    have P2 := Aside0.mk (Md.out.ghost.stayB h3_ Pd.out (by decide) (by decide))
    have W2 := Aside0.mk (wordsB Md.out.ghost Wd.out h3_)
    clear h1_ h2_ h3_ h4_
    refine hK.out _ _ ((blk_cell P2.out 1).trans rfl) (fun hHeld => ?_)
    clear hK K
    refine norm_ (a' := ?_) ?_ ?_
    rotate_left
    · show Act.put _ (some 130) _ = _
      simp only [Act.put, List.setIfInBounds_toArray, List.set_cons_zero, List.set_cons_succ, i64_w, i32_w]
      rfl
    refine last_ (i := 9) (N := some 136) (lb 12 1023) rfl rfl (by kernel_rfl) (by decide) (fun K hK => ?_)
    refine goes_ Try.func70 (by kernel_rfl) rfl #[.pointer (some ⟨gu, 2, none⟩), .int .i64 ps] (by rfl) rfl rfl (by simp only [List.map_toArray, List.map_cons, List.map_nil]; rfl) ?_
    with_reducible refine (rbornU_T ps Q2.out B2.out HT.out.two LL.out.2.2).mono ?_
    rintro e w3 ⟨rfl, h1_, h2_, h3_⟩
    refine ⟨_, rfl, ?_⟩
    have M3 := Aside0.mk (shadeB M2.out HT.out h3_).1
    have Q3 := Aside0.mk (refMove (shadeB M2.out HT.out h3_).2 h1_)
    have B3 := Aside0.mk h2_
    have W3 := Aside0.mk (wordsUB W2.out HT.out h3_)
    clear h1_ h2_ h3_
    refine hK.out _ _ ?_
    clear hK K
    refine norm_ (a' := ?_) ?_ ?_
    rotate_left
    · show Act.put _ (some 136) _ = _
      simp only [Act.put, List.setIfInBounds_toArray, List.set_cons_zero, List.set_cons_succ, i64_w, i32_w]
      rfl
    refine pS (v := ?_) (a' := ?_) 10 (some 137) (lb 12 2047) rfl rfl (by kernel_rfl) (fun _ _ _ h => h) (by rfl) ?_ ?_ ?_; rotate_left; (intro w'; go_simp; with_reducible rfl); rotate_left; (simp only [Act.put, List.setIfInBounds_toArray, List.set_cons_zero, List.set_cons_succ, i64_w, i32_w]; rfl)
    refine pS (v := ?_) (a' := ?_) 11 (some 6) (lb 12 4095) rfl rfl (by kernel_rfl) (fun _ _ _ h => h) (by rfl) ?_ ?_ ?_; rotate_left; (intro w'; go_simp; with_reducible rfl); rotate_left; (simp only [Act.put, List.setIfInBounds_toArray, List.set_cons_zero, List.set_cons_succ, i64_w, i32_w]; rfl)
    refine done_ (by kernel_rfl) ?_
    go_wp2_with fail
    go_ret
    exact ⟨rfl, gbornG G ps, { U with R := bornRow U.R ps }, M3.out, Q3.out, HR.out.born ps, B3.out, lok_born HL.out ps, stOk_same HS.out rfl, W3.out⟩
  have u6 : (kd == 6) = false := beq_eq_false_iff_ne.mpr k6
  clear k6
  have b0 : ((w.alloc (.cells #[.int .i64 kd, .int .i64 pk, .int .i64 ps, .int .i64 pp, .int .i64 id, .int .u64 ox, .int .i64 oy, .bool ost, .int .u64 vx, .int .i64 vy, .bool vst] 89)).alloc (.cells #[.int .i64 pk, .int .i64 ps, .int .i64 pp] 23)).cell? ⟨w.heap.size, 0, none⟩ = some (.int .i64 kd) := (blk_cell X1.out 0).trans rfl
  go_wp2_with fail
  clear b0
  generalize ((w.alloc (.cells #[.int .i64 kd, .int .i64 pk, .int .i64 ps, .int .i64 pp, .int .i64 id, .int .u64 ox, .int .i64 oy, .bool ost, .int .u64 vx, .int .i64 vy, .bool vst] 89)).alloc (.cells #[.int .i64 pk, .int .i64 ps, .int .i64 pp] 23)) = w1 at *
  have Pd := Aside0.mk (blk_drew P1.out)
  have Md := Aside0.mk M1.out.drew
  have Qd := Aside0.mk (refMove (M1.out.ghost.rowSame (fun cs hc => blk_drew hc)) Q1.out.drew)
  have Bd := Aside0.mk (below_drew B1.out)
  have Wd := Aside0.mk (Kd.R_below W1.out (below_drew (Below.refl _ _)))
  have te : (cu == cu) = true := beq_self_eq_true cu
  refine start_ (n := 10) (S := fun w' => w'.cell? ⟨(w.heap.size + 1), 0, none⟩ = some (.int .i64 pk) ∧ w'.cell? ⟨(w.heap.size + 1), 1, none⟩ = some (.int .i64 ps) ∧ w'.cell? ⟨(w.heap.size + 1), 2, none⟩ = some (.int .i64 pp)) (ds := [7]) (lb 10 0) (by kernel_rfl) rfl rfl ⟨(blk_cell Pd.out 0).trans rfl, (blk_cell Pd.out 1).trans rfl, (blk_cell Pd.out 2).trans rfl⟩ (fun hHeld => ?_)
  refine pS (v := ?_) (a' := ?_) 0 (some 138) (lb 10 1) rfl rfl (by kernel_rfl) (fun _ _ _ h => h) (by rfl) ?_ ?_ ?_; rotate_left; (intro w'; go_simp; with_reducible rfl); rotate_left; (simp only [Act.put, List.setIfInBounds_toArray, List.set_cons_zero, List.set_cons_succ, i64_w, i32_w]; rfl)
  refine pS (v := ?_) (a' := ?_) 3 (some 141) (lb 10 9) rfl rfl (by kernel_rfl) (fun _ _ _ h => h) (by rfl) ?_ ?_ ?_; rotate_left; (intro w'; go_simp; with_reducible rfl); rotate_left; (simp only [Act.put, List.setIfInBounds_toArray, List.set_cons_zero, List.set_cons_succ, i64_w, i32_w]; rfl)
  refine pS (v := ?_) (a' := ?_) 4 (some 142) (lb 10 25) rfl rfl (by kernel_rfl) (fun _ _ _ h => h) (by rfl) ?_ ?_ ?_; rotate_left; (intro w'; go_simp; with_reducible rfl); rotate_left; (simp only [Act.put, List.setIfInBounds_toArray, List.set_cons_zero, List.set_cons_succ, i64_w, i32_w]; rfl)
  refine pS (v := ?_) (a' := ?_) 5 (some 143) (lb 10 57) rfl rfl (by kernel_rfl) (fun _ _ _ h => h) (by rfl) ?_ ?_ ?_; rotate_left; (intro w'; go_simp; with_reducible rfl); rotate_left; (simp only [Act.put, List.setIfInBounds_toArray, List.set_cons_zero, List.set_cons_succ, i64_w, i32_w]; rfl)
  refine tS (v := ?_) (a' := ?_) 1 (some 139) (lb 10 59) rfl rfl (by kernel_rfl) (fun _ _ _ h => h) hHeld (by rfl) ?_ ?_ ?_; rotate_left; (rintro w' ⟨s0, s1, s2⟩; go_simp; with_reducible rfl); rotate_left; (simp only [Act.put, List.setIfInBounds_toArray, List.set_cons_zero, List.set_cons_succ, i64_w, i32_w]; rfl)
  refine tS (v := ?_) (a' := ?_) 6 (some 144) (lb 10 123) rfl rfl (by kernel_rfl) (fun _ _ _ h => h) hHeld (by rfl) ?_ ?_ ?_; rotate_left; (rintro w' ⟨s0, s1, s2⟩; go_simp; with_reducible rfl); rotate_left; (simp only [Act.put, List.setIfInBounds_toArray, List.set_cons_zero, List.set_cons_succ, i64_w, i32_w]; rfl)
  refine one_ (i := 2) (N := some 140) (lb 10 127) rfl rfl (by kernel_rfl) (by decide) (fun K hK => ?_)
  refine goes_ Try.func64 (by kernel_rfl) rfl #[.pointer (some ⟨gh, 0, none⟩), Value.agg #[.int .i64 pk, .int .i64 ps, .int .i64 pp]] (by rfl) rfl rfl (by simp only [List.map_toArray, List.map_cons, List.map_nil]; rfl) ?_
  with_reducible refine (speek_T gh gg gp gc gm gl gs g3 G sv ws pk ps pp w0 _ Md.out).mono ?_
  rintro e w2 ⟨rfl, hb⟩
  refine ⟨_, rfl, ?_⟩
  rw [CW.out]
  have M2 := Aside0.mk (Md.out.below hb)
  have Q2 := Aside0.mk (refMove (Md.out.ghost.rowSame (fun cs hc => blk_below hc hb)) (Qd.out.below hb))
  have B2 := Aside0.mk (below_step Bd.out hb)
  have P2 := Aside0.mk (blk_below Pd.out hb)
  have W2 := Aside0.mk (Kd.R_below Wd.out hb)
  clear hb
  refine hK.out _ _ ⟨(blk_cell P2.out 0).trans rfl, (blk_cell P2.out 1).trans rfl, (blk_cell P2.out 2).trans rfl⟩ (fun hHeld => ?_)
  clear hK K
  refine norm_ (a' := ?_) ?_ ?_
  rotate_left
  · show Act.put _ (some 140) _ = _
    simp only [Act.put, List.setIfInBounds_toArray, List.set_cons_zero, List.set_cons_succ, i64_w, i32_w]
    rfl
  refine last_ (i := 7) (N := some 145) (lb 10 255) rfl rfl (by kernel_rfl) (by decide) (fun K hK => ?_)
  refine goes_ Try.func83 (by kernel_rfl) rfl #[.pointer (some ⟨gu, 0, none⟩), Value.agg #[.int .i64 pk, .int .i64 ps, .int .i64 pp]] (by rfl) rfl rfl (by simp only [List.map_toArray, List.map_cons, List.map_nil]; rfl) ?_
  with_reducible refine (rgetW_T pk ps pp Q2.out LL.out.1).mono ?_
  rintro e w3 ⟨rfl, hb⟩
  refine ⟨_, rfl, ?_⟩
  rw [CU.out]
  have M3 := Aside0.mk (M2.out.below hb)
  have Q3 := Aside0.mk (refMove (M2.out.ghost.rowSame (fun cs hc => blk_below hc hb)) (Q2.out.below hb))
  have B3 := Aside0.mk (below_step B2.out hb)
  have W3 := Aside0.mk (Kd.R_below W2.out hb)
  clear hb
  refine hK.out _ _ ?_
  clear hK K
  refine norm_ (a' := ?_) ?_ ?_
  rotate_left
  · show Act.put _ (some 145) _ = _
    simp only [Act.put, List.setIfInBounds_toArray, List.set_cons_zero, List.set_cons_succ, i64_w, i32_w]
    rfl
  refine pS (v := ?_) (a' := ?_) 8 (some 146) (lb 10 511) rfl rfl (by kernel_rfl) (fun _ _ _ h => h) (by rfl) ?_ ?_ ?_; rotate_left; (intro w'; go_simp; with_reducible rfl); rotate_left; (simp only [Act.put, List.setIfInBounds_toArray, List.set_cons_zero, List.set_cons_succ, i64_w, i32_w]; rfl)
  refine pS (v := ?_) (a' := ?_) 9 (some 6) (lb 10 1023) rfl rfl (by kernel_rfl) (fun _ _ _ h => h) (by rfl) ?_ ?_ ?_; rotate_left; (intro w'; go_simp; with_reducible rfl); rotate_left; (simp only [Act.put, List.setIfInBounds_toArray, List.set_cons_zero, List.set_cons_succ, i64_w, i32_w]; rfl)
  refine done_ (by kernel_rfl) ?_
  go_wp2_with fail
  go_ret
  exact ⟨rfl, G, U, M3.out, Q3.out, HR.out, B3.out, lok_same HL.out, stOk_same HS.out rfl, W3.out⟩
end Go.Proofs.Ytlpnggapndokeaa.PIdealKeeps

namespace Go.Proofs.Ytlpnggapndokeaa.PIdealKeeps
open Go Go.RowKit Go.Proofs.YtlpnggapndokeaaW.PrintWords Go.Proofs.YtlpnggapndokeaaW.PrintLast Go.Proofs.YtlpnggapndokeaaW.PrintMore Go.Proofs.Ytlpnggapndokeaa.M
attribute [local go_sem] max2_int min2_int max_two min_two max_three min_three max_four min_four
set_option linter.unusedVariables false
set_option linter.unusedSimpArgs false
theorem blk_n1 (w : World) (o1 o2 : Obj) : ((w.alloc o1).alloc o2).heap[w.heap.size]? = some o1 := blk_alloc (blk_new w o1) o2
set_option maxHeartbeats 4000000 in
set_option maxRecDepth 100000 in
theorem sstoreNil_T (w : World) : Calls Try.prog 59 #[.pointer none, .agg #[.int .i64 0, .int .i64 0, .int .i64 0, .int .i64 0], .agg #[.int .u64 1, .int .i64 0, .bool false]] w fun e w' => e = .returned (.tuple #[]) ∧ Below w.heap.size w w' := by
  have hu25 := Try.underlying25
  have hu28 := Try.underlying28
  have hu23 := Try.underlying23
  have JB := Aside0.mk (below_drew (below_alloc (below_alloc (Below.refl w.heap.size w) (.cells #[.int .i64 0, .int .i64 0, .int .i64 0, .int .i64 0] 25)) (.cells #[.int .u64 1, .int .i64 0, .bool false] 28)))
  have X0 := Aside0.mk (blk_drew (blk_alloc (blk_new w (.cells #[.int .i64 0, .int .i64 0, .int .i64 0, .int .i64 0] 25)) (.cells #[.int .u64 1, .int .i64 0, .bool false] 28)))
  have X1 := Aside0.mk (blk_drew (blk_new2 w (.cells #[.int .i64 0, .int .i64 0, .int .i64 0, .int .i64 0] 25) (.cells #[.int .u64 1, .int .i64 0, .bool false] 28)))
  go_enter Try.func59, Try.ntmps59
  go_wp2_with fail
  refine start_ (n := 5) (S := fun w' => w'.cell? ⟨w.heap.size, 0, none⟩ = some (.int .i64 0) ∧ w'.cell? ⟨w.heap.size, 1, none⟩ = some (.int .i64 0) ∧ w'.cell? ⟨w.heap.size, 2, none⟩ = some (.int .i64 0) ∧ w'.cell? ⟨w.heap.size, 3, none⟩ = some (.int .i64 0) ∧ w'.cell? ⟨w.heap.size + 1, 0, none⟩ = some (.int .u64 1) ∧ w'.cell? ⟨w.heap.size + 1, 1, none⟩ = some (.int .i64 0) ∧ w'.cell? ⟨w.heap.size + 1, 2, none⟩ = some (.bool false)) (ds := [4]) (lb 5 0) (by kernel_rfl) rfl rfl ⟨(blk_cell X0.out 0).trans rfl, (blk_cell X0.out 1).trans rfl, (blk_cell X0.out 2).trans rfl, (blk_cell X0.out 3).trans rfl, (blk_cell X1.out 0).trans rfl, (blk_cell X1.out 1).trans rfl, (blk_cell X1.out 2).trans rfl⟩ (fun hHeld => ?_)
  refine pS (v := ?_) (a' := ?_) 0 (some 6) (lb 5 1) rfl rfl (by kernel_rfl) (fun _ _ _ h => h) (by rfl) ?_ ?_ ?_; rotate_left; (intro w'; go_simp; with_reducible rfl); rotate_left; (simp only [Act.put, List.setIfInBounds_toArray, List.set_cons_zero, List.set_cons_succ, i64_w, i32_w]; rfl)
  refine tS (v := ?_) (a' := ?_) 2 (some 8) (lb 5 5) rfl rfl (by kernel_rfl) (fun _ _ _ h => h) hHeld (by rfl) ?_ ?_ ?_; rotate_left; (rintro w' ⟨s0, s1, s2, s3, s4, s5, s6⟩; go_simp; with_reducible rfl); rotate_left; (simp only [Act.put, List.setIfInBounds_toArray, List.set_cons_zero, List.set_cons_succ, i64_w, i32_w]; rfl)
  refine tS (v := ?_) (a' := ?_) 3 (some 9) (lb 5 13) rfl rfl (by kernel_rfl) (fun _ _ _ h => h) hHeld (by rfl) ?_ ?_ ?_; rotate_left; (rintro w' ⟨s0, s1, s2, s3, s4, s5, s6⟩; go_simp; with_reducible rfl); rotate_left; (simp only [Act.put, List.setIfInBounds_toArray, List.set_cons_zero, List.set_cons_succ, i64_w, i32_w]; rfl)
  refine one_ (i := 1) (N := some 7) (lb 5 15) rfl rfl (by kernel_rfl) (by decide) (fun K hK => ?_)
  refine goes_ Try.func105 (by kernel_rfl) rfl #[.pointer none] (by rfl) rfl rfl (by simp only [List.map_toArray, List.map_cons, List.map_nil]; rfl) ?_
  with_reducible refine (sunderNil_T _).mono ?_
  rintro e w5 ⟨rfl, rfl⟩
  refine ⟨_, rfl, ?_⟩
  refine hK.out _ _ ⟨(blk_cell X0.out 0).trans rfl, (blk_cell X0.out 1).trans rfl, (blk_cell X0.out 2).trans rfl, (blk_cell X0.out 3).trans rfl, (blk_cell X1.out 0).trans rfl, (blk_cell X1.out 1).trans rfl, (blk_cell X1.out 2).trans rfl⟩ (fun hHeld => ?_)
  clear hK K
  refine norm_ (a' := ?_) ?_ ?_
  rotate_left
  · show Act.put _ (some 7) _ = _
    simp only [Act.put, List.setIfInBounds_toArray, List.set_cons_zero, List.set_cons_succ, i64_w, i32_w]
    rfl
  refine last_ (i := 4) (N := some 10) (lb 5 31) rfl rfl (by kernel_rfl) (by decide) (fun K hK => ?_)
  refine goes_ Try.func44 (by kernel_rfl) rfl #[.pointer none, Value.agg #[.int .i64 0, .int .i64 0, .int .i64 0, .int .i64 0], Value.agg #[.int .u64 1, .int .i64 0, .bool false]] (by rfl) rfl rfl (by simp only [List.map_toArray, List.map_cons, List.map_nil]; rfl) ?_
  with_reducible refine (gstoreNil_T 0 0 0 0 1 0 false _).mono ?_
  rintro e w6 ⟨rfl, hb⟩
  refine ⟨_, rfl, ?_⟩
  have R2 := Aside0.mk (below_step JB.out hb)
  clear hb
  refine hK.out _ _ ?_
  clear hK K
  refine norm_ (a' := ?_) ?_ ?_
  rotate_left
  · show Act.put _ (some 10) _ = _
    simp only [Act.put, List.setIfInBounds_toArray, List.set_cons_zero, List.set_cons_succ, i64_w, i32_w]
    rfl
  refine done_ (by kernel_rfl) ?_
  go_wp2_with fail
  exact bodyPost_end (results_none rfl _ _ _) rfl ⟨rfl, R2.out⟩
set_option maxHeartbeats 4000000 in
set_option maxRecDepth 100000 in
theorem sswapNil_T (w : World) : Calls Try.prog 61 #[.pointer none, .agg #[.int .i64 0, .int .i64 0, .int .i64 0, .int .i64 0], .agg #[.int .u64 0, .int .i64 0, .bool false], .agg #[.int .u64 0, .int .i64 0, .bool false]] w fun e w' => e = .returned (.bool false) ∧ Below w.heap.size w w' := by
  have hu25 := Try.underlying25
  have hu28 := Try.underlying28
  have hu23 := Try.underlying23
  have JB := Aside0.mk (below_drew (below_alloc (below_alloc (below_alloc (Below.refl w.heap.size w) (.cells #[.int .i64 0, .int .i64 0, .int .i64 0, .int .i64 0] 25)) (.cells #[.int .u64 0, .int .i64 0, .bool false] 28)) (.cells #[.int .u64 0, .int .i64 0, .bool false] 28)))
  have X0 := Aside0.mk (blk_drew (blk_alloc (blk_alloc (blk_new w (.cells #[.int .i64 0, .int .i64 0, .int .i64 0, .int .i64 0] 25)) (.cells #[.int .u64 0, .int .i64 0, .bool false] 28)) (.cells #[.int .u64 0, .int .i64 0, .bool false] 28)))
  have X1 := Aside0.mk (blk_drew (blk_alloc (blk_new2 w (.cells #[.int .i64 0, .int .i64 0, .int .i64 0, .int .i64 0] 25) (.cells #[.int .u64 0, .int .i64 0, .bool false] 28)) (.cells #[.int .u64 0, .int .i64 0, .bool false] 28)))
  have X2 := Aside0.mk (blk_drew (blk_new3 w (.cells #[.int .i64 0, .int .i64 0, .int .i64 0, .int .i64 0] 25) (.cells #[.int .u64 0, .int .i64 0, .bool false] 28) (.cells #[.int .u64 0, .int .i64 0, .bool false] 28)))
  go_enter Try.func61, Try.ntmps61
  go_wp2_with fail
  refine start_ (n := 7) (S := fun w' => w'.cell? ⟨w.heap.size, 0, none⟩ = some (.int .i64 0) ∧ w'.cell? ⟨w.heap.size, 1, none⟩ = some (.int .i64 0) ∧ w'.cell? ⟨w.heap.size, 2, none⟩ = some (.int .i64 0) ∧ w'.cell? ⟨w.heap.size, 3, none⟩ = some (.int .i64 0) ∧ w'.cell? ⟨w.heap.size + 1, 0, none⟩ = some (.int .u64 0) ∧ w'.cell? ⟨w.heap.size + 1, 1, none⟩ = some (.int .i64 0) ∧ w'.cell? ⟨w.heap.size + 1, 2, none⟩ = some (.bool false) ∧ w'.cell? ⟨w.heap.size + 1 + 1, 0, none⟩ = some (.int .u64 0) ∧ w'.cell? ⟨w.heap.size + 1 + 1, 1, none⟩ = some (.int .i64 0) ∧ w'.cell? ⟨w.heap.size + 1 + 1, 2, none⟩ = some (.bool false)) (ds := [5]) (lb 7 0) (by kernel_rfl) rfl rfl ⟨(blk_cell X0.out 0).trans rfl, (blk_cell X0.out 1).trans rfl, (blk_cell X0.out 2).trans rfl, (blk_cell X0.out 3).trans rfl, (blk_cell X1.out 0).trans rfl, (blk_cell X1.out 1).trans rfl, (blk_cell X1.out 2).trans rfl, (blk_cell X2.out 0).trans rfl, (blk_cell X2.out 1).trans rfl, (blk_cell X2.out 2).trans rfl⟩ (fun hHeld => ?_)
  refine pS (v := ?_) (a' := ?_) 0 (some 9) (lb 7 1) rfl rfl (by kernel_rfl) (fun _ _ _ h => h) (by rfl) ?_ ?_ ?_; rotate_left; (intro w'; go_simp; with_reducible rfl); rotate_left; (simp only [Act.put, List.setIfInBounds_toArray, List.set_cons_zero, List.set_cons_succ, i64_w, i32_w]; rfl)
  refine tS (v := ?_) (a' := ?_) 2 (some 11) (lb 7 5) rfl rfl (by kernel_rfl) (fun _ _ _ h => h) hHeld (by rfl) ?_ ?_ ?_; rotate_left; (rintro w' ⟨s0, s1, s2, s3, s4, s5, s6, s7, s8, s9⟩; go_simp; with_reducible rfl); rotate_left; (simp only [Act.put, List.setIfInBounds_toArray, List.set_cons_zero, List.set_cons_succ, i64_w, i32_w]; rfl)
  refine tS (v := ?_) (a' := ?_) 3 (some 12) (lb 7 13) rfl rfl (by kernel_rfl) (fun _ _ _ h => h) hHeld (by rfl) ?_ ?_ ?_; rotate_left; (rintro w' ⟨s0, s1, s2, s3, s4, s5, s6, s7, s8, s9⟩; go_simp; with_reducible rfl); rotate_left; (simp only [Act.put, List.setIfInBounds_toArray, List.set_cons_zero, List.set_cons_succ, i64_w, i32_w]; rfl)
  refine tS (v := ?_) (a' := ?_) 4 (some 13) (lb 7 29) rfl rfl (by kernel_rfl) (fun _ _ _ h => h) hHeld (by rfl) ?_ ?_ ?_; rotate_left; (rintro w' ⟨s0, s1, s2, s3, s4, s5, s6, s7, s8, s9⟩; go_simp; with_reducible rfl); rotate_left; (simp only [Act.put, List.setIfInBounds_toArray, List.set_cons_zero, List.set_cons_succ, i64_w, i32_w]; rfl)
  refine one_ (i := 1) (N := some 10) (lb 7 31) rfl rfl (by kernel_rfl) (by decide) (fun K hK => ?_)
  refine goes_ Try.func105 (by kernel_rfl) rfl #[.pointer none] (by rfl) rfl rfl (by simp only [List.map_toArray, List.map_cons, List.map_nil]; rfl) ?_
  with_reducible refine (sunderNil_T _).mono ?_
  rintro e w5 ⟨rfl, rfl⟩
  refine ⟨_, rfl, ?_⟩
  refine hK.out _ _ ⟨(blk_cell X0.out 0).trans rfl, (blk_cell X0.out 1).trans rfl, (blk_cell X0.out 2).trans rfl, (blk_cell X0.out 3).trans rfl, (blk_cell X1.out 0).trans rfl, (blk_cell X1.out 1).trans rfl, (blk_cell X1.out 2).trans rfl, (blk_cell X2.out 0).trans rfl, (blk_cell X2.out 1).trans rfl, (blk_cell X2.out 2).trans rfl⟩ (fun hHeld => ?_)
  clear hK K
  refine norm_ (a' := ?_) ?_ ?_
  rotate_left
  · show Act.put _ (some 10) _ = _
    simp only [Act.put, List.setIfInBounds_toArray, List.set_cons_zero, List.set_cons_succ, i64_w, i32_w]
    rfl
  refine last_ (i := 5) (N := some 14) (lb 7 63) rfl rfl (by kernel_rfl) (by decide) (fun K hK => ?_)
  refine goes_ Try.func46 (by kernel_rfl) rfl #[.pointer none, Value.agg #[.int .i64 0, .int .i64 0, .int .i64 0, .int .i64 0], Value.agg #[.int .u64 0, .int .i64 0, .bool false], Value.agg #[.int .u64 0, .int .i64 0, .bool false]] (by rfl) rfl rfl (by simp only [List.map_toArray, List.map_cons, List.map_nil]; rfl) ?_
  with_reducible refine (gswapNil_T 0 0 0 0 0 0 0 0 false false _).mono ?_
  rintro e w6 ⟨rfl, hb⟩
  refine ⟨_, rfl, ?_⟩
  have R2 := Aside0.mk (below_step JB.out hb)
  clear hb
  refine hK.out _ _ ?_
  clear hK K
  refine norm_ (a' := ?_) ?_ ?_
  rotate_left
  · show Act.put _ (some 14) _ = _
    simp only [Act.put, List.setIfInBounds_toArray, List.set_cons_zero, List.set_cons_succ, i64_w, i32_w]
    rfl
  refine pS (v := ?_) (a' := ?_) 6 (some 8) (lb 7 127) rfl rfl (by kernel_rfl) (fun _ _ _ h => h) (by rfl) ?_ ?_ ?_; rotate_left; (intro w'; go_simp; with_reducible rfl); rotate_left; (simp only [Act.put, List.setIfInBounds_toArray, List.set_cons_zero, List.set_cons_succ, i64_w, i32_w]; rfl)
  refine done_ (by kernel_rfl) ?_
  go_wp2_with fail
  go_ret
  exact ⟨rfl, R2.out⟩
set_option maxHeartbeats 4000000 in
set_option maxRecDepth 100000 in
theorem saddNil_T (w : World) : Calls Try.prog 62 #[.pointer none, .agg #[.int .i64 0, .int .i64 0, .int .i64 0, .int .i64 0], .int .u64 3] w fun e w' => e = .returned (.int .u64 0) ∧ Below w.heap.size w w' := by
  have hu25 := Try.underlying25
  have hu28 := Try.underlying28
  have hu23 := Try.underlying23
  have JB := Aside0.mk (below_drew (below_alloc (Below.refl w.heap.size w) (.cells #[.int .i64 0, .int .i64 0, .int .i64 0, .int .i64 0] 25)))
  have X0 := Aside0.mk (blk_drew (blk_new w (.cells #[.int .i64 0, .int .i64 0, .int .i64 0, .int .i64 0] 25)))
  go_enter Try.func62, Try.ntmps62
  go_wp2_with fail
  refine start_ (n := 6) (S := fun w' => w'.cell? ⟨w.heap.size, 0, none⟩ = some (.int .i64 0) ∧ w'.cell? ⟨w.heap.size, 1, none⟩ = some (.int .i64 0) ∧ w'.cell? ⟨w.heap.size, 2, none⟩ = some (.int .i64 0) ∧ w'.cell? ⟨w.heap.size, 3, none⟩ = some (.int .i64 0)) (ds := [4]) (lb 6 0) (by kernel_rfl) rfl rfl ⟨(blk_cell X0.out 0).trans rfl, (blk_cell X0.out 1).trans rfl, (blk_cell X0.out 2).trans rfl, (blk_cell X0.out 3).trans rfl⟩ (fun hHeld => ?_)
  refine pS (v := ?_) (a' := ?_) 0 (some 7) (lb 6 1) rfl rfl (by kernel_rfl) (fun _ _ _ h => h) (by rfl) ?_ ?_ ?_; rotate_left; (intro w'; go_simp; with_reducible rfl); rotate_left; (simp only [Act.put, List.setIfInBounds_toArray, List.set_cons_zero, List.set_cons_succ, i64_w, i32_w]; rfl)
  refine pS (v := ?_) (a' := ?_) 3 (some 10) (lb 6 9) rfl rfl (by kernel_rfl) (fun _ _ _ h => h) (by rfl) ?_ ?_ ?_; rotate_left; (intro w'; go_simp; with_reducible rfl); rotate_left; (simp only [Act.put, List.setIfInBounds_toArray, List.set_cons_zero, List.set_cons_succ, i64_w, i32_w]; rfl)
  refine tS (v := ?_) (a' := ?_) 2 (some 9) (lb 6 13) rfl rfl (by kernel_rfl) (fun _ _ _ h => h) hHeld (by rfl) ?_ ?_ ?_; rotate_left; (rintro w' ⟨s0, s1, s2, s3⟩; go_simp; with_reducible rfl); rotate_left; (simp only [Act.put, List.setIfInBounds_toArray, List.set_cons_zero, List.set_cons_succ, i64_w, i32_w]; rfl)
  refine one_ (i := 1) (N := some 8) (lb 6 15) rfl rfl (by kernel_rfl) (by decide) (fun K hK => ?_)
  refine goes_ Try.func105 (by kernel_rfl) rfl #[.pointer none] (by rfl) rfl rfl (by simp only [List.map_toArray, List.map_cons, List.map_nil]; rfl) ?_
  with_reducible refine (sunderNil_T _).mono ?_
  rintro e w5 ⟨rfl, rfl⟩
  refine ⟨_, rfl, ?_⟩
  refine hK.out _ _ ⟨(blk_cell X0.out 0).trans rfl, (blk_cell X0.out 1).trans rfl, (blk_cell X0.out 2).trans rfl, (blk_cell X0.out 3).trans rfl⟩ (fun hHeld => ?_)
  clear hK K
  refine norm_ (a' := ?_) ?_ ?_
  rotate_left
  · show Act.put _ (some 8) _ = _
    simp only [Act.put, List.setIfInBounds_toArray, List.set_cons_zero, List.set_cons_succ, i64_w, i32_w]
    rfl
  refine last_ (i := 4) (N := some 11) (lb 6 31) rfl rfl (by kernel_rfl) (by decide) (fun K hK => ?_)
  refine goes_ Try.func48 (by kernel_rfl) rfl #[.pointer none, Value.agg #[.int .i64 0, .int .i64 0, .int .i64 0, .int .i64 0], .int .u64 3] (by rfl) rfl rfl (by simp only [List.map_toArray, List.map_cons, List.map_nil]; rfl) ?_
  with_reducible refine (gaddNil_T 0 0 0 0 3 _).mono ?_
  rintro e w6 ⟨rfl, hb⟩
  refine ⟨_, rfl, ?_⟩
  have R2 := Aside0.mk (below_step JB.out hb)
  clear hb
  refine hK.out _ _ ?_
  clear hK K
  refine norm_ (a' := ?_) ?_ ?_
  rotate_left
  · show Act.put _ (some 11) _ = _
    simp only [Act.put, List.setIfInBounds_toArray, List.set_cons_zero, List.set_cons_succ, i64_w, i32_w]
    rfl
  refine pS (v := ?_) (a' := ?_) 5 (some 6) (lb 6 63) rfl rfl (by kernel_rfl) (fun _ _ _ h => h) (by rfl) ?_ ?_ ?_; rotate_left; (intro w'; go_simp; with_reducible rfl); rotate_left; (simp only [Act.put, List.setIfInBounds_toArray, List.set_cons_zero, List.set_cons_succ, i64_w, i32_w]; rfl)
  refine done_ (by kernel_rfl) ?_
  go_wp2_with fail
  go_ret
  exact ⟨rfl, R2.out⟩
set_option maxHeartbeats 4000000 in
set_option maxRecDepth 100000 in
theorem speekNil_T (w : World) : Calls Try.prog 64 #[.pointer none, .agg #[.int .i64 0, .int .i64 0, .int .i64 0]] w fun e w' => e = .returned (.int .u64 0) ∧ Below w.heap.size w w' := by
  have hu25 := Try.underlying25
  have hu28 := Try.underlying28
  have hu23 := Try.underlying23
  have JB := Aside0.mk (below_drew (below_alloc (Below.refl w.heap.size w) (.cells #[.int .i64 0, .int .i64 0, .int .i64 0] 23)))
  have X0 := Aside0.mk (blk_drew (blk_new w (.cells #[.int .i64 0, .int .i64 0, .int .i64 0] 23)))
  go_enter Try.func64, Try.ntmps64
  go_wp2_with fail
  refine start_ (n := 5) (S := fun w' => w'.cell? ⟨w.heap.size, 0, none⟩ = some (.int .i64 0) ∧ w'.cell? ⟨w.heap.size, 1, none⟩ = some (.int .i64 0) ∧ w'.cell? ⟨w.heap.size, 2, none⟩ = some (.int .i64 0)) (ds := [3]) (lb 5 0) (by kernel_rfl) rfl rfl ⟨(blk_cell X0.out 0).trans rfl, (blk_cell X0.out 1).trans rfl, (blk_cell X0.out 2).trans rfl⟩ (fun hHeld => ?_)
  refine pS (v := ?_) (a' := ?_) 0 (some 5) (lb 5 1) rfl rfl (by kernel_rfl) (fun _ _ _ h => h) (by rfl) ?_ ?_ ?_; rotate_left; (intro w'; go_simp; with_reducible rfl); rotate_left; (simp only [Act.put, List.setIfInBounds_toArray, List.set_cons_zero, List.set_cons_succ, i64_w, i32_w]; rfl)
  refine tS (v := ?_) (a' := ?_) 2 (some 7) (lb 5 5) rfl rfl (by kernel_rfl) (fun _ _ _ h => h) hHeld (by rfl) ?_ ?_ ?_; rotate_left; (rintro w' ⟨s0, s1, s2⟩; go_simp; with_reducible rfl); rotate_left; (simp only [Act.put, List.setIfInBounds_toArray, List.set_cons_zero, List.set_cons_succ, i64_w, i32_w]; rfl)
  refine one_ (i := 1) (N := some 6) (lb 5 7) rfl rfl (by kernel_rfl) (by decide) (fun K hK => ?_)
  refine goes_ Try.func105 (by kernel_rfl) rfl #[.pointer none] (by rfl) rfl rfl (by simp only [List.map_toArray, List.map_cons, List.map_nil]; rfl) ?_
  with_reducible refine (sunderNil_T _).mono ?_
  rintro e w5 ⟨rfl, rfl⟩
  refine ⟨_, rfl, ?_⟩
  refine hK.out _ _ ⟨(blk_cell X0.out 0).trans rfl, (blk_cell X0.out 1).trans rfl, (blk_cell X0.out 2).trans rfl⟩ (fun hHeld => ?_)
  clear hK K
  refine norm_ (a' := ?_) ?_ ?_
  rotate_left
  · show Act.put _ (some 6) _ = _
    simp only [Act.put, List.setIfInBounds_toArray, List.set_cons_zero, List.set_cons_succ, i64_w, i32_w]
    rfl
  refine last_ (i := 3) (N := some 8) (lb 5 15) rfl rfl (by kernel_rfl) (by decide) (fun K hK => ?_)
  refine goes_ Try.func49 (by kernel_rfl) rfl #[.pointer none, Value.agg #[.int .i64 0, .int .i64 0, .int .i64 0]] (by rfl) rfl rfl (by simp only [List.map_toArray, List.map_cons, List.map_nil]; rfl) ?_
  with_reducible refine (gpeekNil_T 0 0 0 _).mono ?_
  rintro e w6 ⟨rfl, hb⟩
  refine ⟨_, rfl, ?_⟩
  have R2 := Aside0.mk (below_step JB.out hb)
  clear hb
  refine hK.out _ _ ?_
  clear hK K
  refine norm_ (a' := ?_) ?_ ?_
  rotate_left
  · show Act.put _ (some 8) _ = _
    simp only [Act.put, List.setIfInBounds_toArray, List.set_cons_zero, List.set_cons_succ, i64_w, i32_w]
    rfl
  refine pS (v := ?_) (a' := ?_) 4 (some 4) (lb 5 31) rfl rfl (by kernel_rfl) (fun _ _ _ h => h) (by rfl) ?_ ?_ ?_; rotate_left; (intro w'; go_simp; with_reducible rfl); rotate_left; (simp only [Act.put, List.setIfInBounds_toArray, List.set_cons_zero, List.set_cons_succ, i64_w, i32_w]; rfl)
  refine done_ (by kernel_rfl) ?_
  go_wp2_with fail
  go_ret
  exact ⟨rfl, R2.out⟩
theorem sbornNil_T (slot : Int) (w : World) : Calls Try.prog 63 #[.pointer none, .int .i64 slot] w fun e w' => e = .returned (.int .i64 0) ∧ Below w.heap.size w w' := by
  go_enter Try.func63, Try.ntmps63
  go_wp2_with fail
  refine (sunderNil_T _).mono ?_
  rintro e w1 ⟨rfl, rfl⟩
  go_wp2_with fail
  refine (gbornNil_T slot _).mono ?_
  rintro e w2 ⟨rfl, hb⟩
  have R2 := Aside0.mk hb
  clear hb
  go_wp2_with fail
  go_ret
  exact ⟨rfl, R2.out⟩
theorem scellsNil_T (w : World) : Calls Try.prog 66 #[.pointer none] w fun e w' => e = .returned (.pointer none) ∧ Below w.heap.size w w' := by
  go_enter Try.func66, Try.ntmps66
  go_wp2_with fail
  refine (sunderNil_T _).mono ?_
  rintro e w1 ⟨rfl, rfl⟩
  go_wp2_with fail
  refine (gcellsNil_T _).mono ?_
  rintro e w2 ⟨rfl, hb⟩
  have R2 := Aside0.mk hb
  clear hb
  go_wp2_with fail
  go_ret
  exact ⟨rfl, R2.out⟩
set_option maxHeartbeats 4000000 in
set_option maxRecDepth 100000 in
theorem scountNil_T (w : World) : Calls Try.prog 65 #[.pointer none] w fun e w' => e = .returned (.agg #[.int .i64 0, .int .i64 0, .int .i64 0, .int .i64 0, .int .i64 0]) ∧ Below w.heap.size w w' := by
  have hu38 := Try.underlying38
  have X0 := Aside0.mk (blk_new w (.cells #[.int .i64 0, .int .i64 0, .int .i64 0, .int .i64 0, .int .i64 0] 38))
  go_enter Try.func65, Try.ntmps65
  go_wp2_with fail
  refine (sunderNil_T _).mono ?_
  rintro e w1 ⟨rfl, rfl⟩
  go_wp2_with fail
  refine (gcountNil_T _).mono ?_
  rintro e w2 ⟨rfl, hb⟩
  have Y0 := Aside0.mk (blk_below X0.out hb)
  have B := Aside0.mk (below_step (below_alloc (Below.refl w.heap.size w) (.cells #[.int .i64 0, .int .i64 0, .int .i64 0, .int .i64 0, .int .i64 0] 38)) hb)
  clear hb
  have z0 : w2.cell? ⟨w.heap.size, 0, none⟩ = some (.int .i64 0) := (blk_cell Y0.out 0).trans rfl
  have z1 : w2.cell? ⟨w.heap.size, 1, none⟩ = some (.int .i64 0) := (blk_cell Y0.out 1).trans rfl
  have z2 : w2.cell? ⟨w.heap.size, 2, none⟩ = some (.int .i64 0) := (blk_cell Y0.out 2).trans rfl
  have z3 : w2.cell? ⟨w.heap.size, 3, none⟩ = some (.int .i64 0) := (blk_cell Y0.out 3).trans rfl
  have z4 : w2.cell? ⟨w.heap.size, 4, none⟩ = some (.int .i64 0) := (blk_cell Y0.out 4).trans rfl
  have y0 : w2.frozen? ⟨w.heap.size, 0, none⟩ = false := blk_frozen Y0.out 0
  have y1 : w2.frozen? ⟨w.heap.size, 1, none⟩ = false := blk_frozen Y0.out 1
  have y2 : w2.frozen? ⟨w.heap.size, 2, none⟩ = false := blk_frozen Y0.out 2
  have y3 : w2.frozen? ⟨w.heap.size, 3, none⟩ = false := blk_frozen Y0.out 3
  have y4 : w2.frozen? ⟨w.heap.size, 4, none⟩ = false := blk_frozen Y0.out 4
  go_wp2_with fail
  exact bodyPost_ret (results_cell_row rfl _ _ w.heap.size 38 #[.int .i64 0, .int .i64 0, .int .i64 0, .int .i64 0, .int .i64 0] (0, 0) _ rfl (blk_put (blk_put (blk_put (blk_put (blk_put Y0.out 0 (.int .i64 0) rfl) 1 (.int .i64 0) rfl) 2 (.int .i64 0) rfl) 3 (.int .i64 0) rfl) 4 (.int .i64 0) rfl) Try.underlying38 rfl (by kernel_rfl)) rfl ⟨rfl, (((((B.out.setCell (p := ⟨w.heap.size, 0, none⟩) (Nat.le_refl _) _).setCell (p := ⟨w.heap.size, 1, none⟩) (Nat.le_refl _) _).setCell (p := ⟨w.heap.size, 2, none⟩) (Nat.le_refl _) _).setCell (p := ⟨w.heap.size, 3, none⟩) (Nat.le_refl _) _).setCell (p := ⟨w.heap.size, 4, none⟩) (Nat.le_refl _) _)⟩
set_option maxHeartbeats 4000000 in
set_option maxRecDepth 100000 in
theorem sloadNil_T (w : World) : Calls Try.prog 60 #[.pointer none, .agg #[.int .i64 0, .int .i64 0, .int .i64 0, .int .i64 0]] w fun e w' => e = .returned (.agg #[.int .u64 0, .int .i64 0, .bool false]) ∧ Below w.heap.size w w' := by
  have hu25 := Try.underlying25
  have hu28 := Try.underlying28
  have hu23 := Try.underlying23
  have JB := Aside0.mk (below_drew (below_alloc (below_alloc (Below.refl w.heap.size w) (.cells #[.int .i64 0, .int .i64 0, .int .i64 0, .int .i64 0] 25)) (.cells #[.int .u64 0, .int .i64 0, .bool false] 28)))
  have X0 := Aside0.mk (blk_drew (blk_alloc (blk_new w (.cells #[.int .i64 0, .int .i64 0, .int .i64 0, .int .i64 0] 25)) (.cells #[.int .u64 0, .int .i64 0, .bool false] 28)))
  have X1 := Aside0.mk (blk_drew (blk_new2 w (.cells #[.int .i64 0, .int .i64 0, .int .i64 0, .int .i64 0] 25) (.cells #[.int .u64 0, .int .i64 0, .bool false] 28)))
  go_enter Try.func60, Try.ntmps60
  go_wp2_with fail
  refine start_ (n := 6) (S := fun w' => w'.cell? ⟨w.heap.size, 0, none⟩ = some (.int .i64 0) ∧ w'.cell? ⟨w.heap.size, 1, none⟩ = some (.int .i64 0) ∧ w'.cell? ⟨w.heap.size, 2, none⟩ = some (.int .i64 0) ∧ w'.cell? ⟨w.heap.size, 3, none⟩ = some (.int .i64 0)) (ds := [5]) (lb 6 0) (by kernel_rfl) rfl rfl ⟨(blk_cell X0.out 0).trans rfl, (blk_cell X0.out 1).trans rfl, (blk_cell X0.out 2).trans rfl, (blk_cell X0.out 3).trans rfl⟩ (fun hHeld => ?_)
  refine pS (v := ?_) (a' := ?_) 0 (some 6) (lb 6 1) rfl rfl (by kernel_rfl) (fun _ _ _ h => h) (by rfl) ?_ ?_ ?_; rotate_left; (intro w'; go_simp; with_reducible rfl); rotate_left; (simp only [Act.put, List.setIfInBounds_toArray, List.set_cons_zero, List.set_cons_succ, i64_w, i32_w]; rfl)
  refine tS (v := ?_) (a' := ?_) 2 (some 8) (lb 6 5) rfl rfl (by kernel_rfl) (fun _ _ _ h => h) hHeld (by rfl) ?_ ?_ ?_; rotate_left; (rintro w' ⟨s0, s1, s2, s3⟩; go_simp; with_reducible rfl); rotate_left; (simp only [Act.put, List.setIfInBounds_toArray, List.set_cons_zero, List.set_cons_succ, i64_w, i32_w]; rfl)
  refine join_ (σ := Nat) 1 (lb 6 31) (fun s_ => [(7, .pointer none), (9, .agg #[.int .u64 0, .int .i64 0, .bool false]), (5, .pointer (some ⟨s_, 0, none⟩))]) (fun s_ w' => (w'.cell? ⟨w.heap.size, 0, none⟩ = some (.int .i64 0) ∧ w'.cell? ⟨w.heap.size, 1, none⟩ = some (.int .i64 0) ∧ w'.cell? ⟨w.heap.size, 2, none⟩ = some (.int .i64 0) ∧ w'.cell? ⟨w.heap.size, 3, none⟩ = some (.int .i64 0)) ∧ Below w.heap.size w w' ∧ w'.heap[w.heap.size + 1]? = some (.cells #[.int .u64 0, .int .i64 0, .bool false] 28 (0, 0)) ∧ w'.heap[s_]? = some (.cells #[.int .u64 0, .int .i64 0, .bool false] 28 (0, 0)) ∧ w.heap.size + 1 < s_) ?_ ?_
  rotate_left
  · intro hCont
    refine two_ (i := 1) (j := 4) (Ni := some 7) (Nj := some 5) (lb 6 7) (lb 6 21) rfl rfl rfl rfl (by kernel_rfl) (by decide) (by decide) (fun K hK => ?_) (fun K hK => ?_)
    · skip
      refine goes_ Try.func105 (by kernel_rfl) rfl #[.pointer none] (by rfl) rfl rfl (by simp only [List.map_toArray, List.map_cons, List.map_nil]; rfl) ?_
      with_reducible refine (sunderNil_T _).mono ?_
      rintro e wU ⟨rfl, rfl⟩
      refine ⟨_, rfl, ?_⟩
      refine hK.out _ _ ⟨(blk_cell X0.out 0).trans rfl, (blk_cell X0.out 1).trans rfl, (blk_cell X0.out 2).trans rfl, (blk_cell X0.out 3).trans rfl⟩ (fun hHeld => ?_)
      clear hK K
      refine norm_ (a' := ?_) ?_ ?_
      rotate_left
      · show Act.put _ (some 7) _ = _
        simp only [Act.put, List.setIfInBounds_toArray, List.set_cons_zero, List.set_cons_succ, i64_w, i32_w]
        rfl
      refine two_ (i := 3) (j := 4) (Ni := some 9) (Nj := some 5) (lb 6 15) (lb 6 23) rfl rfl rfl rfl (by kernel_rfl) (by decide) (by decide) (fun K hK => ?_) (fun K hK => ?_)
      · skip
        refine goes_ Try.func42 (by kernel_rfl) rfl #[.pointer none, Value.agg #[.int .i64 0, .int .i64 0, .int .i64 0, .int .i64 0]] (by rfl) rfl rfl (by simp only [List.map_toArray, List.map_cons, List.map_nil]; rfl) ?_
        with_reducible refine (gloadNil_T 0 0 0 0 _).mono ?_
        rintro e wS ⟨rfl, hb⟩
        refine ⟨_, rfl, ?_⟩
        have JBn := Aside0.mk (below_step JB.out hb)
        have X0n := Aside0.mk (blk_below X0.out hb)
        have X1n := Aside0.mk (blk_below X1.out hb)
        clear JB X0 X1
        have JB := JBn
        have X0 := X0n
        have X1 := X1n
        clear JBn X0n X1n
        clear hb
        refine hK.out _ _ ⟨(blk_cell X0.out 0).trans rfl, (blk_cell X0.out 1).trans rfl, (blk_cell X0.out 2).trans rfl, (blk_cell X0.out 3).trans rfl⟩ (fun hHeld => ?_)
        clear hK K
        refine norm_ (a' := ?_) ?_ ?_
        rotate_left
        · show Act.put _ (some 9) _ = _
          simp only [Act.put, List.setIfInBounds_toArray, List.set_cons_zero, List.set_cons_succ, i64_w, i32_w]
          rfl
        refine one_ (i := 4) (N := some 5) (lb 6 31) rfl rfl (by kernel_rfl) (by decide) (fun K hK => ?_)
        refine box_step ?hg (N := 5) ?hd (cs := #[.int .u64 0, .int .i64 0, .bool false]) (t := 28) ?hr ?_; (case hd => rfl); (case hg => rfl); (case hr => first | (go_simp; done) | (go_simp; rfl))
        intro gS hg wA hbox hb
        have JBn := Aside0.mk (below_step JB.out hb)
        have X0n := Aside0.mk (blk_below X0.out hb)
        have X1n := Aside0.mk (blk_below X1.out hb)
        have GW := Aside0.mk (show w.heap.size + 1 < gS by rw [hg]; exact blk_lt X1.out)
        have GS := Aside0.mk hbox
        clear JB X0 X1
        have JB := JBn
        have X0 := X0n
        have X1 := X1n
        clear JBn X0n X1n
        clear hg hbox hb
        refine hK.out _ _ ⟨(blk_cell X0.out 0).trans rfl, (blk_cell X0.out 1).trans rfl, (blk_cell X0.out 2).trans rfl, (blk_cell X0.out 3).trans rfl⟩ (fun hHeld => ?_)
        clear hK K
        refine norm_ (a' := ?_) ?_ ?_
        rotate_left
        · show Act.put _ (some 5) _ = _
          simp only [Act.put, List.setIfInBounds_toArray, List.set_cons_zero, List.set_cons_succ, i64_w, i32_w]
          rfl
        exact norm_ (by simp only [putAll, Act.put, List.setIfInBounds_toArray, List.set_cons_zero, List.set_cons_succ]) (hCont gS _ ⟨hHeld, JB.out, X1.out, GS.out, GW.out⟩)
      · skip
        refine box_step ?hg (N := 5) ?hd (cs := #[.int .u64 0, .int .i64 0, .bool false]) (t := 28) ?hr ?_; (case hd => rfl); (case hg => rfl); (case hr => first | (go_simp; done) | (go_simp; rfl))
        intro gS hg wA hbox hb
        have JBn := Aside0.mk (below_step JB.out hb)
        have X0n := Aside0.mk (blk_below X0.out hb)
        have X1n := Aside0.mk (blk_below X1.out hb)
        have GW := Aside0.mk (show w.heap.size + 1 < gS by rw [hg]; exact blk_lt X1.out)
        have GS := Aside0.mk hbox
        clear JB X0 X1
        have JB := JBn
        have X0 := X0n
        have X1 := X1n
        clear JBn X0n X1n
        clear hg hbox hb
        refine hK.out _ _ ⟨(blk_cell X0.out 0).trans rfl, (blk_cell X0.out 1).trans rfl, (blk_cell X0.out 2).trans rfl, (blk_cell X0.out 3).trans rfl⟩ (fun hHeld => ?_)
        clear hK K
        refine norm_ (a' := ?_) ?_ ?_
        rotate_left
        · show Act.put _ (some 5) _ = _
          simp only [Act.put, List.setIfInBounds_toArray, List.set_cons_zero, List.set_cons_succ, i64_w, i32_w]
          rfl
        refine one_ (i := 3) (N := some 9) (lb 6 31) rfl rfl (by kernel_rfl) (by decide) (fun K hK => ?_)
        refine goes_ Try.func42 (by kernel_rfl) rfl #[.pointer none, Value.agg #[.int .i64 0, .int .i64 0, .int .i64 0, .int .i64 0]] (by rfl) rfl rfl (by simp only [List.map_toArray, List.map_cons, List.map_nil]; rfl) ?_
        with_reducible refine (gloadNil_T 0 0 0 0 _).mono ?_
        rintro e wS ⟨rfl, hb⟩
        refine ⟨_, rfl, ?_⟩
        have JBn := Aside0.mk (below_step JB.out hb)
        have X0n := Aside0.mk (blk_below X0.out hb)
        have X1n := Aside0.mk (blk_below X1.out hb)
        have GSn := Aside0.mk (blk_below GS.out hb)
        clear GS
        have GS := GSn
        clear GSn
        clear JB X0 X1
        have JB := JBn
        have X0 := X0n
        have X1 := X1n
        clear JBn X0n X1n
        clear hb
        refine hK.out _ _ ⟨(blk_cell X0.out 0).trans rfl, (blk_cell X0.out 1).trans rfl, (blk_cell X0.out 2).trans rfl, (blk_cell X0.out 3).trans rfl⟩ (fun hHeld => ?_)
        clear hK K
        refine norm_ (a' := ?_) ?_ ?_
        rotate_left
        · show Act.put _ (some 9) _ = _
          simp only [Act.put, List.setIfInBounds_toArray, List.set_cons_zero, List.set_cons_succ, i64_w, i32_w]
          rfl
        exact norm_ (by simp only [putAll, Act.put, List.setIfInBounds_toArray, List.set_cons_zero, List.set_cons_succ]) (hCont gS _ ⟨hHeld, JB.out, X1.out, GS.out, GW.out⟩)
    · skip
      refine box_step ?hg (N := 5) ?hd (cs := #[.int .u64 0, .int .i64 0, .bool false]) (t := 28) ?hr ?_; (case hd => rfl); (case hg => rfl); (case hr => first | (go_simp; done) | (go_simp; rfl))
      intro gS hg wA hbox hb
      have JBn := Aside0.mk (below_step JB.out hb)
      have X0n := Aside0.mk (blk_below X0.out hb)
      have X1n := Aside0.mk (blk_below X1.out hb)
      have GW := Aside0.mk (show w.heap.size + 1 < gS by rw [hg]; exact blk_lt X1.out)
      have GS := Aside0.mk hbox
      clear JB X0 X1
      have JB := JBn
      have X0 := X0n
      have X1 := X1n
      clear JBn X0n X1n
      clear hg hbox hb
      refine hK.out _ _ ⟨(blk_cell X0.out 0).trans rfl, (blk_cell X0.out 1).trans rfl, (blk_cell X0.out 2).trans rfl, (blk_cell X0.out 3).trans rfl⟩ (fun hHeld => ?_)
      clear hK K
      refine norm_ (a' := ?_) ?_ ?_
      rotate_left
      · show Act.put _ (some 5) _ = _
        simp only [Act.put, List.setIfInBounds_toArray, List.set_cons_zero, List.set_cons_succ, i64_w, i32_w]
        rfl
      refine one_ (i := 1) (N := some 7) (lb 6 23) rfl rfl (by kernel_rfl) (by decide) (fun K hK => ?_)
      refine goes_ Try.func105 (by kernel_rfl) rfl #[.pointer none] (by rfl) rfl rfl (by simp only [List.map_toArray, List.map_cons, List.map_nil]; rfl) ?_
      with_reducible refine (sunderNil_T _).mono ?_
      rintro e wU ⟨rfl, rfl⟩
      refine ⟨_, rfl, ?_⟩
      refine hK.out _ _ ⟨(blk_cell X0.out 0).trans rfl, (blk_cell X0.out 1).trans rfl, (blk_cell X0.out 2).trans rfl, (blk_cell X0.out 3).trans rfl⟩ (fun hHeld => ?_)
      clear hK K
      refine norm_ (a' := ?_) ?_ ?_
      rotate_left
      · show Act.put _ (some 7) _ = _
        simp only [Act.put, List.setIfInBounds_toArray, List.set_cons_zero, List.set_cons_succ, i64_w, i32_w]
        rfl
      refine one_ (i := 3) (N := some 9) (lb 6 31) rfl rfl (by kernel_rfl) (by decide) (fun K hK => ?_)
      refine goes_ Try.func42 (by kernel_rfl) rfl #[.pointer none, Value.agg #[.int .i64 0, .int .i64 0, .int .i64 0, .int .i64 0]] (by rfl) rfl rfl (by simp only [List.map_toArray, List.map_cons, List.map_nil]; rfl) ?_
      with_reducible refine (gloadNil_T 0 0 0 0 _).mono ?_
      rintro e wS ⟨rfl, hb⟩
      refine ⟨_, rfl, ?_⟩
      have JBn := Aside0.mk (below_step JB.out hb)
      have X0n := Aside0.mk (blk_below X0.out hb)
      have X1n := Aside0.mk (blk_below X1.out hb)
      have GSn := Aside0.mk (blk_below GS.out hb)
      clear GS
      have GS := GSn
      clear GSn
      clear JB X0 X1
      have JB := JBn
      have X0 := X0n
      have X1 := X1n
      clear JBn X0n X1n
      clear hb
      refine hK.out _ _ ⟨(blk_cell X0.out 0).trans rfl, (blk_cell X0.out 1).trans rfl, (blk_cell X0.out 2).trans rfl, (blk_cell X0.out 3).trans rfl⟩ (fun hHeld => ?_)
      clear hK K
      refine norm_ (a' := ?_) ?_ ?_
      rotate_left
      · show Act.put _ (some 9) _ = _
        simp only [Act.put, List.setIfInBounds_toArray, List.set_cons_zero, List.set_cons_succ, i64_w, i32_w]
        rfl
      exact norm_ (by simp only [putAll, Act.put, List.setIfInBounds_toArray, List.set_cons_zero, List.set_cons_succ]) (hCont gS _ ⟨hHeld, JB.out, X1.out, GS.out, GW.out⟩)
  rintro gS wF ⟨hHeld, f1_, f2_, f3_, f4_⟩
  have JB := Aside0.mk f1_
  have X1 := Aside0.mk (show wF.heap[w.heap.size + 1]? = some (.cells #[.int .u64 0, .int .i64 0, .bool false] 28 (0, 0)) from f2_)
  have GS := Aside0.mk (show wF.heap[gS]? = some (.cells #[.int .u64 0, .int .i64 0, .bool false] 28 (0, 0)) from f3_)
  have GW := Aside0.mk (show w.heap.size + 1 < gS from f4_)
  clear f1_ f2_ f3_ f4_
  refine norm_ (a' := ?_) ?_ ?_
  rotate_left
  · simp only [putAll, Act.put, List.setIfInBounds_toArray, List.set_cons_zero, List.set_cons_succ]
    rfl
  refine last_ (i := 5) (N := none) (lb 6 63) rfl rfl (by kernel_rfl) (by decide) (fun K hK => ?_)
  have z0 : wF.cell? ⟨gS, 0, none⟩ = some (.int .u64 0) := (blk_cell GS.out 0).trans rfl
  have z1 : wF.cell? ⟨gS, 1, none⟩ = some (.int .i64 0) := (blk_cell GS.out 1).trans rfl
  have z2 : wF.cell? ⟨gS, 2, none⟩ = some (.bool false) := (blk_cell GS.out 2).trans rfl
  have y0 : wF.frozen? ⟨gS, 0, none⟩ = false := blk_frozen GS.out 0
  have y1 : wF.frozen? ⟨gS, 1, none⟩ = false := blk_frozen GS.out 1
  have y2 : wF.frozen? ⟨gS, 2, none⟩ = false := blk_frozen GS.out 2
  refine skip_ (w1 := ?_) (by rfl) rfl ?_ ?_
  rotate_left
  · go_simp
    rfl
  clear z0 z1 z2 y0 y1 y2
  refine hK.out _ _ ?_
  clear hK K
  refine done_ (by kernel_rfl) ?_
  have P0 := blk_put GS.out 0 (.int .u64 0) rfl
  have P1 := blk_put P0 1 (.int .i64 0) rfl
  have GT := Aside0.mk (blk_put P1 2 (.bool false) rfl)
  have NB := Aside0.mk (show w.heap.size + 1 ≠ gS by have := GW.out; omega)
  have GE : w.heap.size ≤ gS := by have := GW.out; omega
  have KB := Aside0.mk (((JB.out.setCell (p := ⟨gS, 0, none⟩) GE (.int .u64 0)).setCell (p := ⟨gS, 1, none⟩) GE (.int .i64 0)).setCell (p := ⟨gS, 2, none⟩) GE (.bool false))
  have Y1 := Aside0.mk (blk_far (p := ⟨gS, 2, none⟩) (blk_far (p := ⟨gS, 1, none⟩) (blk_far (p := ⟨gS, 0, none⟩) X1.out NB.out (.int .u64 0)) NB.out (.int .i64 0)) NB.out (.bool false))
  clear P0 P1 GE JB X0 X1 GS
  generalize ((wF.setCell ⟨gS, 0, none⟩ (.int .u64 0)).setCell ⟨gS, 1, none⟩ (.int .i64 0)).setCell ⟨gS, 2, none⟩ (.bool false) = w7 at *
  have x0 : w7.cell? ⟨gS, 0, none⟩ = some (.int .u64 0) := (blk_cell GT.out 0).trans rfl
  have x1 : w7.cell? ⟨gS, 1, none⟩ = some (.int .i64 0) := (blk_cell GT.out 1).trans rfl
  have x2 : w7.cell? ⟨gS, 2, none⟩ = some (.bool false) := (blk_cell GT.out 2).trans rfl
  have v0 : w7.cell? ⟨w.heap.size + 1, 0, none⟩ = some (.int .u64 0) := (blk_cell Y1.out 0).trans rfl
  have v1 : w7.cell? ⟨w.heap.size + 1, 1, none⟩ = some (.int .i64 0) := (blk_cell Y1.out 1).trans rfl
  have v2 : w7.cell? ⟨w.heap.size + 1, 2, none⟩ = some (.bool false) := (blk_cell Y1.out 2).trans rfl
  have q0 : w7.frozen? ⟨w.heap.size + 1, 0, none⟩ = false := blk_frozen Y1.out 0
  have q1 : w7.frozen? ⟨w.heap.size + 1, 1, none⟩ = false := blk_frozen Y1.out 1
  have q2 : w7.frozen? ⟨w.heap.size + 1, 2, none⟩ = false := blk_frozen Y1.out 2
  go_wp2_with fail
  exact bodyPost_ret (results_cell_row rfl _ _ (w.heap.size + 1) 28 #[.int .u64 0, .int .i64 0, .bool false] (0, 0) _ rfl (blk_put (blk_put (blk_put Y1.out 0 (.int .u64 0) rfl) 1 (.int .i64 0) rfl) 2 (.bool false) rfl) Try.underlying28 rfl (by kernel_rfl)) rfl ⟨rfl, ((KB.out.setCell (p := ⟨w.heap.size + 1, 0, none⟩) (by show w.heap.size ≤ w.heap.size + 1; omega) _).setCell (p := ⟨w.heap.size + 1, 1, none⟩) (by show w.heap.size ≤ w.heap.size + 1; omega) _).setCell (p := ⟨w.heap.size + 1, 2, none⟩) (by show w.heap.size ≤ w.heap.size + 1; omega) _⟩
end Go.Proofs.Ytlpnggapndokeaa.PIdealKeeps

