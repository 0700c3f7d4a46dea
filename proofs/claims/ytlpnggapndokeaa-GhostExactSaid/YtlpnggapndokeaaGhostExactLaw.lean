/-
The law GhostExact.
-/
import Derived.Test.YtlpnggapndokeaaRefG
import Derived.Test.YtlpnggapndokeaaGhostAw
import Derived.Test.YtlpnggapndokeaaGhostKinds
namespace Go.Proofs.Ytlpnggapndokeaa.PIdealKeeps
open Go Go.RowKit Go.Proofs.YtlpnggapndokeaaW.PrintWords Go.Proofs.YtlpnggapndokeaaW.PrintLast Go.Proofs.YtlpnggapndokeaaW.PrintMore Go.Proofs.Ytlpnggapndokeaa.M Go.Proofs.Ytlpnggapndokeaa.U
attribute [local go_sem] max2_int min2_int max_two min_two max_three min_three max_four min_four
set_option linter.unusedVariables false
set_option linter.unusedSimpArgs false
/-- What an act leaves. -/
def D8Post (w0 : World) (gg gp gc gm gl gs g3 gu : Nat)  (n : Nat) (e : Ending) (w' : World) : Prop :=
  e = .returned (.bool true) ∧ ∃ G' U', GhostIs w0 w' gg gp gc gm gl gs g3 G' ∧ RefAt w0 w' gu 76 (.int .i64 G'.faults :: .int .i64 G'.stale :: []) (rowAt w' gs) U' ∧ Rel8 G' U' ∧ Below w0.heap.size w0 w' ∧ Lok U' (n + 1) ∧ StOk G' (n + 1)
set_option maxHeartbeats 16000000 in
set_option maxRecDepth 100000 in
theorem does8_T (gg gp gc gm gl gs g3 gu : Nat)  (G : GSt) (U : RSt) (kd pk ps pp id ox oy : Int) (ost : Bool) (vx vy : Int) (vst : Bool) (n : Nat) (w0 w : World) (hI : GhostIs w0 w gg gp gc gm gl gs g3 G) (hQ : RefAt w0 w gu 76 (.int .i64 G.faults :: .int .i64 G.stale :: []) (rowAt w gs) U) (hB : Below w0.heap.size w0 w) (hR : Rel8 G U) (hL : Lok U n) (hn : n ≤ 10000) (hS : StOk G n) (hy : 0 ≤ vy ∧ vy < 9223372036854775808) :
    Calls Try.prog 47 #[.pointer (some ⟨gg, 0, none⟩), .pointer (some ⟨gu, 0, none⟩), .agg #[.int .i64 kd, .int .i64 pk, .int .i64 ps, .int .i64 pp, .int .i64 id, .int .u64 ox, .int .i64 oy, .bool ost, .int .u64 vx, .int .i64 vy, .bool vst]] w (D8Post w0 gg gp gc gm gl gs g3 gu  n) := by
  have hu25 := Try.underlying25
  have hu28 := Try.underlying28
  have hu23 := Try.underlying23
  have hu70 := Try.underlying70
  have hu74 := Try.underlying74
  have hu76 := Try.underlying76
  have e28 := eq28
  have HT := Aside0.mk (show TyOk 76 by unfold TyOk; decide)
  have HO := Aside0.mk hI.plain.cells.once
  have HR := Aside0.mk hR
  have HY := Aside0.mk hy
  have HL := Aside0.mk hL
  have HN := Aside0.mk hn
  have HS := Aside0.mk hS
  have LL := Aside0.mk (show U.W.length ≤ 100000 ∧ U.L.length ≤ 100000 ∧ U.R.length ≤ 100000 by have := hL.1; have := hL.2.1; have := hL.2.2; omega)
  have LA := Aside0.mk (show G.row.length ≤ 100000 by rw [hR.row]; exact LL.out.2.2)
  obtain ⟨cu, hcu⟩ : ∃ z, oget U.W (pk, ps, pp) = z := ⟨_, rfl⟩
  obtain ⟨ld, hld⟩ : ∃ z, oget U.L (pk, ps, pp) = z := ⟨_, rfl⟩
  have CU := Aside0.mk hcu
  have LD := Aside0.mk hld
  have LR := Aside0.mk (show 0 ≤ ld ∧ ld < 9223372036854775808 by rw [← hld]; exact hR.rng _)
  have CW := Aside0.mk (show getw G.p.m (pk, ps, pp) = cu by rw [hR.words]; exact hcu)
  have CL := Aside0.mk (show (get G.leads (pk, ps, pp)).getD 0 = ld by rw [hR.leads]; exact hld)
  have X1 := Aside0.mk (blk_alloc (blk_new w (.cells #[.int .i64 kd, .int .i64 pk, .int .i64 ps, .int .i64 pp, .int .i64 id, .int .u64 ox, .int .i64 oy, .bool ost, .int .u64 vx, .int .i64 vy, .bool vst] 70)) (.cells #[.int .i64 pk, .int .i64 ps, .int .i64 pp] 23))
  have P1 := Aside0.mk (blk_new2 w (.cells #[.int .i64 kd, .int .i64 pk, .int .i64 ps, .int .i64 pp, .int .i64 id, .int .u64 ox, .int .i64 oy, .bool ost, .int .u64 vx, .int .i64 vy, .bool vst] 70) (.cells #[.int .i64 pk, .int .i64 ps, .int .i64 pp] 23))
  have BB := below_alloc (below_alloc (Below.refl w.heap.size w) (.cells #[.int .i64 kd, .int .i64 pk, .int .i64 ps, .int .i64 pp, .int .i64 id, .int .u64 ox, .int .i64 oy, .bool ost, .int .u64 vx, .int .i64 vy, .bool vst] 70)) (.cells #[.int .i64 pk, .int .i64 ps, .int .i64 pp] 23)
  have M1 := Aside0.mk (hI.below BB)
  have Q1 := Aside0.mk (refMove (hI.rowSame (fun cs hc => blk_below hc BB)) (hQ.below BB))
  have B1 := Aside0.mk (below_alloc (below_alloc hB (.cells #[.int .i64 kd, .int .i64 pk, .int .i64 ps, .int .i64 pp, .int .i64 id, .int .u64 ox, .int .i64 oy, .bool ost, .int .u64 vx, .int .i64 vy, .bool vst] 70)) (.cells #[.int .i64 pk, .int .i64 ps, .int .i64 pp] 23))
  clear hI hQ hB hR hL hn hS hy hcu hld BB 
  go_enter Try.func47, Try.ntmps47
  by_cases k1 : kd = 1
  · subst k1
    have b0 : ((w.alloc (.cells #[.int .i64 1, .int .i64 pk, .int .i64 ps, .int .i64 pp, .int .i64 id, .int .u64 ox, .int .i64 oy, .bool ost, .int .u64 vx, .int .i64 vy, .bool vst] 70)).alloc (.cells #[.int .i64 pk, .int .i64 ps, .int .i64 pp] 23)).cell? ⟨w.heap.size, 0, none⟩ = some (.int .i64 1) := (blk_cell X1.out 0).trans rfl
    have b4 : ((w.alloc (.cells #[.int .i64 1, .int .i64 pk, .int .i64 ps, .int .i64 pp, .int .i64 id, .int .u64 ox, .int .i64 oy, .bool ost, .int .u64 vx, .int .i64 vy, .bool vst] 70)).alloc (.cells #[.int .i64 pk, .int .i64 ps, .int .i64 pp] 23)).cell? ⟨w.heap.size, 4, none⟩ = some (.int .i64 id) := (blk_cell X1.out 4).trans rfl
    have p0 : ((w.alloc (.cells #[.int .i64 1, .int .i64 pk, .int .i64 ps, .int .i64 pp, .int .i64 id, .int .u64 ox, .int .i64 oy, .bool ost, .int .u64 vx, .int .i64 vy, .bool vst] 70)).alloc (.cells #[.int .i64 pk, .int .i64 ps, .int .i64 pp] 23)).cell? ⟨(w.heap.size + 1), 0, none⟩ = some (.int .i64 pk) := (blk_cell P1.out 0).trans rfl
    have p1 : ((w.alloc (.cells #[.int .i64 1, .int .i64 pk, .int .i64 ps, .int .i64 pp, .int .i64 id, .int .u64 ox, .int .i64 oy, .bool ost, .int .u64 vx, .int .i64 vy, .bool vst] 70)).alloc (.cells #[.int .i64 pk, .int .i64 ps, .int .i64 pp] 23)).cell? ⟨(w.heap.size + 1), 1, none⟩ = some (.int .i64 ps) := (blk_cell P1.out 1).trans rfl
    have p2 : ((w.alloc (.cells #[.int .i64 1, .int .i64 pk, .int .i64 ps, .int .i64 pp, .int .i64 id, .int .u64 ox, .int .i64 oy, .bool ost, .int .u64 vx, .int .i64 vy, .bool vst] 70)).alloc (.cells #[.int .i64 pk, .int .i64 ps, .int .i64 pp] 23)).cell? ⟨(w.heap.size + 1), 2, none⟩ = some (.int .i64 pp) := (blk_cell P1.out 2).trans rfl
    go_wp2_with fail
    clear b0 b4 p0 p1 p2
    generalize ((w.alloc (.cells #[.int .i64 1, .int .i64 pk, .int .i64 ps, .int .i64 pp, .int .i64 id, .int .u64 ox, .int .i64 oy, .bool ost, .int .u64 vx, .int .i64 vy, .bool vst] 70)).alloc (.cells #[.int .i64 pk, .int .i64 ps, .int .i64 pp] 23)) = w1 at *
    refine (rload8_T pk ps pp id ld Q1.out B1.out HT.out.three LL.out LD.out LR.out).mono ?_
    rintro e w2 ⟨rfl, h1_, h2_, h3_⟩
    rw [CU.out]
    have M2 := Aside0.mk (ghostS M1.out HT.out h3_).1
    have Q2 := Aside0.mk (refMove (ghostS M1.out HT.out h3_).2 h1_)
    have B2 := Aside0.mk h2_
    have X2 := Aside0.mk (refS_stays h3_ X1.out (by decide) (by decide))
    have P2 := Aside0.mk (refS_stays h3_ P1.out (by decide) (by decide))
    clear h1_ h2_ h3_
    obtain ⟨sr, hsr⟩ : ∃ z, rst U pk ps id = z := ⟨_, rfl⟩
    rw [hsr]
    have SR := Aside0.mk (show staleR G pk ps id = sr by rw [HR.out.stale]; exact hsr)
    clear hsr
    have b1 : w2.cell? ⟨w.heap.size, 1, none⟩ = some (.int .i64 pk) := (blk_cell X2.out 1).trans rfl
    have b2 : w2.cell? ⟨w.heap.size, 2, none⟩ = some (.int .i64 ps) := (blk_cell X2.out 2).trans rfl
    have b3 : w2.cell? ⟨w.heap.size, 3, none⟩ = some (.int .i64 pp) := (blk_cell X2.out 3).trans rfl
    have b4 : w2.cell? ⟨w.heap.size, 4, none⟩ = some (.int .i64 id) := (blk_cell X2.out 4).trans rfl
    go_wp2_with fail
    clear b1 b2 b3 b4
    refine (gload_U gg gp gc gm gl gs g3 G pk ps pp id w0 _ M2.out B2.out).mono ?_
    rintro e w3 ⟨rfl, h1_, h2_, h3_⟩
    rw [CW.out, CL.out, SR.out]
    have M3 := Aside0.mk h1_
    have Q3 := Aside0.mk (refT M2.out Q2.out HT.out h3_)
    have B3 := Aside0.mk h2_
    clear h1_ h2_ h3_
    have te : ∀ d W, (Op.equalIn (d + 2) 28 (.agg #[.int .u64 cu, .int .i64 ld, .bool sr]) (.agg #[.int .u64 cu, .int .i64 ld, .bool sr])).run Try.prog W = .ok true W := fun d W => by rw [eq28]; simp
    clear e28
    go_wp2_with fail
    go_ret
    exact ⟨rfl, gloadG G (pk, ps, pp) id, U, M3.out, (by rw [HR.out.loadS]; exact Q3.out), HR.out.load _ _, B3.out, lok_same HL.out, stOk_load HS.out HN.out _ _⟩
  have u1 : (kd == 1) = false := beq_eq_false_iff_ne.mpr k1
  clear k1
  by_cases k2 : kd = 2
  · subst k2
    have b0 : ((w.alloc (.cells #[.int .i64 2, .int .i64 pk, .int .i64 ps, .int .i64 pp, .int .i64 id, .int .u64 ox, .int .i64 oy, .bool ost, .int .u64 vx, .int .i64 vy, .bool vst] 70)).alloc (.cells #[.int .i64 pk, .int .i64 ps, .int .i64 pp] 23)).cell? ⟨w.heap.size, 0, none⟩ = some (.int .i64 2) := (blk_cell X1.out 0).trans rfl
    have b1 : ((w.alloc (.cells #[.int .i64 2, .int .i64 pk, .int .i64 ps, .int .i64 pp, .int .i64 id, .int .u64 ox, .int .i64 oy, .bool ost, .int .u64 vx, .int .i64 vy, .bool vst] 70)).alloc (.cells #[.int .i64 pk, .int .i64 ps, .int .i64 pp] 23)).cell? ⟨w.heap.size, 1, none⟩ = some (.int .i64 pk) := (blk_cell X1.out 1).trans rfl
    have b2 : ((w.alloc (.cells #[.int .i64 2, .int .i64 pk, .int .i64 ps, .int .i64 pp, .int .i64 id, .int .u64 ox, .int .i64 oy, .bool ost, .int .u64 vx, .int .i64 vy, .bool vst] 70)).alloc (.cells #[.int .i64 pk, .int .i64 ps, .int .i64 pp] 23)).cell? ⟨w.heap.size, 2, none⟩ = some (.int .i64 ps) := (blk_cell X1.out 2).trans rfl
    have b3 : ((w.alloc (.cells #[.int .i64 2, .int .i64 pk, .int .i64 ps, .int .i64 pp, .int .i64 id, .int .u64 ox, .int .i64 oy, .bool ost, .int .u64 vx, .int .i64 vy, .bool vst] 70)).alloc (.cells #[.int .i64 pk, .int .i64 ps, .int .i64 pp] 23)).cell? ⟨w.heap.size, 3, none⟩ = some (.int .i64 pp) := (blk_cell X1.out 3).trans rfl
    have b4 : ((w.alloc (.cells #[.int .i64 2, .int .i64 pk, .int .i64 ps, .int .i64 pp, .int .i64 id, .int .u64 ox, .int .i64 oy, .bool ost, .int .u64 vx, .int .i64 vy, .bool vst] 70)).alloc (.cells #[.int .i64 pk, .int .i64 ps, .int .i64 pp] 23)).cell? ⟨w.heap.size, 4, none⟩ = some (.int .i64 id) := (blk_cell X1.out 4).trans rfl
    have b8 : ((w.alloc (.cells #[.int .i64 2, .int .i64 pk, .int .i64 ps, .int .i64 pp, .int .i64 id, .int .u64 ox, .int .i64 oy, .bool ost, .int .u64 vx, .int .i64 vy, .bool vst] 70)).alloc (.cells #[.int .i64 pk, .int .i64 ps, .int .i64 pp] 23)).cell? ⟨w.heap.size, 8, none⟩ = some (.int .u64 vx) := (blk_cell X1.out 8).trans rfl
    have b9 : ((w.alloc (.cells #[.int .i64 2, .int .i64 pk, .int .i64 ps, .int .i64 pp, .int .i64 id, .int .u64 ox, .int .i64 oy, .bool ost, .int .u64 vx, .int .i64 vy, .bool vst] 70)).alloc (.cells #[.int .i64 pk, .int .i64 ps, .int .i64 pp] 23)).cell? ⟨w.heap.size, 9, none⟩ = some (.int .i64 vy) := (blk_cell X1.out 9).trans rfl
    have b10 : ((w.alloc (.cells #[.int .i64 2, .int .i64 pk, .int .i64 ps, .int .i64 pp, .int .i64 id, .int .u64 ox, .int .i64 oy, .bool ost, .int .u64 vx, .int .i64 vy, .bool vst] 70)).alloc (.cells #[.int .i64 pk, .int .i64 ps, .int .i64 pp] 23)).cell? ⟨w.heap.size, 10, none⟩ = some (.bool vst) := (blk_cell X1.out 10).trans rfl
    go_wp2_with fail
    clear b0 b1 b2 b3 b4 b8 b9 b10
    generalize ((w.alloc (.cells #[.int .i64 2, .int .i64 pk, .int .i64 ps, .int .i64 pp, .int .i64 id, .int .u64 ox, .int .i64 oy, .bool ost, .int .u64 vx, .int .i64 vy, .bool vst] 70)).alloc (.cells #[.int .i64 pk, .int .i64 ps, .int .i64 pp] 23)) = w1 at *
    refine (gstore_U gg gp gc gm gl gs g3 G pk ps pp id vx vy vst w0 _ M1.out B1.out).mono ?_
    rintro e w2 ⟨rfl, h1_, h2_, h3_⟩
    have M2 := Aside0.mk h1_
    have Q2 := Aside0.mk (refT M1.out Q1.out HT.out h3_)
    have B2 := Aside0.mk h2_
    have X2 := Aside0.mk (M1.out.stayT h3_ X1.out (by decide) (by decide))
    have P2 := Aside0.mk (M1.out.stayT h3_ P1.out (by decide) (by decide))
    clear h1_ h2_ h3_
    go_wp2_with fail
    have Xd := Aside0.mk (blk_drew X2.out)
    have Pd := Aside0.mk (blk_drew P2.out)
    have Md := Aside0.mk M2.out.drew
    have Qd := Aside0.mk (refMove (M2.out.rowSame (fun cs hc => blk_drew hc)) Q2.out.drew)
    have Bd := Aside0.mk (below_drew B2.out)
    refine start_ (n := 17) (S := fun w' => w'.cell? ⟨w.heap.size, 4, none⟩ = some (.int .i64 id) ∧ w'.cell? ⟨w.heap.size, 8, none⟩ = some (.int .u64 vx) ∧ w'.cell? ⟨w.heap.size, 9, none⟩ = some (.int .i64 vy) ∧ w'.cell? ⟨w.heap.size, 10, none⟩ = some (.bool vst) ∧ w'.cell? ⟨(w.heap.size + 1), 0, none⟩ = some (.int .i64 pk) ∧ w'.cell? ⟨(w.heap.size + 1), 1, none⟩ = some (.int .i64 ps) ∧ w'.cell? ⟨(w.heap.size + 1), 2, none⟩ = some (.int .i64 pp)) (ds := [16]) (lb 17 0) (by kernel_rfl) rfl rfl ⟨(blk_cell Xd.out 4).trans rfl, (blk_cell Xd.out 8).trans rfl, (blk_cell Xd.out 9).trans rfl, (blk_cell Xd.out 10).trans rfl, (blk_cell Pd.out 0).trans rfl, (blk_cell Pd.out 1).trans rfl, (blk_cell Pd.out 2).trans rfl⟩ (fun hHeld => ?_)
    refine pS (v := ?_) (a' := ?_) 0 (some 46) (lb 17 1) rfl rfl (by kernel_rfl) (fun _ _ _ h => h) (by rfl) ?_ ?_ ?_; rotate_left; (intro w'; go_simp; with_reducible rfl); rotate_left; (simp only [Act.put, List.setIfInBounds_toArray, List.set_cons_zero, List.set_cons_succ, i64_w, i32_w]; rfl)
    refine pS (v := ?_) (a' := ?_) 1 (some 47) (lb 17 3) rfl rfl (by kernel_rfl) (fun _ _ _ h => h) (by rfl) ?_ ?_ ?_; rotate_left; (intro w'; go_simp; with_reducible rfl); rotate_left; (simp only [Act.put, List.setIfInBounds_toArray, List.set_cons_zero, List.set_cons_succ, i64_w, i32_w]; rfl)
    refine pS (v := ?_) (a' := ?_) 2 (some 48) (lb 17 7) rfl rfl (by kernel_rfl) (fun _ _ _ h => h) (by rfl) ?_ ?_ ?_; rotate_left; (intro w'; go_simp; with_reducible rfl); rotate_left; (simp only [Act.put, List.setIfInBounds_toArray, List.set_cons_zero, List.set_cons_succ, i64_w, i32_w]; rfl)
    refine pS (v := ?_) (a' := ?_) 4 (some 50) (lb 17 23) rfl rfl (by kernel_rfl) (fun _ _ _ h => h) (by rfl) ?_ ?_ ?_; rotate_left; (intro w'; go_simp; with_reducible rfl); rotate_left; (simp only [Act.put, List.setIfInBounds_toArray, List.set_cons_zero, List.set_cons_succ, i64_w, i32_w]; rfl)
    refine pS (v := ?_) (a' := ?_) 5 (some 51) (lb 17 55) rfl rfl (by kernel_rfl) (fun _ _ _ h => h) (by rfl) ?_ ?_ ?_; rotate_left; (intro w'; go_simp; with_reducible rfl); rotate_left; (simp only [Act.put, List.setIfInBounds_toArray, List.set_cons_zero, List.set_cons_succ, i64_w, i32_w]; rfl)
    refine pS (v := ?_) (a' := ?_) 7 (some 53) (lb 17 183) rfl rfl (by kernel_rfl) (fun _ _ _ h => h) (by rfl) ?_ ?_ ?_; rotate_left; (intro w'; go_simp; with_reducible rfl); rotate_left; (simp only [Act.put, List.setIfInBounds_toArray, List.set_cons_zero, List.set_cons_succ, i64_w, i32_w]; rfl)
    refine pS (v := ?_) (a' := ?_) 8 (some 54) (lb 17 439) rfl rfl (by kernel_rfl) (fun _ _ _ h => h) (by rfl) ?_ ?_ ?_; rotate_left; (intro w'; go_simp; with_reducible rfl); rotate_left; (simp only [Act.put, List.setIfInBounds_toArray, List.set_cons_zero, List.set_cons_succ, i64_w, i32_w]; rfl)
    refine pS (v := ?_) (a' := ?_) 10 (some 56) (lb 17 1463) rfl rfl (by kernel_rfl) (fun _ _ _ h => h) (by rfl) ?_ ?_ ?_; rotate_left; (intro w'; go_simp; with_reducible rfl); rotate_left; (simp only [Act.put, List.setIfInBounds_toArray, List.set_cons_zero, List.set_cons_succ, i64_w, i32_w]; rfl)
    refine pS (v := ?_) (a' := ?_) 11 (some 57) (lb 17 3511) rfl rfl (by kernel_rfl) (fun _ _ _ h => h) (by rfl) ?_ ?_ ?_; rotate_left; (intro w'; go_simp; with_reducible rfl); rotate_left; (simp only [Act.put, List.setIfInBounds_toArray, List.set_cons_zero, List.set_cons_succ, i64_w, i32_w]; rfl)
    refine pS (v := ?_) (a' := ?_) 13 (some 59) (lb 17 11703) rfl rfl (by kernel_rfl) (fun _ _ _ h => h) (by rfl) ?_ ?_ ?_; rotate_left; (intro w'; go_simp; with_reducible rfl); rotate_left; (simp only [Act.put, List.setIfInBounds_toArray, List.set_cons_zero, List.set_cons_succ, i64_w, i32_w]; rfl)
    refine pS (v := ?_) (a' := ?_) 14 (some 60) (lb 17 28087) rfl rfl (by kernel_rfl) (fun _ _ _ h => h) (by rfl) ?_ ?_ ?_; rotate_left; (intro w'; go_simp; with_reducible rfl); rotate_left; (simp only [Act.put, List.setIfInBounds_toArray, List.set_cons_zero, List.set_cons_succ, i64_w, i32_w]; rfl)
    refine tS (v := ?_) (a' := ?_) 3 (some 49) (lb 17 28095) rfl rfl (by kernel_rfl) (fun _ _ _ h => h) hHeld (by rfl) ?_ ?_ ?_; rotate_left; (rintro w' ⟨s0, s1, s2, s3, s4, s5, s6⟩; go_simp; with_reducible rfl); rotate_left; (simp only [Act.put, List.setIfInBounds_toArray, List.set_cons_zero, List.set_cons_succ, i64_w, i32_w]; rfl)
    refine tS (v := ?_) (a' := ?_) 6 (some 52) (lb 17 28159) rfl rfl (by kernel_rfl) (fun _ _ _ h => h) hHeld (by rfl) ?_ ?_ ?_; rotate_left; (rintro w' ⟨s0, s1, s2, s3, s4, s5, s6⟩; go_simp; with_reducible rfl); rotate_left; (simp only [Act.put, List.setIfInBounds_toArray, List.set_cons_zero, List.set_cons_succ, i64_w, i32_w]; rfl)
    refine tS (v := ?_) (a' := ?_) 9 (some 55) (lb 17 28671) rfl rfl (by kernel_rfl) (fun _ _ _ h => h) hHeld (by rfl) ?_ ?_ ?_; rotate_left; (rintro w' ⟨s0, s1, s2, s3, s4, s5, s6⟩; go_simp; with_reducible rfl); rotate_left; (simp only [Act.put, List.setIfInBounds_toArray, List.set_cons_zero, List.set_cons_succ, i64_w, i32_w]; rfl)
    refine tS (v := ?_) (a' := ?_) 12 (some 58) (lb 17 32767) rfl rfl (by kernel_rfl) (fun _ _ _ h => h) hHeld (by rfl) ?_ ?_ ?_; rotate_left; (rintro w' ⟨s0, s1, s2, s3, s4, s5, s6⟩; go_simp; with_reducible rfl); rotate_left; (simp only [Act.put, List.setIfInBounds_toArray, List.set_cons_zero, List.set_cons_succ, i64_w, i32_w]; rfl)
    refine tS (v := ?_) (a' := ?_) 15 (some 61) (lb 17 65535) rfl rfl (by kernel_rfl) (fun _ _ _ h => h) hHeld (by rfl) ?_ ?_ ?_; rotate_left; (rintro w' ⟨s0, s1, s2, s3, s4, s5, s6⟩; go_simp; with_reducible rfl); rotate_left; (simp only [Act.put, List.setIfInBounds_toArray, List.set_cons_zero, List.set_cons_succ, i64_w, i32_w]; rfl)
    refine last_ (i := 16) (N := some 62) (lb 17 131071) rfl rfl (by kernel_rfl) (by decide) (fun K hK => ?_)
    refine goes_ Try.func98 (by kernel_rfl) rfl #[.pointer (some ⟨gu, 0, none⟩), Value.agg #[.int .i64 pk, .int .i64 ps, .int .i64 pp], .int .i64 id, .int .u64 vx, .int .i64 vy, .bool vst] (by rfl) rfl rfl (by simp only [List.map_toArray, List.map_cons, List.map_nil]; rfl) ?_
    with_reducible refine (rstore7_T pk ps pp id vx vy vst Qd.out Bd.out HT.out.three LL.out).mono ?_
    rintro e w3 ⟨rfl, h1_, h2_, h3_⟩
    refine ⟨_, rfl, ?_⟩
    have M3 := Aside0.mk (ghostS Md.out HT.out h3_).1
    have Q3 := Aside0.mk (refMove (ghostS Md.out HT.out h3_).2 h1_)
    have B3 := Aside0.mk h2_
    clear h1_ h2_ h3_
    refine hK.out _ _ ?_
    clear hK K
    refine norm_ (a' := ?_) ?_ ?_
    rotate_left
    · show Act.put _ (some 62) _ = _
      simp only [Act.put, List.setIfInBounds_toArray, List.set_cons_zero, List.set_cons_succ, i64_w, i32_w]
      rfl
    refine done_ (by kernel_rfl) ?_
    go_wp2_with fail
    go_ret
    exact ⟨rfl, gstoreG G (pk, ps, pp) id vx vy vst, stU U (pk, ps, pp) vx vy, M3.out, (by rw [HR.out.storeF]; exact Q3.out), HR.out.store HO.out _ _ _ _ _ HY.out, B3.out, lok_set HL.out _ _ _, stOk_same HS.out rfl⟩
  have u2 : (kd == 2) = false := beq_eq_false_iff_ne.mpr k2
  clear k2
  by_cases k3 : kd = 3
  · subst k3
    obtain ⟨wz, hwz⟩ : ∃ z, z = ((w.alloc (.cells #[.int .i64 3, .int .i64 pk, .int .i64 ps, .int .i64 pp, .int .i64 id, .int .u64 ox, .int .i64 oy, .bool ost, .int .u64 vx, .int .i64 vy, .bool vst] 70)).alloc (.cells #[.int .i64 pk, .int .i64 ps, .int .i64 pp] 23)) := ⟨_, rfl⟩
    rw [← hwz] at M1 Q1 B1 X1 P1
    have hb := below_alloc (Below.refl wz.heap.size wz) (.cells #[.int .u64 ox, .int .i64 oy, .bool ost] 28)
    have GZ := Aside0.mk (show wz.heap.size = w.heap.size + 1 + 1 by rw [hwz]; simp)
    have O2 := Aside0.mk (show (wz.alloc (.cells #[.int .u64 ox, .int .i64 oy, .bool ost] 28)).heap[w.heap.size + 1 + 1]? = some (.cells #[.int .u64 ox, .int .i64 oy, .bool ost] 28) from by rw [← GZ.out]; exact blk_new wz (.cells #[.int .u64 ox, .int .i64 oy, .bool ost] 28))
    have HB2 := Aside0.mk hb
    have M2 := Aside0.mk (M1.out.below hb)
    have Q2 := Aside0.mk (refMove (M1.out.rowSame (fun cs hc => blk_below hc hb)) (Q1.out.below hb))
    have B2 := Aside0.mk (below_step B1.out hb)
    have X2 := Aside0.mk (blk_below X1.out hb)
    have P2 := Aside0.mk (blk_below P1.out hb)
    clear hb
    have b0 : (wz.alloc (.cells #[.int .u64 ox, .int .i64 oy, .bool ost] 28)).cell? ⟨w.heap.size, 0, none⟩ = some (.int .i64 3) := (blk_cell X2.out 0).trans rfl
    have b1 : (wz.alloc (.cells #[.int .u64 ox, .int .i64 oy, .bool ost] 28)).cell? ⟨w.heap.size, 1, none⟩ = some (.int .i64 pk) := (blk_cell X2.out 1).trans rfl
    have b2 : (wz.alloc (.cells #[.int .u64 ox, .int .i64 oy, .bool ost] 28)).cell? ⟨w.heap.size, 2, none⟩ = some (.int .i64 ps) := (blk_cell X2.out 2).trans rfl
    have b3 : (wz.alloc (.cells #[.int .u64 ox, .int .i64 oy, .bool ost] 28)).cell? ⟨w.heap.size, 3, none⟩ = some (.int .i64 pp) := (blk_cell X2.out 3).trans rfl
    have b4 : (wz.alloc (.cells #[.int .u64 ox, .int .i64 oy, .bool ost] 28)).cell? ⟨w.heap.size, 4, none⟩ = some (.int .i64 id) := (blk_cell X2.out 4).trans rfl
    have b5 : (wz.alloc (.cells #[.int .u64 ox, .int .i64 oy, .bool ost] 28)).cell? ⟨w.heap.size, 5, none⟩ = some (.int .u64 ox) := (blk_cell X2.out 5).trans rfl
    have b6 : (wz.alloc (.cells #[.int .u64 ox, .int .i64 oy, .bool ost] 28)).cell? ⟨w.heap.size, 6, none⟩ = some (.int .i64 oy) := (blk_cell X2.out 6).trans rfl
    have b7 : (wz.alloc (.cells #[.int .u64 ox, .int .i64 oy, .bool ost] 28)).cell? ⟨w.heap.size, 7, none⟩ = some (.bool ost) := (blk_cell X2.out 7).trans rfl
    have b8 : (wz.alloc (.cells #[.int .u64 ox, .int .i64 oy, .bool ost] 28)).cell? ⟨w.heap.size, 8, none⟩ = some (.int .u64 vx) := (blk_cell X2.out 8).trans rfl
    have b9 : (wz.alloc (.cells #[.int .u64 ox, .int .i64 oy, .bool ost] 28)).cell? ⟨w.heap.size, 9, none⟩ = some (.int .i64 vy) := (blk_cell X2.out 9).trans rfl
    have b10 : (wz.alloc (.cells #[.int .u64 ox, .int .i64 oy, .bool ost] 28)).cell? ⟨w.heap.size, 10, none⟩ = some (.bool vst) := (blk_cell X2.out 10).trans rfl
    have o0 : (wz.alloc (.cells #[.int .u64 ox, .int .i64 oy, .bool ost] 28)).cell? ⟨w.heap.size + 1 + 1, 0, none⟩ = some (.int .u64 ox) := (blk_cell O2.out 0).trans rfl
    have o1 : (wz.alloc (.cells #[.int .u64 ox, .int .i64 oy, .bool ost] 28)).cell? ⟨w.heap.size + 1 + 1, 1, none⟩ = some (.int .i64 oy) := (blk_cell O2.out 1).trans rfl
    have o2 : (wz.alloc (.cells #[.int .u64 ox, .int .i64 oy, .bool ost] 28)).cell? ⟨w.heap.size + 1 + 1, 2, none⟩ = some (.bool ost) := (blk_cell O2.out 2).trans rfl
    have hx0 : wz.cell? ⟨w.heap.size, 0, none⟩ = some (.int .i64 3) := (blk_cell X1.out 0).trans rfl
    have hx5 : wz.cell? ⟨w.heap.size, 5, none⟩ = some (.int .u64 ox) := (blk_cell X1.out 5).trans rfl
    have hx6 : wz.cell? ⟨w.heap.size, 6, none⟩ = some (.int .i64 oy) := (blk_cell X1.out 6).trans rfl
    have hx7 : wz.cell? ⟨w.heap.size, 7, none⟩ = some (.bool ost) := (blk_cell X1.out 7).trans rfl
    rw [hwz] at b0 b1 b2 b3 b4 b5 b6 b7 b8 b9 b10 o0 o1 o2 hx0 hx5 hx6 hx7
    go_wp2_with fail
    clear b0 b1 b2 b3 b4 b5 b6 b7 b8 b9 b10 o0 o1 o2 hx0 hx5 hx6 hx7
    rw [← hwz]
    clear hwz
    generalize wz.alloc (.cells #[.int .u64 ox, .int .i64 oy, .bool ost] 28) = w2 at *
    generalize w.heap.size + 1 + 1 = go at *
    have Od := Aside0.mk (blk_drew O2.out)
    have Xd := Aside0.mk (blk_drew X2.out)
    have Pd := Aside0.mk (blk_drew P2.out)
    have Md := Aside0.mk M2.out.drew
    have Qd := Aside0.mk (refMove (M2.out.rowSame (fun cs hc => blk_drew hc)) Q2.out.drew)
    have Bd := Aside0.mk (below_drew B2.out)
    have SR := Aside0.mk (show cswapR G.p (pk, ps, pp) ox = decide (cu = ox) by rw [HR.out.swapR, CU.out])
    obtain ⟨ans, hans⟩ : ∃ z, decide (cu = ox) = z := ⟨_, rfl⟩
    rw [hans] at SR
    have AN := Aside0.mk (show decide (oget U.W (pk, ps, pp) = ox) = ans by rw [CU.out]; exact hans)
    clear hans
    have te : (ans == ans) = true := beq_self_eq_true ans
    refine start_ (n := 30) (S := fun w' => w'.cell? ⟨w.heap.size, 1, none⟩ = some (.int .i64 pk) ∧ w'.cell? ⟨w.heap.size, 2, none⟩ = some (.int .i64 ps) ∧ w'.cell? ⟨w.heap.size, 3, none⟩ = some (.int .i64 pp) ∧ w'.cell? ⟨w.heap.size, 4, none⟩ = some (.int .i64 id) ∧ w'.cell? ⟨w.heap.size, 8, none⟩ = some (.int .u64 vx) ∧ w'.cell? ⟨w.heap.size, 9, none⟩ = some (.int .i64 vy) ∧ w'.cell? ⟨w.heap.size, 10, none⟩ = some (.bool vst) ∧ w'.cell? ⟨go, 0, none⟩ = some (.int .u64 ox) ∧ w'.cell? ⟨go, 1, none⟩ = some (.int .i64 oy) ∧ w'.cell? ⟨go, 2, none⟩ = some (.bool ost) ∧ w'.cell? ⟨(w.heap.size + 1), 0, none⟩ = some (.int .i64 pk) ∧ w'.cell? ⟨(w.heap.size + 1), 1, none⟩ = some (.int .i64 ps) ∧ w'.cell? ⟨(w.heap.size + 1), 2, none⟩ = some (.int .i64 pp)) (ds := [27]) (lb 30 0) (by kernel_rfl) rfl rfl ⟨(blk_cell Xd.out 1).trans rfl, (blk_cell Xd.out 2).trans rfl, (blk_cell Xd.out 3).trans rfl, (blk_cell Xd.out 4).trans rfl, (blk_cell Xd.out 8).trans rfl, (blk_cell Xd.out 9).trans rfl, (blk_cell Xd.out 10).trans rfl, (blk_cell Od.out 0).trans rfl, (blk_cell Od.out 1).trans rfl, (blk_cell Od.out 2).trans rfl, (blk_cell Pd.out 0).trans rfl, (blk_cell Pd.out 1).trans rfl, (blk_cell Pd.out 2).trans rfl⟩ (fun hHeld => ?_)
    refine pS (v := ?_) (a' := ?_) 0 (some 78) (lb 30 1) rfl rfl (by kernel_rfl) (fun _ _ _ h => h) (by rfl) ?_ ?_ ?_; rotate_left; (intro w'; go_simp; with_reducible rfl); rotate_left; (simp only [Act.put, List.setIfInBounds_toArray, List.set_cons_zero, List.set_cons_succ, i64_w, i32_w]; rfl)
    refine pS (v := ?_) (a' := ?_) 1 (some 79) (lb 30 3) rfl rfl (by kernel_rfl) (fun _ _ _ h => h) (by rfl) ?_ ?_ ?_; rotate_left; (intro w'; go_simp; with_reducible rfl); rotate_left; (simp only [Act.put, List.setIfInBounds_toArray, List.set_cons_zero, List.set_cons_succ, i64_w, i32_w]; rfl)
    refine pS (v := ?_) (a' := ?_) 4 (some 82) (lb 30 19) rfl rfl (by kernel_rfl) (fun _ _ _ h => h) (by rfl) ?_ ?_ ?_; rotate_left; (intro w'; go_simp; with_reducible rfl); rotate_left; (simp only [Act.put, List.setIfInBounds_toArray, List.set_cons_zero, List.set_cons_succ, i64_w, i32_w]; rfl)
    refine pS (v := ?_) (a' := ?_) 7 (some 85) (lb 30 147) rfl rfl (by kernel_rfl) (fun _ _ _ h => h) (by rfl) ?_ ?_ ?_; rotate_left; (intro w'; go_simp; with_reducible rfl); rotate_left; (simp only [Act.put, List.setIfInBounds_toArray, List.set_cons_zero, List.set_cons_succ, i64_w, i32_w]; rfl)
    refine pS (v := ?_) (a' := ?_) 8 (some 86) (lb 30 403) rfl rfl (by kernel_rfl) (fun _ _ _ h => h) (by rfl) ?_ ?_ ?_; rotate_left; (intro w'; go_simp; with_reducible rfl); rotate_left; (simp only [Act.put, List.setIfInBounds_toArray, List.set_cons_zero, List.set_cons_succ, i64_w, i32_w]; rfl)
    refine pS (v := ?_) (a' := ?_) 9 (some 87) (lb 30 915) rfl rfl (by kernel_rfl) (fun _ _ _ h => h) (by rfl) ?_ ?_ ?_; rotate_left; (intro w'; go_simp; with_reducible rfl); rotate_left; (simp only [Act.put, List.setIfInBounds_toArray, List.set_cons_zero, List.set_cons_succ, i64_w, i32_w]; rfl)
    refine pS (v := ?_) (a' := ?_) 11 (some 89) (lb 30 2963) rfl rfl (by kernel_rfl) (fun _ _ _ h => h) (by rfl) ?_ ?_ ?_; rotate_left; (intro w'; go_simp; with_reducible rfl); rotate_left; (simp only [Act.put, List.setIfInBounds_toArray, List.set_cons_zero, List.set_cons_succ, i64_w, i32_w]; rfl)
    refine pS (v := ?_) (a' := ?_) 12 (some 90) (lb 30 7059) rfl rfl (by kernel_rfl) (fun _ _ _ h => h) (by rfl) ?_ ?_ ?_; rotate_left; (intro w'; go_simp; with_reducible rfl); rotate_left; (simp only [Act.put, List.setIfInBounds_toArray, List.set_cons_zero, List.set_cons_succ, i64_w, i32_w]; rfl)
    refine pS (v := ?_) (a' := ?_) 14 (some 92) (lb 30 23443) rfl rfl (by kernel_rfl) (fun _ _ _ h => h) (by rfl) ?_ ?_ ?_; rotate_left; (intro w'; go_simp; with_reducible rfl); rotate_left; (simp only [Act.put, List.setIfInBounds_toArray, List.set_cons_zero, List.set_cons_succ, i64_w, i32_w]; rfl)
    refine pS (v := ?_) (a' := ?_) 16 (some 94) (lb 30 88979) rfl rfl (by kernel_rfl) (fun _ _ _ h => h) (by rfl) ?_ ?_ ?_; rotate_left; (intro w'; go_simp; with_reducible rfl); rotate_left; (simp only [Act.put, List.setIfInBounds_toArray, List.set_cons_zero, List.set_cons_succ, i64_w, i32_w]; rfl)
    refine pS (v := ?_) (a' := ?_) 18 (some 96) (lb 30 351123) rfl rfl (by kernel_rfl) (fun _ _ _ h => h) (by rfl) ?_ ?_ ?_; rotate_left; (intro w'; go_simp; with_reducible rfl); rotate_left; (simp only [Act.put, List.setIfInBounds_toArray, List.set_cons_zero, List.set_cons_succ, i64_w, i32_w]; rfl)
    refine pS (v := ?_) (a' := ?_) 19 (some 97) (lb 30 875411) rfl rfl (by kernel_rfl) (fun _ _ _ h => h) (by rfl) ?_ ?_ ?_; rotate_left; (intro w'; go_simp; with_reducible rfl); rotate_left; (simp only [Act.put, List.setIfInBounds_toArray, List.set_cons_zero, List.set_cons_succ, i64_w, i32_w]; rfl)
    refine pS (v := ?_) (a' := ?_) 21 (some 99) (lb 30 2972563) rfl rfl (by kernel_rfl) (fun _ _ _ h => h) (by rfl) ?_ ?_ ?_; rotate_left; (intro w'; go_simp; with_reducible rfl); rotate_left; (simp only [Act.put, List.setIfInBounds_toArray, List.set_cons_zero, List.set_cons_succ, i64_w, i32_w]; rfl)
    refine pS (v := ?_) (a' := ?_) 22 (some 100) (lb 30 7166867) rfl rfl (by kernel_rfl) (fun _ _ _ h => h) (by rfl) ?_ ?_ ?_; rotate_left; (intro w'; go_simp; with_reducible rfl); rotate_left; (simp only [Act.put, List.setIfInBounds_toArray, List.set_cons_zero, List.set_cons_succ, i64_w, i32_w]; rfl)
    refine pS (v := ?_) (a' := ?_) 24 (some 102) (lb 30 23944083) rfl rfl (by kernel_rfl) (fun _ _ _ h => h) (by rfl) ?_ ?_ ?_; rotate_left; (intro w'; go_simp; with_reducible rfl); rotate_left; (simp only [Act.put, List.setIfInBounds_toArray, List.set_cons_zero, List.set_cons_succ, i64_w, i32_w]; rfl)
    refine pS (v := ?_) (a' := ?_) 25 (some 103) (lb 30 57498515) rfl rfl (by kernel_rfl) (fun _ _ _ h => h) (by rfl) ?_ ?_ ?_; rotate_left; (intro w'; go_simp; with_reducible rfl); rotate_left; (simp only [Act.put, List.setIfInBounds_toArray, List.set_cons_zero, List.set_cons_succ, i64_w, i32_w]; rfl)
    refine tS (v := ?_) (a' := ?_) 2 (some 80) (lb 30 57498519) rfl rfl (by kernel_rfl) (fun _ _ _ h => h) hHeld (by rfl) ?_ ?_ ?_; rotate_left; (rintro w' ⟨s0, s1, s2, s3, s4, s5, s6, s7, s8, s9, s10, s11, s12⟩; go_simp; with_reducible rfl); rotate_left; (simp only [Act.put, List.setIfInBounds_toArray, List.set_cons_zero, List.set_cons_succ, i64_w, i32_w]; rfl)
    refine tS (v := ?_) (a' := ?_) 3 (some 81) (lb 30 57498527) rfl rfl (by kernel_rfl) (fun _ _ _ h => h) hHeld (by rfl) ?_ ?_ ?_; rotate_left; (rintro w' ⟨s0, s1, s2, s3, s4, s5, s6, s7, s8, s9, s10, s11, s12⟩; go_simp; with_reducible rfl); rotate_left; (simp only [Act.put, List.setIfInBounds_toArray, List.set_cons_zero, List.set_cons_succ, i64_w, i32_w]; rfl)
    refine tS (v := ?_) (a' := ?_) 5 (some 83) (lb 30 57498559) rfl rfl (by kernel_rfl) (fun _ _ _ h => h) hHeld (by rfl) ?_ ?_ ?_; rotate_left; (rintro w' ⟨s0, s1, s2, s3, s4, s5, s6, s7, s8, s9, s10, s11, s12⟩; go_simp; with_reducible rfl); rotate_left; (simp only [Act.put, List.setIfInBounds_toArray, List.set_cons_zero, List.set_cons_succ, i64_w, i32_w]; rfl)
    refine tS (v := ?_) (a' := ?_) 10 (some 88) (lb 30 57499583) rfl rfl (by kernel_rfl) (fun _ _ _ h => h) hHeld (by rfl) ?_ ?_ ?_; rotate_left; (rintro w' ⟨s0, s1, s2, s3, s4, s5, s6, s7, s8, s9, s10, s11, s12⟩; go_simp; with_reducible rfl); rotate_left; (simp only [Act.put, List.setIfInBounds_toArray, List.set_cons_zero, List.set_cons_succ, i64_w, i32_w]; rfl)
    refine tS (v := ?_) (a' := ?_) 13 (some 91) (lb 30 57507775) rfl rfl (by kernel_rfl) (fun _ _ _ h => h) hHeld (by rfl) ?_ ?_ ?_; rotate_left; (rintro w' ⟨s0, s1, s2, s3, s4, s5, s6, s7, s8, s9, s10, s11, s12⟩; go_simp; with_reducible rfl); rotate_left; (simp only [Act.put, List.setIfInBounds_toArray, List.set_cons_zero, List.set_cons_succ, i64_w, i32_w]; rfl)
    refine tS (v := ?_) (a' := ?_) 15 (some 93) (lb 30 57540543) rfl rfl (by kernel_rfl) (fun _ _ _ h => h) hHeld (by rfl) ?_ ?_ ?_; rotate_left; (rintro w' ⟨s0, s1, s2, s3, s4, s5, s6, s7, s8, s9, s10, s11, s12⟩; go_simp; with_reducible rfl); rotate_left; (simp only [Act.put, List.setIfInBounds_toArray, List.set_cons_zero, List.set_cons_succ, i64_w, i32_w]; rfl)
    refine tS (v := ?_) (a' := ?_) 17 (some 95) (lb 30 57671615) rfl rfl (by kernel_rfl) (fun _ _ _ h => h) hHeld (by rfl) ?_ ?_ ?_; rotate_left; (rintro w' ⟨s0, s1, s2, s3, s4, s5, s6, s7, s8, s9, s10, s11, s12⟩; go_simp; with_reducible rfl); rotate_left; (simp only [Act.put, List.setIfInBounds_toArray, List.set_cons_zero, List.set_cons_succ, i64_w, i32_w]; rfl)
    refine tS (v := ?_) (a' := ?_) 20 (some 98) (lb 30 58720191) rfl rfl (by kernel_rfl) (fun _ _ _ h => h) hHeld (by rfl) ?_ ?_ ?_; rotate_left; (rintro w' ⟨s0, s1, s2, s3, s4, s5, s6, s7, s8, s9, s10, s11, s12⟩; go_simp; with_reducible rfl); rotate_left; (simp only [Act.put, List.setIfInBounds_toArray, List.set_cons_zero, List.set_cons_succ, i64_w, i32_w]; rfl)
    refine tS (v := ?_) (a' := ?_) 23 (some 101) (lb 30 67108799) rfl rfl (by kernel_rfl) (fun _ _ _ h => h) hHeld (by rfl) ?_ ?_ ?_; rotate_left; (rintro w' ⟨s0, s1, s2, s3, s4, s5, s6, s7, s8, s9, s10, s11, s12⟩; go_simp; with_reducible rfl); rotate_left; (simp only [Act.put, List.setIfInBounds_toArray, List.set_cons_zero, List.set_cons_succ, i64_w, i32_w]; rfl)
    refine tS (v := ?_) (a' := ?_) 26 (some 104) (lb 30 134217663) rfl rfl (by kernel_rfl) (fun _ _ _ h => h) hHeld (by rfl) ?_ ?_ ?_; rotate_left; (rintro w' ⟨s0, s1, s2, s3, s4, s5, s6, s7, s8, s9, s10, s11, s12⟩; go_simp; with_reducible rfl); rotate_left; (simp only [Act.put, List.setIfInBounds_toArray, List.set_cons_zero, List.set_cons_succ, i64_w, i32_w]; rfl)
    refine one_ (i := 6) (N := some 84) (lb 30 134217727) rfl rfl (by kernel_rfl) (by decide) (fun K hK => ?_)
    refine goes_ Try.func46 (by kernel_rfl) rfl #[.pointer (some ⟨gg, 0, none⟩), Value.agg #[.int .i64 pk, .int .i64 ps, .int .i64 pp, .int .i64 id], .agg #[.int .u64 ox, .int .i64 oy, .bool ost], Value.agg #[.int .u64 vx, .int .i64 vy, .bool vst]] (by rfl) rfl rfl (by simp only [List.map_toArray, List.map_cons, List.map_nil]; rfl) ?_
    with_reducible refine (gswap_U gg gp gc gm gl gs g3 G pk ps pp id ox oy vx vy ost vst w0 _ Md.out Bd.out).mono ?_
    rintro e w5 ⟨rfl, h1_, h2_, h3_⟩
    refine ⟨_, rfl, ?_⟩
    rw [SR.out]
    have O5 := Aside0.mk (Md.out.stayT h3_ Od.out (by decide) (by decide))
    have M5 := Aside0.mk h1_
    have Q5 := Aside0.mk (refT Md.out Qd.out HT.out h3_)
    have B5 := Aside0.mk h2_
    have X5 := Aside0.mk (Md.out.stayT h3_ Xd.out (by decide) (by decide))
    have P5 := Aside0.mk (Md.out.stayT h3_ Pd.out (by decide) (by decide))
    clear h1_ h2_ h3_
    refine hK.out _ _ ⟨(blk_cell X5.out 1).trans rfl, (blk_cell X5.out 2).trans rfl, (blk_cell X5.out 3).trans rfl, (blk_cell X5.out 4).trans rfl, (blk_cell X5.out 8).trans rfl, (blk_cell X5.out 9).trans rfl, (blk_cell X5.out 10).trans rfl, (blk_cell O5.out 0).trans rfl, (blk_cell O5.out 1).trans rfl, (blk_cell O5.out 2).trans rfl, (blk_cell P5.out 0).trans rfl, (blk_cell P5.out 1).trans rfl, (blk_cell P5.out 2).trans rfl⟩ (fun hHeld => ?_)
    clear hK K
    refine norm_ (a' := ?_) ?_ ?_
    rotate_left
    · show Act.put _ (some 84) _ = _
      simp only [Act.put, List.setIfInBounds_toArray, List.set_cons_zero, List.set_cons_succ, i64_w, i32_w]
      rfl
    refine last_ (i := 27) (N := some 105) (lb 30 268435455) rfl rfl (by kernel_rfl) (by decide) (fun K hK => ?_)
    refine goes_ Try.func99 (by kernel_rfl) rfl #[.pointer (some ⟨gu, 0, none⟩), Value.agg #[.int .i64 pk, .int .i64 ps, .int .i64 pp], .int .i64 id, .int .u64 ox, .bool ost, .int .u64 vx, .int .i64 vy, .bool vst] (by rfl) rfl rfl (by simp only [List.map_toArray, List.map_cons, List.map_nil]; rfl) ?_
    with_reducible refine (rswap7_T pk ps pp id ox vx vy ost vst Q5.out B5.out HT.out.three LL.out).mono ?_
    rintro e w6 ⟨rfl, h1_, h2_, h3_⟩
    refine ⟨_, rfl, ?_⟩
    rw [AN.out]
    have M6 := Aside0.mk (ghostS M5.out HT.out h3_).1
    have Q6 := Aside0.mk (refMove (ghostS M5.out HT.out h3_).2 h1_)
    have B6 := Aside0.mk h2_
    clear h1_ h2_ h3_
    refine hK.out _ _ ?_
    clear hK K
    refine norm_ (a' := ?_) ?_ ?_
    rotate_left
    · show Act.put _ (some 105) _ = _
      simp only [Act.put, List.setIfInBounds_toArray, List.set_cons_zero, List.set_cons_succ, i64_w, i32_w]
      rfl
    refine pS (v := ?_) (a' := ?_) 28 (some 106) (lb 30 536870911) rfl rfl (by kernel_rfl) (fun _ _ _ h => h) (by rfl) ?_ ?_ ?_; rotate_left; (intro w'; go_simp; with_reducible rfl); rotate_left; (simp only [Act.put, List.setIfInBounds_toArray, List.set_cons_zero, List.set_cons_succ, i64_w, i32_w]; rfl)
    refine pS (v := ?_) (a' := ?_) 29 (some 6) (lb 30 1073741823) rfl rfl (by kernel_rfl) (fun _ _ _ h => h) (by rfl) ?_ ?_ ?_; rotate_left; (intro w'; go_simp; with_reducible rfl); rotate_left; (simp only [Act.put, List.setIfInBounds_toArray, List.set_cons_zero, List.set_cons_succ, i64_w, i32_w]; rfl)
    refine done_ (by kernel_rfl) ?_
    go_wp2_with fail
    go_ret
    exact ⟨rfl, gswapG G (pk, ps, pp) id ox vx vy (ost || vst), (if oget U.W (pk, ps, pp) = ox then stU U (pk, ps, pp) vx vy else U), M6.out, (by rw [HR.out.swapF, swapS, Bool.or_comm]; exact Q6.out), HR.out.swap HO.out _ _ _ _ _ _ HY.out, B6.out, (by split; exact lok_set HL.out _ _ _; exact lok_same HL.out), stOk_same HS.out (swapS _ _ _ _ _ _)⟩
  have u3 : (kd == 3) = false := beq_eq_false_iff_ne.mpr k3
  clear k3
  by_cases k4 : kd = 4
  · subst k4
    obtain ⟨wz, hwz⟩ : ∃ z, z = ((w.alloc (.cells #[.int .i64 4, .int .i64 pk, .int .i64 ps, .int .i64 pp, .int .i64 id, .int .u64 ox, .int .i64 oy, .bool ost, .int .u64 vx, .int .i64 vy, .bool vst] 70)).alloc (.cells #[.int .i64 pk, .int .i64 ps, .int .i64 pp] 23)) := ⟨_, rfl⟩
    rw [← hwz] at M1 Q1 B1 X1 P1
    have hb := below_alloc (Below.refl wz.heap.size wz) (.cells #[.int .u64 ox, .int .i64 oy, .bool ost] 28)
    have GZ := Aside0.mk (show wz.heap.size = w.heap.size + 1 + 1 by rw [hwz]; simp)
    have O2 := Aside0.mk (show (wz.alloc (.cells #[.int .u64 ox, .int .i64 oy, .bool ost] 28)).heap[w.heap.size + 1 + 1]? = some (.cells #[.int .u64 ox, .int .i64 oy, .bool ost] 28) from by rw [← GZ.out]; exact blk_new wz (.cells #[.int .u64 ox, .int .i64 oy, .bool ost] 28))
    have HB2 := Aside0.mk hb
    have M2 := Aside0.mk (M1.out.below hb)
    have Q2 := Aside0.mk (refMove (M1.out.rowSame (fun cs hc => blk_below hc hb)) (Q1.out.below hb))
    have B2 := Aside0.mk (below_step B1.out hb)
    have X2 := Aside0.mk (blk_below X1.out hb)
    have P2 := Aside0.mk (blk_below P1.out hb)
    clear hb
    have b0 : (wz.alloc (.cells #[.int .u64 ox, .int .i64 oy, .bool ost] 28)).cell? ⟨w.heap.size, 0, none⟩ = some (.int .i64 4) := (blk_cell X2.out 0).trans rfl
    have b1 : (wz.alloc (.cells #[.int .u64 ox, .int .i64 oy, .bool ost] 28)).cell? ⟨w.heap.size, 1, none⟩ = some (.int .i64 pk) := (blk_cell X2.out 1).trans rfl
    have b2 : (wz.alloc (.cells #[.int .u64 ox, .int .i64 oy, .bool ost] 28)).cell? ⟨w.heap.size, 2, none⟩ = some (.int .i64 ps) := (blk_cell X2.out 2).trans rfl
    have b3 : (wz.alloc (.cells #[.int .u64 ox, .int .i64 oy, .bool ost] 28)).cell? ⟨w.heap.size, 3, none⟩ = some (.int .i64 pp) := (blk_cell X2.out 3).trans rfl
    have b4 : (wz.alloc (.cells #[.int .u64 ox, .int .i64 oy, .bool ost] 28)).cell? ⟨w.heap.size, 4, none⟩ = some (.int .i64 id) := (blk_cell X2.out 4).trans rfl
    have b5 : (wz.alloc (.cells #[.int .u64 ox, .int .i64 oy, .bool ost] 28)).cell? ⟨w.heap.size, 5, none⟩ = some (.int .u64 ox) := (blk_cell X2.out 5).trans rfl
    have b6 : (wz.alloc (.cells #[.int .u64 ox, .int .i64 oy, .bool ost] 28)).cell? ⟨w.heap.size, 6, none⟩ = some (.int .i64 oy) := (blk_cell X2.out 6).trans rfl
    have b7 : (wz.alloc (.cells #[.int .u64 ox, .int .i64 oy, .bool ost] 28)).cell? ⟨w.heap.size, 7, none⟩ = some (.bool ost) := (blk_cell X2.out 7).trans rfl
    have b8 : (wz.alloc (.cells #[.int .u64 ox, .int .i64 oy, .bool ost] 28)).cell? ⟨w.heap.size, 8, none⟩ = some (.int .u64 vx) := (blk_cell X2.out 8).trans rfl
    have b9 : (wz.alloc (.cells #[.int .u64 ox, .int .i64 oy, .bool ost] 28)).cell? ⟨w.heap.size, 9, none⟩ = some (.int .i64 vy) := (blk_cell X2.out 9).trans rfl
    have b10 : (wz.alloc (.cells #[.int .u64 ox, .int .i64 oy, .bool ost] 28)).cell? ⟨w.heap.size, 10, none⟩ = some (.bool vst) := (blk_cell X2.out 10).trans rfl
    have o0 : (wz.alloc (.cells #[.int .u64 ox, .int .i64 oy, .bool ost] 28)).cell? ⟨w.heap.size + 1 + 1, 0, none⟩ = some (.int .u64 ox) := (blk_cell O2.out 0).trans rfl
    have o1 : (wz.alloc (.cells #[.int .u64 ox, .int .i64 oy, .bool ost] 28)).cell? ⟨w.heap.size + 1 + 1, 1, none⟩ = some (.int .i64 oy) := (blk_cell O2.out 1).trans rfl
    have o2 : (wz.alloc (.cells #[.int .u64 ox, .int .i64 oy, .bool ost] 28)).cell? ⟨w.heap.size + 1 + 1, 2, none⟩ = some (.bool ost) := (blk_cell O2.out 2).trans rfl
    have hx0 : wz.cell? ⟨w.heap.size, 0, none⟩ = some (.int .i64 4) := (blk_cell X1.out 0).trans rfl
    have hx5 : wz.cell? ⟨w.heap.size, 5, none⟩ = some (.int .u64 ox) := (blk_cell X1.out 5).trans rfl
    have hx6 : wz.cell? ⟨w.heap.size, 6, none⟩ = some (.int .i64 oy) := (blk_cell X1.out 6).trans rfl
    have hx7 : wz.cell? ⟨w.heap.size, 7, none⟩ = some (.bool ost) := (blk_cell X1.out 7).trans rfl
    rw [hwz] at b0 b1 b2 b3 b4 b5 b6 b7 b8 b9 b10 o0 o1 o2 hx0 hx5 hx6 hx7
    go_wp2_with fail
    clear b0 b1 b2 b3 b4 b5 b6 b7 b8 b9 b10 o0 o1 o2 hx0 hx5 hx6 hx7
    rw [← hwz]
    clear hwz
    generalize wz.alloc (.cells #[.int .u64 ox, .int .i64 oy, .bool ost] 28) = w2 at *
    generalize w.heap.size + 1 + 1 = go at *
    have Xd := Aside0.mk (blk_drew X2.out)
    have Pd := Aside0.mk (blk_drew P2.out)
    have Od := Aside0.mk (blk_drew O2.out)
    have Md := Aside0.mk M2.out.drew
    have Qd := Aside0.mk (refMove (M2.out.rowSame (fun cs hc => blk_drew hc)) Q2.out.drew)
    have Bd := Aside0.mk (below_drew B2.out)
    have HBd := Aside0.mk (below_drew HB2.out)
    refine start_ (n := 8) (S := fun w' => w'.cell? ⟨(w.heap.size + 1), 0, none⟩ = some (.int .i64 pk) ∧ w'.cell? ⟨(w.heap.size + 1), 1, none⟩ = some (.int .i64 ps) ∧ w'.cell? ⟨(w.heap.size + 1), 2, none⟩ = some (.int .i64 pp)) (ds := [5, 7]) (lb 8 0) (by kernel_rfl) rfl rfl ⟨(blk_cell Pd.out 0).trans rfl, (blk_cell Pd.out 1).trans rfl, (blk_cell Pd.out 2).trans rfl⟩ (fun hHeld => ?_)
    refine pS (v := ?_) (a' := ?_) 0 (some 71) (lb 8 1) rfl rfl (by kernel_rfl) (fun _ _ _ h => h) (by rfl) ?_ ?_ ?_; rotate_left; (intro w'; go_simp; with_reducible rfl); rotate_left; (simp only [Act.put, List.setIfInBounds_toArray, List.set_cons_zero, List.set_cons_succ, i64_w, i32_w]; rfl)
    refine pS (v := ?_) (a' := ?_) 1 (some 72) (lb 8 3) rfl rfl (by kernel_rfl) (fun _ _ _ h => h) (by rfl) ?_ ?_ ?_; rotate_left; (intro w'; go_simp; with_reducible rfl); rotate_left; (simp only [Act.put, List.setIfInBounds_toArray, List.set_cons_zero, List.set_cons_succ, i64_w, i32_w]; rfl)
    refine pS (v := ?_) (a' := ?_) 2 (some 73) (lb 8 7) rfl rfl (by kernel_rfl) (fun _ _ _ h => h) (by rfl) ?_ ?_ ?_; rotate_left; (intro w'; go_simp; with_reducible rfl); rotate_left; (simp only [Act.put, List.setIfInBounds_toArray, List.set_cons_zero, List.set_cons_succ, i64_w, i32_w]; rfl)
    refine pS (v := ?_) (a' := ?_) 3 (some 74) (lb 8 15) rfl rfl (by kernel_rfl) (fun _ _ _ h => h) (by rfl) ?_ ?_ ?_; rotate_left; (intro w'; go_simp; with_reducible rfl); rotate_left; (simp only [Act.put, List.setIfInBounds_toArray, List.set_cons_zero, List.set_cons_succ, i64_w, i32_w]; rfl)
    refine tS (v := ?_) (a' := ?_) 4 (some 75) (lb 8 31) rfl rfl (by kernel_rfl) (fun _ _ _ h => h) hHeld (by rfl) ?_ ?_ ?_; rotate_left; (rintro w' ⟨s0, s1, s2⟩; go_simp; with_reducible rfl); rotate_left; (simp only [Act.put, List.setIfInBounds_toArray, List.set_cons_zero, List.set_cons_succ, i64_w, i32_w]; rfl)
    refine last_ (i := 5) (N := some 76) (lb 8 63) rfl rfl (by kernel_rfl) (by decide) (fun K hK => ?_)
    refine goes_ Try.func83 (by kernel_rfl) rfl #[.pointer (some ⟨gu, 0, none⟩), Value.agg #[.int .i64 pk, .int .i64 ps, .int .i64 pp]] (by rfl) rfl rfl (by simp only [List.map_toArray, List.map_cons, List.map_nil]; rfl) ?_
    with_reducible refine (rgetW_T pk ps pp Qd.out LL.out.1).mono ?_
    rintro e w3 ⟨rfl, hb⟩
    refine ⟨_, rfl, ?_⟩
    rw [CU.out]
    have O3 := Aside0.mk (blk_below Od.out hb)
    have HB3 := Aside0.mk (below_step HBd.out hb)
    have M3 := Aside0.mk (Md.out.below hb)
    have Q3 := Aside0.mk (refMove (Md.out.rowSame (fun cs hc => blk_below hc hb)) (Qd.out.below hb))
    have B3 := Aside0.mk (below_step Bd.out hb)
    have X3 := Aside0.mk (blk_below Xd.out hb)
    have P3 := Aside0.mk (blk_below Pd.out hb)
    clear hb
    have co : w3.cell? ⟨go, 0, none⟩ = some (.int .u64 ox) := (blk_cell O3.out 0).trans rfl
    have fo : w3.frozen? ⟨go, 0, none⟩ = false := blk_frozen O3.out 0
    refine hK.out _ _ ?_
    clear hK K
    refine norm_ (a' := ?_) ?_ ?_
    rotate_left
    · show Act.put _ (some 76) _ = _
      simp only [Act.put, List.setIfInBounds_toArray, List.set_cons_zero, List.set_cons_succ, i64_w, i32_w]
      rfl
    refine pS (v := ?_) (a' := ?_) 6 (some 77) (lb 8 127) rfl rfl (by kernel_rfl) (fun _ _ _ h => h) (by rfl) ?_ ?_ ?_; rotate_left; (intro w'; go_simp; with_reducible rfl); rotate_left; (simp only [Act.put, List.setIfInBounds_toArray, List.set_cons_zero, List.set_cons_succ, i64_w, i32_w]; rfl)
    refine last_ (i := 7) (N := none) (lb 8 255) rfl rfl (by kernel_rfl) (by decide) (fun K hK => ?_)
    refine skip_ (w1 := ?_) (by rfl) rfl ?_ ?_
    rotate_left
    · go_simp
      rfl
    have O4 := Aside0.mk (blk_put O3.out 0 (.int .u64 cu) rfl)
    have HB4 := Aside0.mk (HB3.out.setCell (p := ⟨go, 0, none⟩) (by show wz.heap.size ≤ go; rw [GZ.out]; exact Nat.le_refl _) (.int .u64 cu))
    clear co fo
    refine hK.out _ _ ?_
    clear hK K
    refine done_ (by kernel_rfl) ?_
    have hb := HB4.out
    have M4 := Aside0.mk (M1.out.below hb)
    have Q4 := Aside0.mk (refMove (M1.out.rowSame (fun cs hc => blk_below hc hb)) (Q1.out.below hb))
    have B4 := Aside0.mk (below_step B1.out hb)
    have X4 := Aside0.mk (blk_below X1.out hb)
    have P4 := Aside0.mk (blk_below P1.out hb)
    clear hb
    go_wp2_with fail
    generalize w3.setCell ⟨go, 0, none⟩ (.int .u64 cu) = w4 at *
    have Od2 := Aside0.mk (blk_drew O4.out)
    clear Xd Pd Md Qd Bd Od
    have Xd := Aside0.mk (blk_drew X4.out)
    have Pd := Aside0.mk (blk_drew P4.out)
    have Md := Aside0.mk M4.out.drew
    have Qd := Aside0.mk (refMove (M4.out.rowSame (fun cs hc => blk_drew hc)) Q4.out.drew)
    have Bd := Aside0.mk (below_drew B4.out)
    have SR := Aside0.mk (show cswapR G.p (pk, ps, pp) cu = decide (cu = cu) by rw [HR.out.swapR, CU.out])
    obtain ⟨ans, hans⟩ : ∃ z, decide (cu = cu) = z := ⟨_, rfl⟩
    rw [hans] at SR
    have AN := Aside0.mk (show decide (oget U.W (pk, ps, pp) = cu) = ans by rw [CU.out]; exact hans)
    clear hans
    have te : (ans == ans) = true := beq_self_eq_true ans
    refine start_ (n := 30) (S := fun w' => w'.cell? ⟨w.heap.size, 1, none⟩ = some (.int .i64 pk) ∧ w'.cell? ⟨w.heap.size, 2, none⟩ = some (.int .i64 ps) ∧ w'.cell? ⟨w.heap.size, 3, none⟩ = some (.int .i64 pp) ∧ w'.cell? ⟨w.heap.size, 4, none⟩ = some (.int .i64 id) ∧ w'.cell? ⟨w.heap.size, 8, none⟩ = some (.int .u64 vx) ∧ w'.cell? ⟨w.heap.size, 9, none⟩ = some (.int .i64 vy) ∧ w'.cell? ⟨w.heap.size, 10, none⟩ = some (.bool vst) ∧ w'.cell? ⟨go, 0, none⟩ = some (.int .u64 cu) ∧ w'.cell? ⟨go, 1, none⟩ = some (.int .i64 oy) ∧ w'.cell? ⟨go, 2, none⟩ = some (.bool ost) ∧ w'.cell? ⟨(w.heap.size + 1), 0, none⟩ = some (.int .i64 pk) ∧ w'.cell? ⟨(w.heap.size + 1), 1, none⟩ = some (.int .i64 ps) ∧ w'.cell? ⟨(w.heap.size + 1), 2, none⟩ = some (.int .i64 pp)) (ds := [27]) (lb 30 0) (by kernel_rfl) rfl rfl ⟨(blk_cell Xd.out 1).trans rfl, (blk_cell Xd.out 2).trans rfl, (blk_cell Xd.out 3).trans rfl, (blk_cell Xd.out 4).trans rfl, (blk_cell Xd.out 8).trans rfl, (blk_cell Xd.out 9).trans rfl, (blk_cell Xd.out 10).trans rfl, (blk_cell Od2.out 0).trans rfl, (blk_cell Od2.out 1).trans rfl, (blk_cell Od2.out 2).trans rfl, (blk_cell Pd.out 0).trans rfl, (blk_cell Pd.out 1).trans rfl, (blk_cell Pd.out 2).trans rfl⟩ (fun hHeld => ?_)
    refine pS (v := ?_) (a' := ?_) 0 (some 78) (lb 30 1) rfl rfl (by kernel_rfl) (fun _ _ _ h => h) (by rfl) ?_ ?_ ?_; rotate_left; (intro w'; go_simp; with_reducible rfl); rotate_left; (simp only [Act.put, List.setIfInBounds_toArray, List.set_cons_zero, List.set_cons_succ, i64_w, i32_w]; rfl)
    refine pS (v := ?_) (a' := ?_) 1 (some 79) (lb 30 3) rfl rfl (by kernel_rfl) (fun _ _ _ h => h) (by rfl) ?_ ?_ ?_; rotate_left; (intro w'; go_simp; with_reducible rfl); rotate_left; (simp only [Act.put, List.setIfInBounds_toArray, List.set_cons_zero, List.set_cons_succ, i64_w, i32_w]; rfl)
    refine pS (v := ?_) (a' := ?_) 4 (some 82) (lb 30 19) rfl rfl (by kernel_rfl) (fun _ _ _ h => h) (by rfl) ?_ ?_ ?_; rotate_left; (intro w'; go_simp; with_reducible rfl); rotate_left; (simp only [Act.put, List.setIfInBounds_toArray, List.set_cons_zero, List.set_cons_succ, i64_w, i32_w]; rfl)
    refine pS (v := ?_) (a' := ?_) 7 (some 85) (lb 30 147) rfl rfl (by kernel_rfl) (fun _ _ _ h => h) (by rfl) ?_ ?_ ?_; rotate_left; (intro w'; go_simp; with_reducible rfl); rotate_left; (simp only [Act.put, List.setIfInBounds_toArray, List.set_cons_zero, List.set_cons_succ, i64_w, i32_w]; rfl)
    refine pS (v := ?_) (a' := ?_) 8 (some 86) (lb 30 403) rfl rfl (by kernel_rfl) (fun _ _ _ h => h) (by rfl) ?_ ?_ ?_; rotate_left; (intro w'; go_simp; with_reducible rfl); rotate_left; (simp only [Act.put, List.setIfInBounds_toArray, List.set_cons_zero, List.set_cons_succ, i64_w, i32_w]; rfl)
    refine pS (v := ?_) (a' := ?_) 9 (some 87) (lb 30 915) rfl rfl (by kernel_rfl) (fun _ _ _ h => h) (by rfl) ?_ ?_ ?_; rotate_left; (intro w'; go_simp; with_reducible rfl); rotate_left; (simp only [Act.put, List.setIfInBounds_toArray, List.set_cons_zero, List.set_cons_succ, i64_w, i32_w]; rfl)
    refine pS (v := ?_) (a' := ?_) 11 (some 89) (lb 30 2963) rfl rfl (by kernel_rfl) (fun _ _ _ h => h) (by rfl) ?_ ?_ ?_; rotate_left; (intro w'; go_simp; with_reducible rfl); rotate_left; (simp only [Act.put, List.setIfInBounds_toArray, List.set_cons_zero, List.set_cons_succ, i64_w, i32_w]; rfl)
    refine pS (v := ?_) (a' := ?_) 12 (some 90) (lb 30 7059) rfl rfl (by kernel_rfl) (fun _ _ _ h => h) (by rfl) ?_ ?_ ?_; rotate_left; (intro w'; go_simp; with_reducible rfl); rotate_left; (simp only [Act.put, List.setIfInBounds_toArray, List.set_cons_zero, List.set_cons_succ, i64_w, i32_w]; rfl)
    refine pS (v := ?_) (a' := ?_) 14 (some 92) (lb 30 23443) rfl rfl (by kernel_rfl) (fun _ _ _ h => h) (by rfl) ?_ ?_ ?_; rotate_left; (intro w'; go_simp; with_reducible rfl); rotate_left; (simp only [Act.put, List.setIfInBounds_toArray, List.set_cons_zero, List.set_cons_succ, i64_w, i32_w]; rfl)
    refine pS (v := ?_) (a' := ?_) 16 (some 94) (lb 30 88979) rfl rfl (by kernel_rfl) (fun _ _ _ h => h) (by rfl) ?_ ?_ ?_; rotate_left; (intro w'; go_simp; with_reducible rfl); rotate_left; (simp only [Act.put, List.setIfInBounds_toArray, List.set_cons_zero, List.set_cons_succ, i64_w, i32_w]; rfl)
    refine pS (v := ?_) (a' := ?_) 18 (some 96) (lb 30 351123) rfl rfl (by kernel_rfl) (fun _ _ _ h => h) (by rfl) ?_ ?_ ?_; rotate_left; (intro w'; go_simp; with_reducible rfl); rotate_left; (simp only [Act.put, List.setIfInBounds_toArray, List.set_cons_zero, List.set_cons_succ, i64_w, i32_w]; rfl)
    refine pS (v := ?_) (a' := ?_) 19 (some 97) (lb 30 875411) rfl rfl (by kernel_rfl) (fun _ _ _ h => h) (by rfl) ?_ ?_ ?_; rotate_left; (intro w'; go_simp; with_reducible rfl); rotate_left; (simp only [Act.put, List.setIfInBounds_toArray, List.set_cons_zero, List.set_cons_succ, i64_w, i32_w]; rfl)
    refine pS (v := ?_) (a' := ?_) 21 (some 99) (lb 30 2972563) rfl rfl (by kernel_rfl) (fun _ _ _ h => h) (by rfl) ?_ ?_ ?_; rotate_left; (intro w'; go_simp; with_reducible rfl); rotate_left; (simp only [Act.put, List.setIfInBounds_toArray, List.set_cons_zero, List.set_cons_succ, i64_w, i32_w]; rfl)
    refine pS (v := ?_) (a' := ?_) 22 (some 100) (lb 30 7166867) rfl rfl (by kernel_rfl) (fun _ _ _ h => h) (by rfl) ?_ ?_ ?_; rotate_left; (intro w'; go_simp; with_reducible rfl); rotate_left; (simp only [Act.put, List.setIfInBounds_toArray, List.set_cons_zero, List.set_cons_succ, i64_w, i32_w]; rfl)
    refine pS (v := ?_) (a' := ?_) 24 (some 102) (lb 30 23944083) rfl rfl (by kernel_rfl) (fun _ _ _ h => h) (by rfl) ?_ ?_ ?_; rotate_left; (intro w'; go_simp; with_reducible rfl); rotate_left; (simp only [Act.put, List.setIfInBounds_toArray, List.set_cons_zero, List.set_cons_succ, i64_w, i32_w]; rfl)
    refine pS (v := ?_) (a' := ?_) 25 (some 103) (lb 30 57498515) rfl rfl (by kernel_rfl) (fun _ _ _ h => h) (by rfl) ?_ ?_ ?_; rotate_left; (intro w'; go_simp; with_reducible rfl); rotate_left; (simp only [Act.put, List.setIfInBounds_toArray, List.set_cons_zero, List.set_cons_succ, i64_w, i32_w]; rfl)
    refine tS (v := ?_) (a' := ?_) 2 (some 80) (lb 30 57498519) rfl rfl (by kernel_rfl) (fun _ _ _ h => h) hHeld (by rfl) ?_ ?_ ?_; rotate_left; (rintro w' ⟨s0, s1, s2, s3, s4, s5, s6, s7, s8, s9, s10, s11, s12⟩; go_simp; with_reducible rfl); rotate_left; (simp only [Act.put, List.setIfInBounds_toArray, List.set_cons_zero, List.set_cons_succ, i64_w, i32_w]; rfl)
    refine tS (v := ?_) (a' := ?_) 3 (some 81) (lb 30 57498527) rfl rfl (by kernel_rfl) (fun _ _ _ h => h) hHeld (by rfl) ?_ ?_ ?_; rotate_left; (rintro w' ⟨s0, s1, s2, s3, s4, s5, s6, s7, s8, s9, s10, s11, s12⟩; go_simp; with_reducible rfl); rotate_left; (simp only [Act.put, List.setIfInBounds_toArray, List.set_cons_zero, List.set_cons_succ, i64_w, i32_w]; rfl)
    refine tS (v := ?_) (a' := ?_) 5 (some 83) (lb 30 57498559) rfl rfl (by kernel_rfl) (fun _ _ _ h => h) hHeld (by rfl) ?_ ?_ ?_; rotate_left; (rintro w' ⟨s0, s1, s2, s3, s4, s5, s6, s7, s8, s9, s10, s11, s12⟩; go_simp; with_reducible rfl); rotate_left; (simp only [Act.put, List.setIfInBounds_toArray, List.set_cons_zero, List.set_cons_succ, i64_w, i32_w]; rfl)
    refine tS (v := ?_) (a' := ?_) 10 (some 88) (lb 30 57499583) rfl rfl (by kernel_rfl) (fun _ _ _ h => h) hHeld (by rfl) ?_ ?_ ?_; rotate_left; (rintro w' ⟨s0, s1, s2, s3, s4, s5, s6, s7, s8, s9, s10, s11, s12⟩; go_simp; with_reducible rfl); rotate_left; (simp only [Act.put, List.setIfInBounds_toArray, List.set_cons_zero, List.set_cons_succ, i64_w, i32_w]; rfl)
    refine tS (v := ?_) (a' := ?_) 13 (some 91) (lb 30 57507775) rfl rfl (by kernel_rfl) (fun _ _ _ h => h) hHeld (by rfl) ?_ ?_ ?_; rotate_left; (rintro w' ⟨s0, s1, s2, s3, s4, s5, s6, s7, s8, s9, s10, s11, s12⟩; go_simp; with_reducible rfl); rotate_left; (simp only [Act.put, List.setIfInBounds_toArray, List.set_cons_zero, List.set_cons_succ, i64_w, i32_w]; rfl)
    refine tS (v := ?_) (a' := ?_) 15 (some 93) (lb 30 57540543) rfl rfl (by kernel_rfl) (fun _ _ _ h => h) hHeld (by rfl) ?_ ?_ ?_; rotate_left; (rintro w' ⟨s0, s1, s2, s3, s4, s5, s6, s7, s8, s9, s10, s11, s12⟩; go_simp; with_reducible rfl); rotate_left; (simp only [Act.put, List.setIfInBounds_toArray, List.set_cons_zero, List.set_cons_succ, i64_w, i32_w]; rfl)
    refine tS (v := ?_) (a' := ?_) 17 (some 95) (lb 30 57671615) rfl rfl (by kernel_rfl) (fun _ _ _ h => h) hHeld (by rfl) ?_ ?_ ?_; rotate_left; (rintro w' ⟨s0, s1, s2, s3, s4, s5, s6, s7, s8, s9, s10, s11, s12⟩; go_simp; with_reducible rfl); rotate_left; (simp only [Act.put, List.setIfInBounds_toArray, List.set_cons_zero, List.set_cons_succ, i64_w, i32_w]; rfl)
    refine tS (v := ?_) (a' := ?_) 20 (some 98) (lb 30 58720191) rfl rfl (by kernel_rfl) (fun _ _ _ h => h) hHeld (by rfl) ?_ ?_ ?_; rotate_left; (rintro w' ⟨s0, s1, s2, s3, s4, s5, s6, s7, s8, s9, s10, s11, s12⟩; go_simp; with_reducible rfl); rotate_left; (simp only [Act.put, List.setIfInBounds_toArray, List.set_cons_zero, List.set_cons_succ, i64_w, i32_w]; rfl)
    refine tS (v := ?_) (a' := ?_) 23 (some 101) (lb 30 67108799) rfl rfl (by kernel_rfl) (fun _ _ _ h => h) hHeld (by rfl) ?_ ?_ ?_; rotate_left; (rintro w' ⟨s0, s1, s2, s3, s4, s5, s6, s7, s8, s9, s10, s11, s12⟩; go_simp; with_reducible rfl); rotate_left; (simp only [Act.put, List.setIfInBounds_toArray, List.set_cons_zero, List.set_cons_succ, i64_w, i32_w]; rfl)
    refine tS (v := ?_) (a' := ?_) 26 (some 104) (lb 30 134217663) rfl rfl (by kernel_rfl) (fun _ _ _ h => h) hHeld (by rfl) ?_ ?_ ?_; rotate_left; (rintro w' ⟨s0, s1, s2, s3, s4, s5, s6, s7, s8, s9, s10, s11, s12⟩; go_simp; with_reducible rfl); rotate_left; (simp only [Act.put, List.setIfInBounds_toArray, List.set_cons_zero, List.set_cons_succ, i64_w, i32_w]; rfl)
    refine one_ (i := 6) (N := some 84) (lb 30 134217727) rfl rfl (by kernel_rfl) (by decide) (fun K hK => ?_)
    refine goes_ Try.func46 (by kernel_rfl) rfl #[.pointer (some ⟨gg, 0, none⟩), Value.agg #[.int .i64 pk, .int .i64 ps, .int .i64 pp, .int .i64 id], .agg #[.int .u64 cu, .int .i64 oy, .bool ost], Value.agg #[.int .u64 vx, .int .i64 vy, .bool vst]] (by rfl) rfl rfl (by simp only [List.map_toArray, List.map_cons, List.map_nil]; rfl) ?_
    with_reducible refine (gswap_U gg gp gc gm gl gs g3 G pk ps pp id cu oy vx vy ost vst w0 _ Md.out Bd.out).mono ?_
    rintro e w5 ⟨rfl, h1_, h2_, h3_⟩
    refine ⟨_, rfl, ?_⟩
    rw [SR.out]
    have O5 := Aside0.mk (Md.out.stayT h3_ Od2.out (by decide) (by decide))
    have M5 := Aside0.mk h1_
    have Q5 := Aside0.mk (refT Md.out Qd.out HT.out h3_)
    have B5 := Aside0.mk h2_
    have X5 := Aside0.mk (Md.out.stayT h3_ Xd.out (by decide) (by decide))
    have P5 := Aside0.mk (Md.out.stayT h3_ Pd.out (by decide) (by decide))
    clear h1_ h2_ h3_
    refine hK.out _ _ ⟨(blk_cell X5.out 1).trans rfl, (blk_cell X5.out 2).trans rfl, (blk_cell X5.out 3).trans rfl, (blk_cell X5.out 4).trans rfl, (blk_cell X5.out 8).trans rfl, (blk_cell X5.out 9).trans rfl, (blk_cell X5.out 10).trans rfl, (blk_cell O5.out 0).trans rfl, (blk_cell O5.out 1).trans rfl, (blk_cell O5.out 2).trans rfl, (blk_cell P5.out 0).trans rfl, (blk_cell P5.out 1).trans rfl, (blk_cell P5.out 2).trans rfl⟩ (fun hHeld => ?_)
    clear hK K
    refine norm_ (a' := ?_) ?_ ?_
    rotate_left
    · show Act.put _ (some 84) _ = _
      simp only [Act.put, List.setIfInBounds_toArray, List.set_cons_zero, List.set_cons_succ, i64_w, i32_w]
      rfl
    refine last_ (i := 27) (N := some 105) (lb 30 268435455) rfl rfl (by kernel_rfl) (by decide) (fun K hK => ?_)
    refine goes_ Try.func99 (by kernel_rfl) rfl #[.pointer (some ⟨gu, 0, none⟩), Value.agg #[.int .i64 pk, .int .i64 ps, .int .i64 pp], .int .i64 id, .int .u64 cu, .bool ost, .int .u64 vx, .int .i64 vy, .bool vst] (by rfl) rfl rfl (by simp only [List.map_toArray, List.map_cons, List.map_nil]; rfl) ?_
    with_reducible refine (rswap7_T pk ps pp id cu vx vy ost vst Q5.out B5.out HT.out.three LL.out).mono ?_
    rintro e w6 ⟨rfl, h1_, h2_, h3_⟩
    refine ⟨_, rfl, ?_⟩
    rw [AN.out]
    have M6 := Aside0.mk (ghostS M5.out HT.out h3_).1
    have Q6 := Aside0.mk (refMove (ghostS M5.out HT.out h3_).2 h1_)
    have B6 := Aside0.mk h2_
    clear h1_ h2_ h3_
    refine hK.out _ _ ?_
    clear hK K
    refine norm_ (a' := ?_) ?_ ?_
    rotate_left
    · show Act.put _ (some 105) _ = _
      simp only [Act.put, List.setIfInBounds_toArray, List.set_cons_zero, List.set_cons_succ, i64_w, i32_w]
      rfl
    refine pS (v := ?_) (a' := ?_) 28 (some 106) (lb 30 536870911) rfl rfl (by kernel_rfl) (fun _ _ _ h => h) (by rfl) ?_ ?_ ?_; rotate_left; (intro w'; go_simp; with_reducible rfl); rotate_left; (simp only [Act.put, List.setIfInBounds_toArray, List.set_cons_zero, List.set_cons_succ, i64_w, i32_w]; rfl)
    refine pS (v := ?_) (a' := ?_) 29 (some 6) (lb 30 1073741823) rfl rfl (by kernel_rfl) (fun _ _ _ h => h) (by rfl) ?_ ?_ ?_; rotate_left; (intro w'; go_simp; with_reducible rfl); rotate_left; (simp only [Act.put, List.setIfInBounds_toArray, List.set_cons_zero, List.set_cons_succ, i64_w, i32_w]; rfl)
    refine done_ (by kernel_rfl) ?_
    go_wp2_with fail
    go_ret
    exact ⟨rfl, gswapG G (pk, ps, pp) id cu vx vy (ost || vst), (if oget U.W (pk, ps, pp) = cu then stU U (pk, ps, pp) vx vy else U), M6.out, (by rw [HR.out.swapF, swapS, Bool.or_comm]; exact Q6.out), HR.out.swap HO.out _ _ _ _ _ _ HY.out, B6.out, (by split; exact lok_set HL.out _ _ _; exact lok_same HL.out), stOk_same HS.out (swapS _ _ _ _ _ _)⟩
  have u4 : (kd == 4) = false := beq_eq_false_iff_ne.mpr k4
  clear k4
  by_cases k5 : kd = 5
  · subst k5
    have b0 : ((w.alloc (.cells #[.int .i64 5, .int .i64 pk, .int .i64 ps, .int .i64 pp, .int .i64 id, .int .u64 ox, .int .i64 oy, .bool ost, .int .u64 vx, .int .i64 vy, .bool vst] 70)).alloc (.cells #[.int .i64 pk, .int .i64 ps, .int .i64 pp] 23)).cell? ⟨w.heap.size, 0, none⟩ = some (.int .i64 5) := (blk_cell X1.out 0).trans rfl
    go_wp2_with fail
    clear b0
    generalize ((w.alloc (.cells #[.int .i64 5, .int .i64 pk, .int .i64 ps, .int .i64 pp, .int .i64 id, .int .u64 ox, .int .i64 oy, .bool ost, .int .u64 vx, .int .i64 vy, .bool vst] 70)).alloc (.cells #[.int .i64 pk, .int .i64 ps, .int .i64 pp] 23)) = w1 at *
    have Xd := Aside0.mk (blk_drew X1.out)
    have Pd := Aside0.mk (blk_drew P1.out)
    have Md := Aside0.mk M1.out.drew
    have Qd := Aside0.mk (refMove (M1.out.rowSame (fun cs hc => blk_drew hc)) Q1.out.drew)
    have Bd := Aside0.mk (below_drew B1.out)
    have te : (cu == cu) = true := beq_self_eq_true cu
    refine start_ (n := 15) (S := fun w' => w'.cell? ⟨w.heap.size, 1, none⟩ = some (.int .i64 pk) ∧ w'.cell? ⟨w.heap.size, 2, none⟩ = some (.int .i64 ps) ∧ w'.cell? ⟨w.heap.size, 3, none⟩ = some (.int .i64 pp) ∧ w'.cell? ⟨w.heap.size, 4, none⟩ = some (.int .i64 id) ∧ w'.cell? ⟨w.heap.size, 8, none⟩ = some (.int .u64 vx) ∧ w'.cell? ⟨(w.heap.size + 1), 0, none⟩ = some (.int .i64 pk) ∧ w'.cell? ⟨(w.heap.size + 1), 1, none⟩ = some (.int .i64 ps) ∧ w'.cell? ⟨(w.heap.size + 1), 2, none⟩ = some (.int .i64 pp)) (ds := [12]) (lb 15 0) (by kernel_rfl) rfl rfl ⟨(blk_cell Xd.out 1).trans rfl, (blk_cell Xd.out 2).trans rfl, (blk_cell Xd.out 3).trans rfl, (blk_cell Xd.out 4).trans rfl, (blk_cell Xd.out 8).trans rfl, (blk_cell Pd.out 0).trans rfl, (blk_cell Pd.out 1).trans rfl, (blk_cell Pd.out 2).trans rfl⟩ (fun hHeld => ?_)
    refine pS (v := ?_) (a' := ?_) 0 (some 109) (lb 15 1) rfl rfl (by kernel_rfl) (fun _ _ _ h => h) (by rfl) ?_ ?_ ?_; rotate_left; (intro w'; go_simp; with_reducible rfl); rotate_left; (simp only [Act.put, List.setIfInBounds_toArray, List.set_cons_zero, List.set_cons_succ, i64_w, i32_w]; rfl)
    refine pS (v := ?_) (a' := ?_) 1 (some 110) (lb 15 3) rfl rfl (by kernel_rfl) (fun _ _ _ h => h) (by rfl) ?_ ?_ ?_; rotate_left; (intro w'; go_simp; with_reducible rfl); rotate_left; (simp only [Act.put, List.setIfInBounds_toArray, List.set_cons_zero, List.set_cons_succ, i64_w, i32_w]; rfl)
    refine pS (v := ?_) (a' := ?_) 3 (some 112) (lb 15 11) rfl rfl (by kernel_rfl) (fun _ _ _ h => h) (by rfl) ?_ ?_ ?_; rotate_left; (intro w'; go_simp; with_reducible rfl); rotate_left; (simp only [Act.put, List.setIfInBounds_toArray, List.set_cons_zero, List.set_cons_succ, i64_w, i32_w]; rfl)
    refine pS (v := ?_) (a' := ?_) 4 (some 113) (lb 15 27) rfl rfl (by kernel_rfl) (fun _ _ _ h => h) (by rfl) ?_ ?_ ?_; rotate_left; (intro w'; go_simp; with_reducible rfl); rotate_left; (simp only [Act.put, List.setIfInBounds_toArray, List.set_cons_zero, List.set_cons_succ, i64_w, i32_w]; rfl)
    refine pS (v := ?_) (a' := ?_) 7 (some 116) (lb 15 155) rfl rfl (by kernel_rfl) (fun _ _ _ h => h) (by rfl) ?_ ?_ ?_; rotate_left; (intro w'; go_simp; with_reducible rfl); rotate_left; (simp only [Act.put, List.setIfInBounds_toArray, List.set_cons_zero, List.set_cons_succ, i64_w, i32_w]; rfl)
    refine pS (v := ?_) (a' := ?_) 9 (some 118) (lb 15 667) rfl rfl (by kernel_rfl) (fun _ _ _ h => h) (by rfl) ?_ ?_ ?_; rotate_left; (intro w'; go_simp; with_reducible rfl); rotate_left; (simp only [Act.put, List.setIfInBounds_toArray, List.set_cons_zero, List.set_cons_succ, i64_w, i32_w]; rfl)
    refine pS (v := ?_) (a' := ?_) 10 (some 119) (lb 15 1691) rfl rfl (by kernel_rfl) (fun _ _ _ h => h) (by rfl) ?_ ?_ ?_; rotate_left; (intro w'; go_simp; with_reducible rfl); rotate_left; (simp only [Act.put, List.setIfInBounds_toArray, List.set_cons_zero, List.set_cons_succ, i64_w, i32_w]; rfl)
    refine tS (v := ?_) (a' := ?_) 2 (some 111) (lb 15 1695) rfl rfl (by kernel_rfl) (fun _ _ _ h => h) hHeld (by rfl) ?_ ?_ ?_; rotate_left; (rintro w' ⟨s0, s1, s2, s3, s4, s5, s6, s7⟩; go_simp; with_reducible rfl); rotate_left; (simp only [Act.put, List.setIfInBounds_toArray, List.set_cons_zero, List.set_cons_succ, i64_w, i32_w]; rfl)
    refine tS (v := ?_) (a' := ?_) 5 (some 114) (lb 15 1727) rfl rfl (by kernel_rfl) (fun _ _ _ h => h) hHeld (by rfl) ?_ ?_ ?_; rotate_left; (rintro w' ⟨s0, s1, s2, s3, s4, s5, s6, s7⟩; go_simp; with_reducible rfl); rotate_left; (simp only [Act.put, List.setIfInBounds_toArray, List.set_cons_zero, List.set_cons_succ, i64_w, i32_w]; rfl)
    refine tS (v := ?_) (a' := ?_) 8 (some 117) (lb 15 1983) rfl rfl (by kernel_rfl) (fun _ _ _ h => h) hHeld (by rfl) ?_ ?_ ?_; rotate_left; (rintro w' ⟨s0, s1, s2, s3, s4, s5, s6, s7⟩; go_simp; with_reducible rfl); rotate_left; (simp only [Act.put, List.setIfInBounds_toArray, List.set_cons_zero, List.set_cons_succ, i64_w, i32_w]; rfl)
    refine tS (v := ?_) (a' := ?_) 11 (some 120) (lb 15 4031) rfl rfl (by kernel_rfl) (fun _ _ _ h => h) hHeld (by rfl) ?_ ?_ ?_; rotate_left; (rintro w' ⟨s0, s1, s2, s3, s4, s5, s6, s7⟩; go_simp; with_reducible rfl); rotate_left; (simp only [Act.put, List.setIfInBounds_toArray, List.set_cons_zero, List.set_cons_succ, i64_w, i32_w]; rfl)
    refine one_ (i := 6) (N := some 115) (lb 15 4095) rfl rfl (by kernel_rfl) (by decide) (fun K hK => ?_)
    refine goes_ Try.func48 (by kernel_rfl) rfl #[.pointer (some ⟨gg, 0, none⟩), Value.agg #[.int .i64 pk, .int .i64 ps, .int .i64 pp, .int .i64 id], .int .u64 vx] (by rfl) rfl rfl (by simp only [List.map_toArray, List.map_cons, List.map_nil]; rfl) ?_
    with_reducible refine (gadd_U gg gp gc gm gl gs g3 G pk ps pp id vx w0 _ Md.out Bd.out).mono ?_
    rintro e w2 ⟨rfl, h1_, h2_, h3_⟩
    refine ⟨_, rfl, ?_⟩
    rw [CW.out]
    have M2 := Aside0.mk h1_
    have Q2 := Aside0.mk (refT Md.out Qd.out HT.out h3_)
    have B2 := Aside0.mk h2_
    have X2 := Aside0.mk (Md.out.stayT h3_ Xd.out (by decide) (by decide))
    have P2 := Aside0.mk (Md.out.stayT h3_ Pd.out (by decide) (by decide))
    clear h1_ h2_ h3_
    refine hK.out _ _ ⟨(blk_cell X2.out 1).trans rfl, (blk_cell X2.out 2).trans rfl, (blk_cell X2.out 3).trans rfl, (blk_cell X2.out 4).trans rfl, (blk_cell X2.out 8).trans rfl, (blk_cell P2.out 0).trans rfl, (blk_cell P2.out 1).trans rfl, (blk_cell P2.out 2).trans rfl⟩ (fun hHeld => ?_)
    clear hK K
    refine norm_ (a' := ?_) ?_ ?_
    rotate_left
    · show Act.put _ (some 115) _ = _
      simp only [Act.put, List.setIfInBounds_toArray, List.set_cons_zero, List.set_cons_succ, i64_w, i32_w]
      rfl
    refine last_ (i := 12) (N := some 121) (lb 15 8191) rfl rfl (by kernel_rfl) (by decide) (fun K hK => ?_)
    refine goes_ Try.func100 (by kernel_rfl) rfl #[.pointer (some ⟨gu, 0, none⟩), Value.agg #[.int .i64 pk, .int .i64 ps, .int .i64 pp], .int .u64 vx] (by rfl) rfl rfl (by simp only [List.map_toArray, List.map_cons, List.map_nil]; rfl) ?_
    with_reducible refine (radd8_T pk ps pp vx Q2.out B2.out HT.out.three LL.out).mono ?_
    rintro e w3 ⟨rfl, h1_, h2_, h3_⟩
    refine ⟨_, rfl, ?_⟩
    rw [CU.out] at h1_
    rw [CU.out]
    have M3 := Aside0.mk (ghostS M2.out HT.out h3_).1
    have Q3 := Aside0.mk (refMove (ghostS M2.out HT.out h3_).2 h1_)
    have B3 := Aside0.mk h2_
    clear h1_ h2_ h3_
    refine hK.out _ _ ?_
    clear hK K
    refine norm_ (a' := ?_) ?_ ?_
    rotate_left
    · show Act.put _ (some 121) _ = _
      simp only [Act.put, List.setIfInBounds_toArray, List.set_cons_zero, List.set_cons_succ, i64_w, i32_w]
      rfl
    refine pS (v := ?_) (a' := ?_) 13 (some 122) (lb 15 16383) rfl rfl (by kernel_rfl) (fun _ _ _ h => h) (by rfl) ?_ ?_ ?_; rotate_left; (intro w'; go_simp; with_reducible rfl); rotate_left; (simp only [Act.put, List.setIfInBounds_toArray, List.set_cons_zero, List.set_cons_succ, i64_w, i32_w]; rfl)
    refine pS (v := ?_) (a' := ?_) 14 (some 6) (lb 15 32767) rfl rfl (by kernel_rfl) (fun _ _ _ h => h) (by rfl) ?_ ?_ ?_; rotate_left; (intro w'; go_simp; with_reducible rfl); rotate_left; (simp only [Act.put, List.setIfInBounds_toArray, List.set_cons_zero, List.set_cons_succ, i64_w, i32_w]; rfl)
    refine done_ (by kernel_rfl) ?_
    go_wp2_with fail
    go_ret
    exact ⟨rfl, gaddG G (pk, ps, pp) vx, { U with W := oset U.W (pk, ps, pp) (IntKind.u64.wrap (cu + vx)) }, M3.out, Q3.out, (by rw [← CU.out]; exact HR.out.add HO.out _ _), B3.out, lok_setW HL.out _ _, stOk_same HS.out rfl⟩
  have u5 : (kd == 5) = false := beq_eq_false_iff_ne.mpr k5
  clear k5
  by_cases k6 : kd = 6
  · subst k6
    have b0 : ((w.alloc (.cells #[.int .i64 6, .int .i64 pk, .int .i64 ps, .int .i64 pp, .int .i64 id, .int .u64 ox, .int .i64 oy, .bool ost, .int .u64 vx, .int .i64 vy, .bool vst] 70)).alloc (.cells #[.int .i64 pk, .int .i64 ps, .int .i64 pp] 23)).cell? ⟨w.heap.size, 0, none⟩ = some (.int .i64 6) := (blk_cell X1.out 0).trans rfl
    go_wp2_with fail
    clear b0
    generalize ((w.alloc (.cells #[.int .i64 6, .int .i64 pk, .int .i64 ps, .int .i64 pp, .int .i64 id, .int .u64 ox, .int .i64 oy, .bool ost, .int .u64 vx, .int .i64 vy, .bool vst] 70)).alloc (.cells #[.int .i64 pk, .int .i64 ps, .int .i64 pp] 23)) = w1 at *
    have Pd := Aside0.mk (blk_drew P1.out)
    have Md := Aside0.mk M1.out.drew
    have Qd := Aside0.mk (refMove (M1.out.rowSame (fun cs hc => blk_drew hc)) Q1.out.drew)
    have Bd := Aside0.mk (below_drew B1.out)
    have RE := Aside0.mk (show bornId G.row ps = bornId U.R ps by rw [HR.out.row])
    have te : (bornId U.R ps == bornId U.R ps) = true := beq_self_eq_true _
    refine start_ (n := 13) (S := fun w' => w'.cell? ⟨(w.heap.size + 1), 1, none⟩ = some (.int .i64 ps)) (ds := [10]) (lb 13 0) (by kernel_rfl) rfl rfl ((blk_cell Pd.out 1).trans rfl) (fun hHeld => ?_)
    refine pS (v := ?_) (a' := ?_) 0 (some 125) (lb 13 1) rfl rfl (by kernel_rfl) (fun _ _ _ h => h) (by rfl) ?_ ?_ ?_; rotate_left; (intro w'; go_simp; with_reducible rfl); rotate_left; (simp only [Act.put, List.setIfInBounds_toArray, List.set_cons_zero, List.set_cons_succ, i64_w, i32_w]; rfl)
    refine pS (v := ?_) (a' := ?_) 1 (some 126) (lb 13 3) rfl rfl (by kernel_rfl) (fun _ _ _ h => h) (by rfl) ?_ ?_ ?_; rotate_left; (intro w'; go_simp; with_reducible rfl); rotate_left; (simp only [Act.put, List.setIfInBounds_toArray, List.set_cons_zero, List.set_cons_succ, i64_w, i32_w]; rfl)
    refine pS (v := ?_) (a' := ?_) 4 (some 129) (lb 13 19) rfl rfl (by kernel_rfl) (fun _ _ _ h => h) (by rfl) ?_ ?_ ?_; rotate_left; (intro w'; go_simp; with_reducible rfl); rotate_left; (simp only [Act.put, List.setIfInBounds_toArray, List.set_cons_zero, List.set_cons_succ, i64_w, i32_w]; rfl)
    refine pS (v := ?_) (a' := ?_) 5 (some 130) (lb 13 51) rfl rfl (by kernel_rfl) (fun _ _ _ h => h) (by rfl) ?_ ?_ ?_; rotate_left; (intro w'; go_simp; with_reducible rfl); rotate_left; (simp only [Act.put, List.setIfInBounds_toArray, List.set_cons_zero, List.set_cons_succ, i64_w, i32_w]; rfl)
    refine pS (v := ?_) (a' := ?_) 6 (some 131) (lb 13 115) rfl rfl (by kernel_rfl) (fun _ _ _ h => h) (by rfl) ?_ ?_ ?_; rotate_left; (intro w'; go_simp; with_reducible rfl); rotate_left; (simp only [Act.put, List.setIfInBounds_toArray, List.set_cons_zero, List.set_cons_succ, i64_w, i32_w]; rfl)
    refine pS (v := ?_) (a' := ?_) 7 (some 132) (lb 13 243) rfl rfl (by kernel_rfl) (fun _ _ _ h => h) (by rfl) ?_ ?_ ?_; rotate_left; (intro w'; go_simp; with_reducible rfl); rotate_left; (simp only [Act.put, List.setIfInBounds_toArray, List.set_cons_zero, List.set_cons_succ, i64_w, i32_w]; rfl)
    refine pS (v := ?_) (a' := ?_) 8 (some 133) (lb 13 499) rfl rfl (by kernel_rfl) (fun _ _ _ h => h) (by rfl) ?_ ?_ ?_; rotate_left; (intro w'; go_simp; with_reducible rfl); rotate_left; (simp only [Act.put, List.setIfInBounds_toArray, List.set_cons_zero, List.set_cons_succ, i64_w, i32_w]; rfl)
    refine tS (v := ?_) (a' := ?_) 2 (some 127) (lb 13 503) rfl rfl (by kernel_rfl) (fun _ _ _ h => h) hHeld (by rfl) ?_ ?_ ?_; rotate_left; (rintro w' s0; go_simp; with_reducible rfl); rotate_left; (simp only [Act.put, List.setIfInBounds_toArray, List.set_cons_zero, List.set_cons_succ, i64_w, i32_w]; rfl)
    refine tS (v := ?_) (a' := ?_) 9 (some 134) (lb 13 1015) rfl rfl (by kernel_rfl) (fun _ _ _ h => h) hHeld (by rfl) ?_ ?_ ?_; rotate_left; (rintro w' s0; go_simp; with_reducible rfl); rotate_left; (simp only [Act.put, List.setIfInBounds_toArray, List.set_cons_zero, List.set_cons_succ, i64_w, i32_w]; rfl)
    refine one_ (i := 3) (N := some 128) (lb 13 1023) rfl rfl (by kernel_rfl) (by decide) (fun K hK => ?_)
    refine goes_ Try.func39 (by kernel_rfl) rfl #[.pointer (some ⟨gg, 0, none⟩), .int .i64 ps] (by rfl) rfl rfl (by simp only [List.map_toArray, List.map_cons, List.map_nil]; rfl) ?_
    with_reducible refine (gborn_U gg gp gc gm gl gs g3 G ps w0 _ Md.out Bd.out LA.out).mono ?_
    rintro e w2 ⟨rfl, h1_, h2_, h3_, h4_⟩
    refine ⟨_, rfl, ?_⟩
    rw [RE.out]
    have M2 := Aside0.mk h1_
    have Q2 := Aside0.mk (refB Md.out Qd.out HT.out h1_ h3_ h4_)
    have B2 := Aside0.mk h2_
    have P2 := Aside0.mk (Md.out.stayB h3_ Pd.out (by decide) (by decide))
    clear h1_ h2_ h3_ h4_
    refine hK.out _ _ ((blk_cell P2.out 1).trans rfl) (fun hHeld => ?_)
    clear hK K
    refine norm_ (a' := ?_) ?_ ?_
    rotate_left
    · show Act.put _ (some 128) _ = _
      simp only [Act.put, List.setIfInBounds_toArray, List.set_cons_zero, List.set_cons_succ, i64_w, i32_w]
      rfl
    refine last_ (i := 10) (N := some 135) (lb 13 2047) rfl rfl (by kernel_rfl) (by decide) (fun K hK => ?_)
    refine goes_ Try.func70 (by kernel_rfl) rfl #[.pointer (some ⟨gu, 2, none⟩), .int .i64 ps] (by rfl) rfl rfl (by simp only [List.map_toArray, List.map_cons, List.map_nil]; rfl) ?_
    with_reducible refine (rbornU_T ps Q2.out B2.out HT.out.two LL.out.2.2).mono ?_
    rintro e w3 ⟨rfl, h1_, h2_, h3_⟩
    refine ⟨_, rfl, ?_⟩
    have M3 := Aside0.mk (ghostB M2.out HT.out h3_).1
    have Q3 := Aside0.mk (refMove (ghostB M2.out HT.out h3_).2 h1_)
    have B3 := Aside0.mk h2_
    clear h1_ h2_ h3_
    refine hK.out _ _ ?_
    clear hK K
    refine norm_ (a' := ?_) ?_ ?_
    rotate_left
    · show Act.put _ (some 135) _ = _
      simp only [Act.put, List.setIfInBounds_toArray, List.set_cons_zero, List.set_cons_succ, i64_w, i32_w]
      rfl
    refine pS (v := ?_) (a' := ?_) 11 (some 136) (lb 13 4095) rfl rfl (by kernel_rfl) (fun _ _ _ h => h) (by rfl) ?_ ?_ ?_; rotate_left; (intro w'; go_simp; with_reducible rfl); rotate_left; (simp only [Act.put, List.setIfInBounds_toArray, List.set_cons_zero, List.set_cons_succ, i64_w, i32_w]; rfl)
    refine pS (v := ?_) (a' := ?_) 12 (some 6) (lb 13 8191) rfl rfl (by kernel_rfl) (fun _ _ _ h => h) (by rfl) ?_ ?_ ?_; rotate_left; (intro w'; go_simp; with_reducible rfl); rotate_left; (simp only [Act.put, List.setIfInBounds_toArray, List.set_cons_zero, List.set_cons_succ, i64_w, i32_w]; rfl)
    refine done_ (by kernel_rfl) ?_
    go_wp2_with fail
    go_ret
    exact ⟨rfl, gbornG G ps, { U with R := bornRow U.R ps }, M3.out, Q3.out, HR.out.born ps, B3.out, lok_born HL.out ps, stOk_same HS.out rfl⟩
  have u6 : (kd == 6) = false := beq_eq_false_iff_ne.mpr k6
  clear k6
  have b0 : ((w.alloc (.cells #[.int .i64 kd, .int .i64 pk, .int .i64 ps, .int .i64 pp, .int .i64 id, .int .u64 ox, .int .i64 oy, .bool ost, .int .u64 vx, .int .i64 vy, .bool vst] 70)).alloc (.cells #[.int .i64 pk, .int .i64 ps, .int .i64 pp] 23)).cell? ⟨w.heap.size, 0, none⟩ = some (.int .i64 kd) := (blk_cell X1.out 0).trans rfl
  go_wp2_with fail
  clear b0
  generalize ((w.alloc (.cells #[.int .i64 kd, .int .i64 pk, .int .i64 ps, .int .i64 pp, .int .i64 id, .int .u64 ox, .int .i64 oy, .bool ost, .int .u64 vx, .int .i64 vy, .bool vst] 70)).alloc (.cells #[.int .i64 pk, .int .i64 ps, .int .i64 pp] 23)) = w1 at *
  have Pd := Aside0.mk (blk_drew P1.out)
  have Md := Aside0.mk M1.out.drew
  have Qd := Aside0.mk (refMove (M1.out.rowSame (fun cs hc => blk_drew hc)) Q1.out.drew)
  have Bd := Aside0.mk (below_drew B1.out)
  have te : (cu == cu) = true := beq_self_eq_true cu
  refine start_ (n := 11) (S := fun w' => w'.cell? ⟨(w.heap.size + 1), 0, none⟩ = some (.int .i64 pk) ∧ w'.cell? ⟨(w.heap.size + 1), 1, none⟩ = some (.int .i64 ps) ∧ w'.cell? ⟨(w.heap.size + 1), 2, none⟩ = some (.int .i64 pp)) (ds := [8]) (lb 11 0) (by kernel_rfl) rfl rfl ⟨(blk_cell Pd.out 0).trans rfl, (blk_cell Pd.out 1).trans rfl, (blk_cell Pd.out 2).trans rfl⟩ (fun hHeld => ?_)
  refine pS (v := ?_) (a' := ?_) 0 (some 137) (lb 11 1) rfl rfl (by kernel_rfl) (fun _ _ _ h => h) (by rfl) ?_ ?_ ?_; rotate_left; (intro w'; go_simp; with_reducible rfl); rotate_left; (simp only [Act.put, List.setIfInBounds_toArray, List.set_cons_zero, List.set_cons_succ, i64_w, i32_w]; rfl)
  refine pS (v := ?_) (a' := ?_) 3 (some 140) (lb 11 9) rfl rfl (by kernel_rfl) (fun _ _ _ h => h) (by rfl) ?_ ?_ ?_; rotate_left; (intro w'; go_simp; with_reducible rfl); rotate_left; (simp only [Act.put, List.setIfInBounds_toArray, List.set_cons_zero, List.set_cons_succ, i64_w, i32_w]; rfl)
  refine pS (v := ?_) (a' := ?_) 4 (some 141) (lb 11 25) rfl rfl (by kernel_rfl) (fun _ _ _ h => h) (by rfl) ?_ ?_ ?_; rotate_left; (intro w'; go_simp; with_reducible rfl); rotate_left; (simp only [Act.put, List.setIfInBounds_toArray, List.set_cons_zero, List.set_cons_succ, i64_w, i32_w]; rfl)
  refine pS (v := ?_) (a' := ?_) 5 (some 142) (lb 11 57) rfl rfl (by kernel_rfl) (fun _ _ _ h => h) (by rfl) ?_ ?_ ?_; rotate_left; (intro w'; go_simp; with_reducible rfl); rotate_left; (simp only [Act.put, List.setIfInBounds_toArray, List.set_cons_zero, List.set_cons_succ, i64_w, i32_w]; rfl)
  refine pS (v := ?_) (a' := ?_) 6 (some 143) (lb 11 121) rfl rfl (by kernel_rfl) (fun _ _ _ h => h) (by rfl) ?_ ?_ ?_; rotate_left; (intro w'; go_simp; with_reducible rfl); rotate_left; (simp only [Act.put, List.setIfInBounds_toArray, List.set_cons_zero, List.set_cons_succ, i64_w, i32_w]; rfl)
  refine tS (v := ?_) (a' := ?_) 1 (some 138) (lb 11 123) rfl rfl (by kernel_rfl) (fun _ _ _ h => h) hHeld (by rfl) ?_ ?_ ?_; rotate_left; (rintro w' ⟨s0, s1, s2⟩; go_simp; with_reducible rfl); rotate_left; (simp only [Act.put, List.setIfInBounds_toArray, List.set_cons_zero, List.set_cons_succ, i64_w, i32_w]; rfl)
  refine tS (v := ?_) (a' := ?_) 7 (some 144) (lb 11 251) rfl rfl (by kernel_rfl) (fun _ _ _ h => h) hHeld (by rfl) ?_ ?_ ?_; rotate_left; (rintro w' ⟨s0, s1, s2⟩; go_simp; with_reducible rfl); rotate_left; (simp only [Act.put, List.setIfInBounds_toArray, List.set_cons_zero, List.set_cons_succ, i64_w, i32_w]; rfl)
  refine one_ (i := 2) (N := some 139) (lb 11 255) rfl rfl (by kernel_rfl) (by decide) (fun K hK => ?_)
  refine goes_ Try.func49 (by kernel_rfl) rfl #[.pointer (some ⟨gg, 0, none⟩), Value.agg #[.int .i64 pk, .int .i64 ps, .int .i64 pp]] (by rfl) rfl rfl (by simp only [List.map_toArray, List.map_cons, List.map_nil]; rfl) ?_
  with_reducible refine (gpeek_T gg gp gc gm gl gs g3 G pk ps pp w0 _ Md.out).mono ?_
  rintro e w2 ⟨rfl, hb⟩
  refine ⟨_, rfl, ?_⟩
  rw [CW.out]
  have M2 := Aside0.mk (Md.out.below hb)
  have Q2 := Aside0.mk (refMove (Md.out.rowSame (fun cs hc => blk_below hc hb)) (Qd.out.below hb))
  have B2 := Aside0.mk (below_step Bd.out hb)
  have P2 := Aside0.mk (blk_below Pd.out hb)
  clear hb
  refine hK.out _ _ ⟨(blk_cell P2.out 0).trans rfl, (blk_cell P2.out 1).trans rfl, (blk_cell P2.out 2).trans rfl⟩ (fun hHeld => ?_)
  clear hK K
  refine norm_ (a' := ?_) ?_ ?_
  rotate_left
  · show Act.put _ (some 139) _ = _
    simp only [Act.put, List.setIfInBounds_toArray, List.set_cons_zero, List.set_cons_succ, i64_w, i32_w]
    rfl
  refine last_ (i := 8) (N := some 145) (lb 11 511) rfl rfl (by kernel_rfl) (by decide) (fun K hK => ?_)
  refine goes_ Try.func83 (by kernel_rfl) rfl #[.pointer (some ⟨gu, 0, none⟩), Value.agg #[.int .i64 pk, .int .i64 ps, .int .i64 pp]] (by rfl) rfl rfl (by simp only [List.map_toArray, List.map_cons, List.map_nil]; rfl) ?_
  with_reducible refine (rgetW_T pk ps pp Q2.out LL.out.1).mono ?_
  rintro e w3 ⟨rfl, hb⟩
  refine ⟨_, rfl, ?_⟩
  rw [CU.out]
  have M3 := Aside0.mk (M2.out.below hb)
  have Q3 := Aside0.mk (refMove (M2.out.rowSame (fun cs hc => blk_below hc hb)) (Q2.out.below hb))
  have B3 := Aside0.mk (below_step B2.out hb)
  clear hb
  refine hK.out _ _ ?_
  clear hK K
  refine norm_ (a' := ?_) ?_ ?_
  rotate_left
  · show Act.put _ (some 145) _ = _
    simp only [Act.put, List.setIfInBounds_toArray, List.set_cons_zero, List.set_cons_succ, i64_w, i32_w]
    rfl
  refine pS (v := ?_) (a' := ?_) 9 (some 146) (lb 11 1023) rfl rfl (by kernel_rfl) (fun _ _ _ h => h) (by rfl) ?_ ?_ ?_; rotate_left; (intro w'; go_simp; with_reducible rfl); rotate_left; (simp only [Act.put, List.setIfInBounds_toArray, List.set_cons_zero, List.set_cons_succ, i64_w, i32_w]; rfl)
  refine pS (v := ?_) (a' := ?_) 10 (some 6) (lb 11 2047) rfl rfl (by kernel_rfl) (fun _ _ _ h => h) (by rfl) ?_ ?_ ?_; rotate_left; (intro w'; go_simp; with_reducible rfl); rotate_left; (simp only [Act.put, List.setIfInBounds_toArray, List.set_cons_zero, List.set_cons_succ, i64_w, i32_w]; rfl)
  refine done_ (by kernel_rfl) ?_
  go_wp2_with fail
  go_ret
  exact ⟨rfl, G, U, M3.out, Q3.out, HR.out, B3.out, lok_same HL.out, stOk_same HS.out rfl⟩
end Go.Proofs.Ytlpnggapndokeaa.PIdealKeeps

namespace Go.Proofs.Ytlpnggapndokeaa.PIdealKeeps
open Go Go.RowKit Go.Proofs.YtlpnggapndokeaaW.PrintWords Go.Proofs.YtlpnggapndokeaaW.PrintLast Go.Proofs.YtlpnggapndokeaaW.PrintMore Go.Proofs.Ytlpnggapndokeaa.M Go.Proofs.Ytlpnggapndokeaa.U
attribute [local go_sem] max2_int min2_int max_two min_two max_three min_three max_four min_four
set_option linter.unusedVariables false
set_option linter.unusedSimpArgs false
theorem refAt0 {w0 w : World} {tu : TypeId} {orow : Option Nat} (hb : w0.heap.size ≤ w.heap.size) (ho : ∀ k, orow = some k → k < w.heap.size) (ex : List Value) : RefAt w0 (w.alloc (.cells (.slice none 0 0 :: .slice none 0 0 :: .slice none 0 0 :: ex).toArray tu)) w.heap.size tu ex orow U0 :=
  ⟨⟨_, _, _, blk_new w _, Kd.R_nil _ _ _ _ _, Kd.R_nil _ _ _ _ _, Kd.R_nil _ _ _ _ _, fun k hk => by simp [Value.ownBlock] at hk, fun k hk => by simp [Value.ownBlock] at hk⟩, hb, fun k hk => by have := ho k hk; simp; omega⟩
set_option maxHeartbeats 16000000 in
set_option maxRecDepth 100000 in
theorem exact08T (A0_ : Option Addr) (c0 : Nat) (xs : List S70) (w : World) (hr0 : Kd.C k70 w A0_ xs.length xs) (hc0 : xs.length ≤ c0) (hG : ∀ x ∈ xs, x.f3.f1 < 9223372036854775808) :
    Calls Try.prog 8 #[.slice A0_ xs.length c0] w fun e w' => e = .returned (.bool true) ∧ Below w.heap.size w w' := by
  have hu25 := Try.underlying25
  have hu28 := Try.underlying28
  have hu23 := Try.underlying23
  have hu67 := Try.underlying67
  have hu70 := Try.underlying70
  have hu58 := Try.underlying58
  have hu74 := Try.underlying74
  have hu76 := Try.underlying76
  have HR := Aside0.mk hr0
  have HC := Aside0.mk hc0
  have HG := Aside0.mk hG
  clear hr0 hc0 hG
  go_enter Try.func8, Try.ntmps8
  go_wp2_with fail
  refine (awake08_T w).mono ?_
  rintro e w1 ⟨rfl, hb⟩
  have B1 := Aside0.mk hb
  clear hb
  go_wp2_with fail
  refine (gnew_T w1).mono ?_
  rintro e w2 ⟨gg, gp, gc, gm, gl, gs, g3, rfl, h1, h2⟩
  have I2 := Aside0.mk (h1.rebase (w0 := w) B1.out.size)
  have B2 := Aside0.mk (below_step B1.out h2)
  clear h1 h2 B1
  have M3 := Aside0.mk (I2.out.alloc (.cells #[.slice none 0 0, .slice none 0 0, .slice none 0 0, .int .i64 0, .int .i64 0] 76))
  have Q3 := Aside0.mk (show RefAt w (w2.alloc (.cells #[.slice none 0 0, .slice none 0 0, .slice none 0 0, .int .i64 0, .int .i64 0] 76)) w2.heap.size 76 (.int .i64 G0.faults :: .int .i64 G0.stale :: []) (rowAt (w2.alloc (.cells #[.slice none 0 0, .slice none 0 0, .slice none 0 0, .int .i64 0, .int .i64 0] 76)) gs) U0 by
    rw [I2.out.rowSame (fun cs hc => blk_alloc hc _)]
    exact refAt0 B2.out.size (fun k hk => I2.out.rowAt_lt hk) [.int .i64 0, .int .i64 0])
  have B3 := Aside0.mk (below_alloc B2.out (.cells #[.slice none 0 0, .slice none 0 0, .slice none 0 0, .int .i64 0, .int .i64 0] 76))
  clear I2 B2
  go_wp2_with fail
  generalize w2.alloc (.cells #[.slice none 0 0, .slice none 0 0, .slice none 0 0, .int .i64 0, .int .i64 0] 76) = w3 at *
  generalize w2.heap.size = gu at *
  go_loopg [5] xs.length (fun kq v5 w' => ∃ (i : Int) (G : GSt) (U : RSt), v5 = .int .i64 i ∧ Aside0 (0 ≤ i ∧ i ≤ 150 ∧ i + kq = xs.length) ∧ Aside0 (GhostIs w w' gg gp gc gm gl gs g3 G) ∧ Aside0 (RefAt w w' gu 76 (.int .i64 G.faults :: .int .i64 G.stale :: []) (rowAt w' gs) U) ∧ Aside0 (Rel8 G U) ∧ Aside0 (Below w.heap.size w w') ∧ Aside0 (Lok U i.toNat) ∧ Aside0 (StOk G i.toNat))
  case atStart => exact ⟨0, G0, U0, rfl, ⟨by omega⟩, M3, Q3, ⟨rel8_0⟩, B3, ⟨Nat.le_refl _, Nat.le_refl _, Nat.le_refl _⟩, ⟨Int.le_refl _, Int.le_refl _⟩⟩
  case round =>
    clear M3 Q3 B3
    obtain ⟨i, G, U, rfl, HK, JM, JQ, JR, JB, JL, JS⟩ := hrel
    by_cases hi : i < (xs.length : Int) ∧ i < 150
    · have t1 : decide (i < (xs.length : Int)) = true := decide_eq_true hi.1
      have t2 : decide (i < 150) = true := decide_eq_true hi.2
      have p0 : (0 : Int) ≤ i := HK.out.1
      have q0 : i < (xs.length : Int) := hi.1
      have q1 := Aside0.mk hi.2
      clear hi
      obtain ⟨ko, rfl⟩ : ∃ m, gk = m + 1 := ⟨gk - 1, by have := HK.out; omega⟩
      obtain ⟨ad, e0, HXS⟩ := at_T70 HR.out i p0 q0
      cases e0
      have hgx := HG.out (xs.getD i.toNat z70) (by rw [List.getD_eq_getElem?_getD, List.getElem?_eq_getElem (by omega)]; exact List.getElem_mem _)
      obtain ⟨x, hx⟩ : ∃ x, xs.getD i.toNat z70 = x := ⟨_, rfl⟩
      rw [hx] at HXS hgx
      obtain ⟨hx0, hx1, hx2, hx3, hx4, hx5, hx6, hx7, hx8, hx9, hx10⟩ := HXS
      clear hx
      obtain ⟨kd, ⟨⟨pk, ps, pp⟩, id⟩, ⟨ox, oy, ost⟩, ⟨vx, vy, vst⟩⟩ := x
      have HGX := Aside0.mk (show vy < 9223372036854775808 from hgx)
      clear hgx
      have H0 := Aside0.mk (show w.cell? (ad.add (i.toNat * 11)) = some (.int .i64 kd) from hx0)
      have H1 := Aside0.mk (show w.cell? ⟨(ad.add (i.toNat * 11)).block, (ad.add (i.toNat * 11)).off + 1, none⟩ = some (.int .i64 pk) from hx1)
      have H2 := Aside0.mk (show w.cell? ⟨(ad.add (i.toNat * 11)).block, (ad.add (i.toNat * 11)).off + 2, none⟩ = some (.int .i64 ps) from hx2)
      have H3 := Aside0.mk (show w.cell? ⟨(ad.add (i.toNat * 11)).block, (ad.add (i.toNat * 11)).off + 3, none⟩ = some (.int .i64 pp) from hx3)
      have H4 := Aside0.mk (show w.cell? ⟨(ad.add (i.toNat * 11)).block, (ad.add (i.toNat * 11)).off + 4, none⟩ = some (.int .i64 id) from hx4)
      have H5 := Aside0.mk (show w.cell? ⟨(ad.add (i.toNat * 11)).block, (ad.add (i.toNat * 11)).off + 5, none⟩ = some (.int .u64 ox) from hx5)
      have H6 := Aside0.mk (show w.cell? ⟨(ad.add (i.toNat * 11)).block, (ad.add (i.toNat * 11)).off + 6, none⟩ = some (.int .i64 oy) from hx6)
      have H7 := Aside0.mk (show w.cell? ⟨(ad.add (i.toNat * 11)).block, (ad.add (i.toNat * 11)).off + 7, none⟩ = some (.bool ost) from hx7)
      have H8 := Aside0.mk (show w.cell? ⟨(ad.add (i.toNat * 11)).block, (ad.add (i.toNat * 11)).off + 8, none⟩ = some (.int .u64 vx) from hx8)
      have H9 := Aside0.mk (show w.cell? ⟨(ad.add (i.toNat * 11)).block, (ad.add (i.toNat * 11)).off + 9, none⟩ = some (.int .i64 vy) from hx9)
      have H10 := Aside0.mk (show w.cell? ⟨(ad.add (i.toNat * 11)).block, (ad.add (i.toNat * 11)).off + 10, none⟩ = some (.bool vst) from hx10)
      replace hx0 := (JB.out.cell (World.block_lt_of_cell? w _ hx0)).trans hx0
      replace hx1 := (JB.out.cell (World.block_lt_of_cell? w _ hx1)).trans hx1
      replace hx2 := (JB.out.cell (World.block_lt_of_cell? w _ hx2)).trans hx2
      replace hx3 := (JB.out.cell (World.block_lt_of_cell? w _ hx3)).trans hx3
      replace hx4 := (JB.out.cell (World.block_lt_of_cell? w _ hx4)).trans hx4
      replace hx5 := (JB.out.cell (World.block_lt_of_cell? w _ hx5)).trans hx5
      replace hx6 := (JB.out.cell (World.block_lt_of_cell? w _ hx6)).trans hx6
      replace hx7 := (JB.out.cell (World.block_lt_of_cell? w _ hx7)).trans hx7
      replace hx8 := (JB.out.cell (World.block_lt_of_cell? w _ hx8)).trans hx8
      replace hx9 := (JB.out.cell (World.block_lt_of_cell? w _ hx9)).trans hx9
      replace hx10 := (JB.out.cell (World.block_lt_of_cell? w _ hx10)).trans hx10
      have p0b : decide (0 ≤ i) = true := decide_eq_true p0
      have wi : wrap64 (i + 1) = i + 1 := by have := q1.out; unfold wrap64; omega
      replace p0 := eq_true p0
      replace q0 := eq_true q0
      have RI := Aside0.mk (show 0 ≤ i + 1 ∧ i + 1 ≤ 150 ∧ (i + 1).toNat = i.toNat + 1 by have := HK.out; have := q1.out; omega)
      by_cases hv : vy < 0
      · have t3 : decide (vy < 0) = true := decide_eq_true hv
        clear hv
        go_wp2_with fail
        go_ret
        exact ⟨rfl, JB.out⟩
      · have t3 : decide (vy < 0) = false := decide_eq_false hv
        have HV := Aside0.mk (show 0 ≤ vy ∧ vy < 9223372036854775808 by have := HGX.out; omega)
        clear hv
        have Md := Aside0.mk JM.out.drew
        have Qd := Aside0.mk (refMove (JM.out.rowSame (fun cs hc => blk_drew hc)) JQ.out.drew)
        have Bd := Aside0.mk (below_drew JB.out)
        go_wp2_with fail
        refine start_ (n := 27) (S := fun w' => w'.cell? (ad.add (i.toNat * 11)) = some (.int .i64 kd) ∧ w'.cell? ⟨(ad.add (i.toNat * 11)).block, (ad.add (i.toNat * 11)).off + 1, none⟩ = some (.int .i64 pk) ∧ w'.cell? ⟨(ad.add (i.toNat * 11)).block, (ad.add (i.toNat * 11)).off + 2, none⟩ = some (.int .i64 ps) ∧ w'.cell? ⟨(ad.add (i.toNat * 11)).block, (ad.add (i.toNat * 11)).off + 3, none⟩ = some (.int .i64 pp) ∧ w'.cell? ⟨(ad.add (i.toNat * 11)).block, (ad.add (i.toNat * 11)).off + 4, none⟩ = some (.int .i64 id) ∧ w'.cell? ⟨(ad.add (i.toNat * 11)).block, (ad.add (i.toNat * 11)).off + 5, none⟩ = some (.int .u64 ox) ∧ w'.cell? ⟨(ad.add (i.toNat * 11)).block, (ad.add (i.toNat * 11)).off + 6, none⟩ = some (.int .i64 oy) ∧ w'.cell? ⟨(ad.add (i.toNat * 11)).block, (ad.add (i.toNat * 11)).off + 7, none⟩ = some (.bool ost) ∧ w'.cell? ⟨(ad.add (i.toNat * 11)).block, (ad.add (i.toNat * 11)).off + 8, none⟩ = some (.int .u64 vx) ∧ w'.cell? ⟨(ad.add (i.toNat * 11)).block, (ad.add (i.toNat * 11)).off + 9, none⟩ = some (.int .i64 vy) ∧ w'.cell? ⟨(ad.add (i.toNat * 11)).block, (ad.add (i.toNat * 11)).off + 10, none⟩ = some (.bool vst)) (ds := []) (lb 27 0) (by kernel_rfl) rfl rfl ⟨hx0, hx1, hx2, hx3, hx4, hx5, hx6, hx7, hx8, hx9, hx10⟩ (fun hHeld => ?_)
        refine pS (v := ?_) (a' := ?_) 0 (some 28) (lb 27 1) rfl rfl (by kernel_rfl) (fun _ _ _ h => h) (by rfl) ?_ ?_ ?_; rotate_left; (intro w'; go_simp; with_reducible rfl); rotate_left; (simp only [Act.put, List.setIfInBounds_toArray, List.set_cons_zero, List.set_cons_succ, i64_w, i32_w]; rfl)
        refine pS (v := ?_) (a' := ?_) 1 (some 29) (lb 27 3) rfl rfl (by kernel_rfl) (fun _ _ _ h => h) (by rfl) ?_ ?_ ?_; rotate_left; (intro w'; go_simp; with_reducible rfl); rotate_left; (simp only [Act.put, List.setIfInBounds_toArray, List.set_cons_zero, List.set_cons_succ, i64_w, i32_w]; rfl)
        refine pS (v := ?_) (a' := ?_) 2 (some 30) (lb 27 7) rfl rfl (by kernel_rfl) (fun _ _ _ h => h) (by rfl) ?_ ?_ ?_; rotate_left; (intro w'; go_simp; with_reducible rfl); rotate_left; (simp only [Act.put, List.setIfInBounds_toArray, List.set_cons_zero, List.set_cons_succ, i64_w, i32_w]; rfl)
        refine pS (v := ?_) (a' := ?_) 3 (some 31) (lb 27 15) rfl rfl (by kernel_rfl) (fun _ _ _ h => h) (by rfl) ?_ ?_ ?_; rotate_left; (intro w'; go_simp; with_reducible rfl); rotate_left; (simp only [Act.put, List.setIfInBounds_toArray, List.set_cons_zero, List.set_cons_succ, i64_w, i32_w]; rfl)
        refine pS (v := ?_) (a' := ?_) 4 (some 32) (lb 27 31) rfl rfl (by kernel_rfl) (fun _ _ _ h => h) (by rfl) ?_ ?_ ?_; rotate_left; (intro w'; go_simp; with_reducible rfl); rotate_left; (simp only [Act.put, List.setIfInBounds_toArray, List.set_cons_zero, List.set_cons_succ, i64_w, i32_w]; rfl)
        refine tS (v := ?_) (a' := ?_) 5 (some 33) (lb 27 63) rfl rfl (by kernel_rfl) (fun _ _ _ h => h) hHeld (by rfl) ?_ ?_ ?_; rotate_left; (rintro w' ⟨s0, s1, s2, s3, s4, s5, s6, s7, s8, s9, s10⟩; go_simp; with_reducible rfl); rotate_left; (simp only [Act.put, List.setIfInBounds_toArray, List.set_cons_zero, List.set_cons_succ, i64_w, i32_w]; rfl)
        refine one_ (i := 6) (N := some 34) (lb 27 127) rfl rfl (by kernel_rfl) (by decide) (fun K hK => ?_)
        refine goes_ Try.func47 (by kernel_rfl) rfl #[.pointer (some ⟨gg, 0, none⟩), .pointer (some ⟨gu, 0, none⟩), .agg #[.int .i64 kd, .int .i64 pk, .int .i64 ps, .int .i64 pp, .int .i64 id, .int .u64 ox, .int .i64 oy, .bool ost, .int .u64 vx, .int .i64 vy, .bool vst]] (by rfl) rfl rfl (by simp only [List.map_toArray, List.map_cons, List.map_nil]; rfl) ?_
        with_reducible refine (does8_T gg gp gc gm gl gs g3 gu G U kd pk ps pp id ox oy ost vx vy vst i.toNat w _ Md.out Qd.out Bd.out JR.out JL.out (by have := q1.out; omega) JS.out HV.out).mono ?_
        rintro e w6 ⟨rfl, G', U', h1_, h2_, h3_, h4_, h5_, h6_⟩
        refine ⟨_, rfl, ?_⟩
        have ZI := Aside0.mk h1_
        have ZQ := Aside0.mk h2_
        have ZR := Aside0.mk h3_
        have ZB := Aside0.mk h4_
        have ZL := Aside0.mk (show Lok U' (i + 1).toNat by rw [RI.out.2.2]; exact h5_)
        have ZS := Aside0.mk (show StOk G' (i + 1).toNat by rw [RI.out.2.2]; exact h6_)
        obtain ⟨vW, vL, vR, hbu⟩ := h2_.blk
        have c4 : w6.cell? ⟨gu, 4, none⟩ = some (.int .i64 G'.stale) := (blk_cell hbu 4).trans rfl
        have c3 : w6.cell? ⟨gu, 3, none⟩ = some (.int .i64 G'.faults) := (blk_cell hbu 3).trans rfl
        have te : (G'.stale != G'.stale) = false := by simp
        have tf : (G'.faults != G'.faults) = false := by simp
        clear h1_ h2_ h3_ h4_ h5_ h6_ hbu
        refine hK.out _ _ ⟨(ZB.out.cell (World.block_lt_of_cell? w _ H0.out)).trans H0.out, (ZB.out.cell (World.block_lt_of_cell? w _ H1.out)).trans H1.out, (ZB.out.cell (World.block_lt_of_cell? w _ H2.out)).trans H2.out, (ZB.out.cell (World.block_lt_of_cell? w _ H3.out)).trans H3.out, (ZB.out.cell (World.block_lt_of_cell? w _ H4.out)).trans H4.out, (ZB.out.cell (World.block_lt_of_cell? w _ H5.out)).trans H5.out, (ZB.out.cell (World.block_lt_of_cell? w _ H6.out)).trans H6.out, (ZB.out.cell (World.block_lt_of_cell? w _ H7.out)).trans H7.out, (ZB.out.cell (World.block_lt_of_cell? w _ H8.out)).trans H8.out, (ZB.out.cell (World.block_lt_of_cell? w _ H9.out)).trans H9.out, (ZB.out.cell (World.block_lt_of_cell? w _ H10.out)).trans H10.out⟩ (fun hHeld => ?_)
        clear hK K
        refine norm_ (a' := ?_) ?_ ?_
        rotate_left
        · show Act.put _ (some 34) _ = _
          simp only [Act.put, List.setIfInBounds_toArray, List.set_cons_zero, List.set_cons_succ, i64_w, i32_w]
          rfl
        refine pS (v := ?_) (a' := ?_) 7 (some 35) (lb 27 255) rfl rfl (by kernel_rfl) (fun _ _ _ h => h) (by rfl) ?_ ?_ ?_; rotate_left; (intro w'; go_simp; with_reducible rfl); rotate_left; (simp only [Act.put, List.setIfInBounds_toArray, List.set_cons_zero, List.set_cons_succ, i64_w, i32_w]; rfl)
        refine pS (v := ?_) (a' := ?_) 8 (some 36) (lb 27 511) rfl rfl (by kernel_rfl) (fun _ _ _ h => h) (by rfl) ?_ ?_ ?_; rotate_left; (intro w'; go_simp; with_reducible rfl); rotate_left; (simp only [Act.put, List.setIfInBounds_toArray, List.set_cons_zero, List.set_cons_succ, i64_w, i32_w]; rfl)
        refine pS (v := ?_) (a' := ?_) 9 (some 37) (lb 27 1023) rfl rfl (by kernel_rfl) (fun _ _ _ h => h) (by rfl) ?_ ?_ ?_; rotate_left; (intro w'; go_simp; with_reducible rfl); rotate_left; (simp only [Act.put, List.setIfInBounds_toArray, List.set_cons_zero, List.set_cons_succ, i64_w, i32_w]; rfl)
        refine pS (v := ?_) (a' := ?_) 11 (some 39) (lb 27 3071) rfl rfl (by kernel_rfl) (fun _ _ _ h => h) (by rfl) ?_ ?_ ?_; rotate_left; (intro w'; go_simp; with_reducible rfl); rotate_left; (simp only [Act.put, List.setIfInBounds_toArray, List.set_cons_zero, List.set_cons_succ, i64_w, i32_w]; rfl)
        refine pS (v := ?_) (a' := ?_) 12 (some 40) (lb 27 7167) rfl rfl (by kernel_rfl) (fun _ _ _ h => h) (by rfl) ?_ ?_ ?_; rotate_left; (intro w'; go_simp; with_reducible rfl); rotate_left; (simp only [Act.put, List.setIfInBounds_toArray, List.set_cons_zero, List.set_cons_succ, i64_w, i32_w]; rfl)
        refine pS (v := ?_) (a' := ?_) 13 (some 41) (lb 27 15359) rfl rfl (by kernel_rfl) (fun _ _ _ h => h) (by rfl) ?_ ?_ ?_; rotate_left; (intro w'; go_simp; with_reducible rfl); rotate_left; (simp only [Act.put, List.setIfInBounds_toArray, List.set_cons_zero, List.set_cons_succ, i64_w, i32_w]; rfl)
        refine join_ (σ := Unit) 12 (lb 27 32767) (fun s_ => [(38, .int .i64 G'.stale), (42, .int .i64 G'.stale)]) (fun s_ w' => (w'.cell? (ad.add (i.toNat * 11)) = some (.int .i64 kd) ∧ w'.cell? ⟨(ad.add (i.toNat * 11)).block, (ad.add (i.toNat * 11)).off + 1, none⟩ = some (.int .i64 pk) ∧ w'.cell? ⟨(ad.add (i.toNat * 11)).block, (ad.add (i.toNat * 11)).off + 2, none⟩ = some (.int .i64 ps) ∧ w'.cell? ⟨(ad.add (i.toNat * 11)).block, (ad.add (i.toNat * 11)).off + 3, none⟩ = some (.int .i64 pp) ∧ w'.cell? ⟨(ad.add (i.toNat * 11)).block, (ad.add (i.toNat * 11)).off + 4, none⟩ = some (.int .i64 id) ∧ w'.cell? ⟨(ad.add (i.toNat * 11)).block, (ad.add (i.toNat * 11)).off + 5, none⟩ = some (.int .u64 ox) ∧ w'.cell? ⟨(ad.add (i.toNat * 11)).block, (ad.add (i.toNat * 11)).off + 6, none⟩ = some (.int .i64 oy) ∧ w'.cell? ⟨(ad.add (i.toNat * 11)).block, (ad.add (i.toNat * 11)).off + 7, none⟩ = some (.bool ost) ∧ w'.cell? ⟨(ad.add (i.toNat * 11)).block, (ad.add (i.toNat * 11)).off + 8, none⟩ = some (.int .u64 vx) ∧ w'.cell? ⟨(ad.add (i.toNat * 11)).block, (ad.add (i.toNat * 11)).off + 9, none⟩ = some (.int .i64 vy) ∧ w'.cell? ⟨(ad.add (i.toNat * 11)).block, (ad.add (i.toNat * 11)).off + 10, none⟩ = some (.bool vst)) ∧ w' = w6) ?_ ?_
        rotate_left
        · intro hCont
          refine two_ (i := 10) (j := 14) (Ni := some 38) (Nj := some 42) (lb 27 16383) (lb 27 31743) rfl rfl rfl rfl (by kernel_rfl) (by decide) (by decide) (fun K hK => ?_) (fun K hK => ?_)
          · skip
            refine goes_ Try.func43 (by kernel_rfl) rfl #[.pointer (some ⟨gg, 0, none⟩)] (by rfl) rfl rfl (by simp only [List.map_toArray, List.map_cons, List.map_nil]; rfl) ?_
            with_reducible refine (gstale_T gg gp gc gm gl gs g3 G' w _ ZI.out).mono ?_
            rintro e w7 ⟨rfl, rfl⟩
            refine ⟨_, rfl, ?_⟩
            refine hK.out _ _ ⟨(ZB.out.cell (World.block_lt_of_cell? w _ H0.out)).trans H0.out, (ZB.out.cell (World.block_lt_of_cell? w _ H1.out)).trans H1.out, (ZB.out.cell (World.block_lt_of_cell? w _ H2.out)).trans H2.out, (ZB.out.cell (World.block_lt_of_cell? w _ H3.out)).trans H3.out, (ZB.out.cell (World.block_lt_of_cell? w _ H4.out)).trans H4.out, (ZB.out.cell (World.block_lt_of_cell? w _ H5.out)).trans H5.out, (ZB.out.cell (World.block_lt_of_cell? w _ H6.out)).trans H6.out, (ZB.out.cell (World.block_lt_of_cell? w _ H7.out)).trans H7.out, (ZB.out.cell (World.block_lt_of_cell? w _ H8.out)).trans H8.out, (ZB.out.cell (World.block_lt_of_cell? w _ H9.out)).trans H9.out, (ZB.out.cell (World.block_lt_of_cell? w _ H10.out)).trans H10.out⟩ (fun hHeld => ?_)
            clear hK K
            refine norm_ (a' := ?_) ?_ ?_
            rotate_left
            · show Act.put _ (some 38) _ = _
              simp only [Act.put, List.setIfInBounds_toArray, List.set_cons_zero, List.set_cons_succ, i64_w, i32_w]
              rfl
            refine one_ (i := 14) (N := some 42) (lb 27 32767) rfl rfl (by kernel_rfl) (by decide) (fun K hK => ?_)
            refine value_ (w1 := ?_) (v := ?_) (by rfl) rfl ?_ ?_
            rotate_left 2
            · go_simp
              constructor
              · rfl
              · rfl
            refine hK.out _ _ ⟨(ZB.out.cell (World.block_lt_of_cell? w _ H0.out)).trans H0.out, (ZB.out.cell (World.block_lt_of_cell? w _ H1.out)).trans H1.out, (ZB.out.cell (World.block_lt_of_cell? w _ H2.out)).trans H2.out, (ZB.out.cell (World.block_lt_of_cell? w _ H3.out)).trans H3.out, (ZB.out.cell (World.block_lt_of_cell? w _ H4.out)).trans H4.out, (ZB.out.cell (World.block_lt_of_cell? w _ H5.out)).trans H5.out, (ZB.out.cell (World.block_lt_of_cell? w _ H6.out)).trans H6.out, (ZB.out.cell (World.block_lt_of_cell? w _ H7.out)).trans H7.out, (ZB.out.cell (World.block_lt_of_cell? w _ H8.out)).trans H8.out, (ZB.out.cell (World.block_lt_of_cell? w _ H9.out)).trans H9.out, (ZB.out.cell (World.block_lt_of_cell? w _ H10.out)).trans H10.out⟩ (fun hHeld => ?_)
            clear hK K
            refine norm_ (a' := ?_) ?_ ?_
            rotate_left
            · show Act.put _ (some 42) _ = _
              simp only [Act.put, List.setIfInBounds_toArray, List.set_cons_zero, List.set_cons_succ, i64_w, i32_w]
              rfl
            exact norm_ (by simp only [putAll, Act.put, List.setIfInBounds_toArray, List.set_cons_zero, List.set_cons_succ]) (hCont () _ ⟨hHeld, rfl⟩)
          · skip
            refine value_ (w1 := ?_) (v := ?_) (by rfl) rfl ?_ ?_
            rotate_left 2
            · go_simp
              constructor
              · rfl
              · rfl
            refine hK.out _ _ ⟨(ZB.out.cell (World.block_lt_of_cell? w _ H0.out)).trans H0.out, (ZB.out.cell (World.block_lt_of_cell? w _ H1.out)).trans H1.out, (ZB.out.cell (World.block_lt_of_cell? w _ H2.out)).trans H2.out, (ZB.out.cell (World.block_lt_of_cell? w _ H3.out)).trans H3.out, (ZB.out.cell (World.block_lt_of_cell? w _ H4.out)).trans H4.out, (ZB.out.cell (World.block_lt_of_cell? w _ H5.out)).trans H5.out, (ZB.out.cell (World.block_lt_of_cell? w _ H6.out)).trans H6.out, (ZB.out.cell (World.block_lt_of_cell? w _ H7.out)).trans H7.out, (ZB.out.cell (World.block_lt_of_cell? w _ H8.out)).trans H8.out, (ZB.out.cell (World.block_lt_of_cell? w _ H9.out)).trans H9.out, (ZB.out.cell (World.block_lt_of_cell? w _ H10.out)).trans H10.out⟩ (fun hHeld => ?_)
            clear hK K
            refine norm_ (a' := ?_) ?_ ?_
            rotate_left
            · show Act.put _ (some 42) _ = _
              simp only [Act.put, List.setIfInBounds_toArray, List.set_cons_zero, List.set_cons_succ, i64_w, i32_w]
              rfl
            refine one_ (i := 10) (N := some 38) (lb 27 32767) rfl rfl (by kernel_rfl) (by decide) (fun K hK => ?_)
            refine goes_ Try.func43 (by kernel_rfl) rfl #[.pointer (some ⟨gg, 0, none⟩)] (by rfl) rfl rfl (by simp only [List.map_toArray, List.map_cons, List.map_nil]; rfl) ?_
            with_reducible refine (gstale_T gg gp gc gm gl gs g3 G' w _ ZI.out).mono ?_
            rintro e w7 ⟨rfl, rfl⟩
            refine ⟨_, rfl, ?_⟩
            refine hK.out _ _ ⟨(ZB.out.cell (World.block_lt_of_cell? w _ H0.out)).trans H0.out, (ZB.out.cell (World.block_lt_of_cell? w _ H1.out)).trans H1.out, (ZB.out.cell (World.block_lt_of_cell? w _ H2.out)).trans H2.out, (ZB.out.cell (World.block_lt_of_cell? w _ H3.out)).trans H3.out, (ZB.out.cell (World.block_lt_of_cell? w _ H4.out)).trans H4.out, (ZB.out.cell (World.block_lt_of_cell? w _ H5.out)).trans H5.out, (ZB.out.cell (World.block_lt_of_cell? w _ H6.out)).trans H6.out, (ZB.out.cell (World.block_lt_of_cell? w _ H7.out)).trans H7.out, (ZB.out.cell (World.block_lt_of_cell? w _ H8.out)).trans H8.out, (ZB.out.cell (World.block_lt_of_cell? w _ H9.out)).trans H9.out, (ZB.out.cell (World.block_lt_of_cell? w _ H10.out)).trans H10.out⟩ (fun hHeld => ?_)
            clear hK K
            refine norm_ (a' := ?_) ?_ ?_
            rotate_left
            · show Act.put _ (some 38) _ = _
              simp only [Act.put, List.setIfInBounds_toArray, List.set_cons_zero, List.set_cons_succ, i64_w, i32_w]
              rfl
            exact norm_ (by simp only [putAll, Act.put, List.setIfInBounds_toArray, List.set_cons_zero, List.set_cons_succ]) (hCont () _ ⟨hHeld, rfl⟩)
        rintro _ wF ⟨hHeld, hw_⟩
        have hw_ := hw_.symm
        subst hw_
        refine norm_ (a' := ?_) ?_ ?_
        rotate_left
        · simp only [putAll, Act.put, List.setIfInBounds_toArray, List.set_cons_zero, List.set_cons_succ]
          rfl
        refine pS (v := ?_) (a' := ?_) 15 (some 43) (lb 27 65535) rfl rfl (by kernel_rfl) (fun _ _ _ h => h) (by rfl) ?_ ?_ ?_; rotate_left; (intro w'; go_simp; with_reducible rfl); rotate_left; (simp only [Act.put, List.setIfInBounds_toArray, List.set_cons_zero, List.set_cons_succ, i64_w, i32_w]; rfl)
        refine pS (v := ?_) (a' := ?_) 16 (some 44) (lb 27 131071) rfl rfl (by kernel_rfl) (fun _ _ _ h => h) (by rfl) ?_ ?_ ?_; rotate_left; (intro w'; go_simp; with_reducible rfl); rotate_left; (simp only [Act.put, List.setIfInBounds_toArray, List.set_cons_zero, List.set_cons_succ, i64_w, i32_w]; rfl)
        refine pS (v := ?_) (a' := ?_) 17 (some 45) (lb 27 262143) rfl rfl (by kernel_rfl) (fun _ _ _ h => h) (by rfl) ?_ ?_ ?_; rotate_left; (intro w'; go_simp; with_reducible rfl); rotate_left; (simp only [Act.put, List.setIfInBounds_toArray, List.set_cons_zero, List.set_cons_succ, i64_w, i32_w]; rfl)
        refine pS (v := ?_) (a' := ?_) 18 (some 46) (lb 27 524287) rfl rfl (by kernel_rfl) (fun _ _ _ h => h) (by rfl) ?_ ?_ ?_; rotate_left; (intro w'; go_simp; with_reducible rfl); rotate_left; (simp only [Act.put, List.setIfInBounds_toArray, List.set_cons_zero, List.set_cons_succ, i64_w, i32_w]; rfl)
        refine pS (v := ?_) (a' := ?_) 20 (some 48) (lb 27 1572863) rfl rfl (by kernel_rfl) (fun _ _ _ h => h) (by rfl) ?_ ?_ ?_; rotate_left; (intro w'; go_simp; with_reducible rfl); rotate_left; (simp only [Act.put, List.setIfInBounds_toArray, List.set_cons_zero, List.set_cons_succ, i64_w, i32_w]; rfl)
        refine pS (v := ?_) (a' := ?_) 21 (some 49) (lb 27 3670015) rfl rfl (by kernel_rfl) (fun _ _ _ h => h) (by rfl) ?_ ?_ ?_; rotate_left; (intro w'; go_simp; with_reducible rfl); rotate_left; (simp only [Act.put, List.setIfInBounds_toArray, List.set_cons_zero, List.set_cons_succ, i64_w, i32_w]; rfl)
        refine pS (v := ?_) (a' := ?_) 22 (some 50) (lb 27 7864319) rfl rfl (by kernel_rfl) (fun _ _ _ h => h) (by rfl) ?_ ?_ ?_; rotate_left; (intro w'; go_simp; with_reducible rfl); rotate_left; (simp only [Act.put, List.setIfInBounds_toArray, List.set_cons_zero, List.set_cons_succ, i64_w, i32_w]; rfl)
        refine pS (v := ?_) (a' := ?_) 23 (some 51) (lb 27 16252927) rfl rfl (by kernel_rfl) (fun _ _ _ h => h) (by rfl) ?_ ?_ ?_; rotate_left; (intro w'; go_simp; with_reducible rfl); rotate_left; (simp only [Act.put, List.setIfInBounds_toArray, List.set_cons_zero, List.set_cons_succ, i64_w, i32_w]; rfl)
        refine join_ (σ := Unit) 2 (lb 27 33554431) (fun s_ => [(47, .int .i64 G'.faults), (52, .int .i64 G'.faults)]) (fun s_ w' => (w'.cell? (ad.add (i.toNat * 11)) = some (.int .i64 kd) ∧ w'.cell? ⟨(ad.add (i.toNat * 11)).block, (ad.add (i.toNat * 11)).off + 1, none⟩ = some (.int .i64 pk) ∧ w'.cell? ⟨(ad.add (i.toNat * 11)).block, (ad.add (i.toNat * 11)).off + 2, none⟩ = some (.int .i64 ps) ∧ w'.cell? ⟨(ad.add (i.toNat * 11)).block, (ad.add (i.toNat * 11)).off + 3, none⟩ = some (.int .i64 pp) ∧ w'.cell? ⟨(ad.add (i.toNat * 11)).block, (ad.add (i.toNat * 11)).off + 4, none⟩ = some (.int .i64 id) ∧ w'.cell? ⟨(ad.add (i.toNat * 11)).block, (ad.add (i.toNat * 11)).off + 5, none⟩ = some (.int .u64 ox) ∧ w'.cell? ⟨(ad.add (i.toNat * 11)).block, (ad.add (i.toNat * 11)).off + 6, none⟩ = some (.int .i64 oy) ∧ w'.cell? ⟨(ad.add (i.toNat * 11)).block, (ad.add (i.toNat * 11)).off + 7, none⟩ = some (.bool ost) ∧ w'.cell? ⟨(ad.add (i.toNat * 11)).block, (ad.add (i.toNat * 11)).off + 8, none⟩ = some (.int .u64 vx) ∧ w'.cell? ⟨(ad.add (i.toNat * 11)).block, (ad.add (i.toNat * 11)).off + 9, none⟩ = some (.int .i64 vy) ∧ w'.cell? ⟨(ad.add (i.toNat * 11)).block, (ad.add (i.toNat * 11)).off + 10, none⟩ = some (.bool vst)) ∧ w' = w6) ?_ ?_
        rotate_left
        · intro hCont
          refine two_ (i := 19) (j := 24) (Ni := some 47) (Nj := some 52) (lb 27 16777215) (lb 27 33030143) rfl rfl rfl rfl (by kernel_rfl) (by decide) (by decide) (fun K hK => ?_) (fun K hK => ?_)
          · skip
            refine goes_ Try.func45 (by kernel_rfl) rfl #[.pointer (some ⟨gg, 0, none⟩)] (by rfl) rfl rfl (by simp only [List.map_toArray, List.map_cons, List.map_nil]; rfl) ?_
            with_reducible refine (gfaults_T gg gp gc gm gl gs g3 G' w _ ZI.out).mono ?_
            rintro e w8 ⟨rfl, rfl⟩
            refine ⟨_, rfl, ?_⟩
            refine hK.out _ _ ⟨(ZB.out.cell (World.block_lt_of_cell? w _ H0.out)).trans H0.out, (ZB.out.cell (World.block_lt_of_cell? w _ H1.out)).trans H1.out, (ZB.out.cell (World.block_lt_of_cell? w _ H2.out)).trans H2.out, (ZB.out.cell (World.block_lt_of_cell? w _ H3.out)).trans H3.out, (ZB.out.cell (World.block_lt_of_cell? w _ H4.out)).trans H4.out, (ZB.out.cell (World.block_lt_of_cell? w _ H5.out)).trans H5.out, (ZB.out.cell (World.block_lt_of_cell? w _ H6.out)).trans H6.out, (ZB.out.cell (World.block_lt_of_cell? w _ H7.out)).trans H7.out, (ZB.out.cell (World.block_lt_of_cell? w _ H8.out)).trans H8.out, (ZB.out.cell (World.block_lt_of_cell? w _ H9.out)).trans H9.out, (ZB.out.cell (World.block_lt_of_cell? w _ H10.out)).trans H10.out⟩ (fun hHeld => ?_)
            clear hK K
            refine norm_ (a' := ?_) ?_ ?_
            rotate_left
            · show Act.put _ (some 47) _ = _
              simp only [Act.put, List.setIfInBounds_toArray, List.set_cons_zero, List.set_cons_succ, i64_w, i32_w]
              rfl
            refine one_ (i := 24) (N := some 52) (lb 27 33554431) rfl rfl (by kernel_rfl) (by decide) (fun K hK => ?_)
            refine value_ (w1 := ?_) (v := ?_) (by rfl) rfl ?_ ?_
            rotate_left 2
            · go_simp
              constructor
              · rfl
              · rfl
            refine hK.out _ _ ⟨(ZB.out.cell (World.block_lt_of_cell? w _ H0.out)).trans H0.out, (ZB.out.cell (World.block_lt_of_cell? w _ H1.out)).trans H1.out, (ZB.out.cell (World.block_lt_of_cell? w _ H2.out)).trans H2.out, (ZB.out.cell (World.block_lt_of_cell? w _ H3.out)).trans H3.out, (ZB.out.cell (World.block_lt_of_cell? w _ H4.out)).trans H4.out, (ZB.out.cell (World.block_lt_of_cell? w _ H5.out)).trans H5.out, (ZB.out.cell (World.block_lt_of_cell? w _ H6.out)).trans H6.out, (ZB.out.cell (World.block_lt_of_cell? w _ H7.out)).trans H7.out, (ZB.out.cell (World.block_lt_of_cell? w _ H8.out)).trans H8.out, (ZB.out.cell (World.block_lt_of_cell? w _ H9.out)).trans H9.out, (ZB.out.cell (World.block_lt_of_cell? w _ H10.out)).trans H10.out⟩ (fun hHeld => ?_)
            clear hK K
            refine norm_ (a' := ?_) ?_ ?_
            rotate_left
            · show Act.put _ (some 52) _ = _
              simp only [Act.put, List.setIfInBounds_toArray, List.set_cons_zero, List.set_cons_succ, i64_w, i32_w]
              rfl
            exact norm_ (by simp only [putAll, Act.put, List.setIfInBounds_toArray, List.set_cons_zero, List.set_cons_succ]) (hCont () _ ⟨hHeld, rfl⟩)
          · skip
            refine value_ (w1 := ?_) (v := ?_) (by rfl) rfl ?_ ?_
            rotate_left 2
            · go_simp
              constructor
              · rfl
              · rfl
            refine hK.out _ _ ⟨(ZB.out.cell (World.block_lt_of_cell? w _ H0.out)).trans H0.out, (ZB.out.cell (World.block_lt_of_cell? w _ H1.out)).trans H1.out, (ZB.out.cell (World.block_lt_of_cell? w _ H2.out)).trans H2.out, (ZB.out.cell (World.block_lt_of_cell? w _ H3.out)).trans H3.out, (ZB.out.cell (World.block_lt_of_cell? w _ H4.out)).trans H4.out, (ZB.out.cell (World.block_lt_of_cell? w _ H5.out)).trans H5.out, (ZB.out.cell (World.block_lt_of_cell? w _ H6.out)).trans H6.out, (ZB.out.cell (World.block_lt_of_cell? w _ H7.out)).trans H7.out, (ZB.out.cell (World.block_lt_of_cell? w _ H8.out)).trans H8.out, (ZB.out.cell (World.block_lt_of_cell? w _ H9.out)).trans H9.out, (ZB.out.cell (World.block_lt_of_cell? w _ H10.out)).trans H10.out⟩ (fun hHeld => ?_)
            clear hK K
            refine norm_ (a' := ?_) ?_ ?_
            rotate_left
            · show Act.put _ (some 52) _ = _
              simp only [Act.put, List.setIfInBounds_toArray, List.set_cons_zero, List.set_cons_succ, i64_w, i32_w]
              rfl
            refine one_ (i := 19) (N := some 47) (lb 27 33554431) rfl rfl (by kernel_rfl) (by decide) (fun K hK => ?_)
            refine goes_ Try.func45 (by kernel_rfl) rfl #[.pointer (some ⟨gg, 0, none⟩)] (by rfl) rfl rfl (by simp only [List.map_toArray, List.map_cons, List.map_nil]; rfl) ?_
            with_reducible refine (gfaults_T gg gp gc gm gl gs g3 G' w _ ZI.out).mono ?_
            rintro e w8 ⟨rfl, rfl⟩
            refine ⟨_, rfl, ?_⟩
            refine hK.out _ _ ⟨(ZB.out.cell (World.block_lt_of_cell? w _ H0.out)).trans H0.out, (ZB.out.cell (World.block_lt_of_cell? w _ H1.out)).trans H1.out, (ZB.out.cell (World.block_lt_of_cell? w _ H2.out)).trans H2.out, (ZB.out.cell (World.block_lt_of_cell? w _ H3.out)).trans H3.out, (ZB.out.cell (World.block_lt_of_cell? w _ H4.out)).trans H4.out, (ZB.out.cell (World.block_lt_of_cell? w _ H5.out)).trans H5.out, (ZB.out.cell (World.block_lt_of_cell? w _ H6.out)).trans H6.out, (ZB.out.cell (World.block_lt_of_cell? w _ H7.out)).trans H7.out, (ZB.out.cell (World.block_lt_of_cell? w _ H8.out)).trans H8.out, (ZB.out.cell (World.block_lt_of_cell? w _ H9.out)).trans H9.out, (ZB.out.cell (World.block_lt_of_cell? w _ H10.out)).trans H10.out⟩ (fun hHeld => ?_)
            clear hK K
            refine norm_ (a' := ?_) ?_ ?_
            rotate_left
            · show Act.put _ (some 47) _ = _
              simp only [Act.put, List.setIfInBounds_toArray, List.set_cons_zero, List.set_cons_succ, i64_w, i32_w]
              rfl
            exact norm_ (by simp only [putAll, Act.put, List.setIfInBounds_toArray, List.set_cons_zero, List.set_cons_succ]) (hCont () _ ⟨hHeld, rfl⟩)
        rintro _ wF ⟨hHeld, hw_⟩
        have hw_ := hw_.symm
        subst hw_
        refine norm_ (a' := ?_) ?_ ?_
        rotate_left
        · simp only [putAll, Act.put, List.setIfInBounds_toArray, List.set_cons_zero, List.set_cons_succ]
          rfl
        refine pS (v := ?_) (a' := ?_) 25 (some 53) (lb 27 67108863) rfl rfl (by kernel_rfl) (fun _ _ _ h => h) (by rfl) ?_ ?_ ?_; rotate_left; (intro w'; go_simp; with_reducible rfl); rotate_left; (simp only [Act.put, List.setIfInBounds_toArray, List.set_cons_zero, List.set_cons_succ, i64_w, i32_w]; rfl)
        refine pS (v := ?_) (a' := ?_) 26 (some 54) (lb 27 134217727) rfl rfl (by kernel_rfl) (fun _ _ _ h => h) (by rfl) ?_ ?_ ?_; rotate_left; (intro w'; go_simp; with_reducible rfl); rotate_left; (simp only [Act.put, List.setIfInBounds_toArray, List.set_cons_zero, List.set_cons_succ, i64_w, i32_w]; rfl)
        refine done_ (by kernel_rfl) ?_
        clear hx0 hx1 hx2 hx3 hx4 hx5 hx6 hx7 hx8 hx9 hx10
        go_wp2_with fail
        go_roundg ko
        case rel => exact ⟨i + 1, G', U', by first | rfl | rw [wi], ⟨by have := HK.out; have := RI.out; omega⟩, ZI, ZQ, ZR, ZB, ZL, ZS⟩
        case measure => exact Nat.lt_succ_self _
    · have tt : decide (i < (xs.length : Int)) = false ∨ (decide (i < (xs.length : Int)) = true ∧ decide (i < 150) = false) := by
        by_cases h : i < (xs.length : Int)
        · exact .inr ⟨decide_eq_true h, decide_eq_false (fun h2 => hi ⟨h, h2⟩)⟩
        · exact .inl (decide_eq_false h)
      clear hi
      have Md := Aside0.mk JM.out.drew
      have Bd := Aside0.mk (below_drew JB.out)
      obtain ⟨vW, vL, vR, hbu, _, _, hRr, _⟩ := JQ.out.drew.h
      obtain ⟨Ar, cr, er, _, _⟩ := Kd.R_reads hRr
      subst er
      obtain ⟨vS, hvS⟩ := Md.out.soul
      have HVS := Aside0.mk hvS
      have HBU := Aside0.mk hbu
      have RL := Aside0.mk (show (G.row.length : Int) = U.R.length by rw [JR.out.row])
      clear hbu hRr hvS
      rcases tt with t1 | ⟨t1, t2⟩
      all_goals
        go_wp2_with fail
        refine start_ (n := 12) (S := fun w' => w'.cell? ⟨gu, 2, none⟩ = some (.slice Ar U.R.length cr)) (ds := []) (lb 12 0) (by kernel_rfl) rfl rfl ((blk_cell HBU.out 2).trans rfl) (fun hHeld => ?_)
        refine pS (v := ?_) (a' := ?_) 0 (some 55) (lb 12 1) rfl rfl (by kernel_rfl) (fun _ _ _ h => h) (by rfl) ?_ ?_ ?_; rotate_left; (intro w'; go_simp; with_reducible rfl); rotate_left; (simp only [Act.put, List.setIfInBounds_toArray, List.set_cons_zero, List.set_cons_succ, i64_w, i32_w]; rfl)
        refine pS (v := ?_) (a' := ?_) 3 (some 58) (lb 12 9) rfl rfl (by kernel_rfl) (fun _ _ _ h => h) (by rfl) ?_ ?_ ?_; rotate_left; (intro w'; go_simp; with_reducible rfl); rotate_left; (simp only [Act.put, List.setIfInBounds_toArray, List.set_cons_zero, List.set_cons_succ, i64_w, i32_w]; rfl)
        refine pS (v := ?_) (a' := ?_) 4 (some 59) (lb 12 25) rfl rfl (by kernel_rfl) (fun _ _ _ h => h) (by rfl) ?_ ?_ ?_; rotate_left; (intro w'; go_simp; with_reducible rfl); rotate_left; (simp only [Act.put, List.setIfInBounds_toArray, List.set_cons_zero, List.set_cons_succ, i64_w, i32_w]; rfl)
        refine pS (v := ?_) (a' := ?_) 5 (some 60) (lb 12 57) rfl rfl (by kernel_rfl) (fun _ _ _ h => h) (by rfl) ?_ ?_ ?_; rotate_left; (intro w'; go_simp; with_reducible rfl); rotate_left; (simp only [Act.put, List.setIfInBounds_toArray, List.set_cons_zero, List.set_cons_succ, i64_w, i32_w]; rfl)
        refine pS (v := ?_) (a' := ?_) 6 (some 61) (lb 12 121) rfl rfl (by kernel_rfl) (fun _ _ _ h => h) (by rfl) ?_ ?_ ?_; rotate_left; (intro w'; go_simp; with_reducible rfl); rotate_left; (simp only [Act.put, List.setIfInBounds_toArray, List.set_cons_zero, List.set_cons_succ, i64_w, i32_w]; rfl)
        refine pS (v := ?_) (a' := ?_) 7 (some 62) (lb 12 249) rfl rfl (by kernel_rfl) (fun _ _ _ h => h) (by rfl) ?_ ?_ ?_; rotate_left; (intro w'; go_simp; with_reducible rfl); rotate_left; (simp only [Act.put, List.setIfInBounds_toArray, List.set_cons_zero, List.set_cons_succ, i64_w, i32_w]; rfl)
        refine tS (v := ?_) (a' := ?_) 8 (some 63) (lb 12 505) rfl rfl (by kernel_rfl) (fun _ _ _ h => h) hHeld (by rfl) ?_ ?_ ?_; rotate_left; (rintro w' s0; go_simp; with_reducible rfl); rotate_left; (simp only [Act.put, List.setIfInBounds_toArray, List.set_cons_zero, List.set_cons_succ, i64_w, i32_w]; rfl)
        refine pS (v := ?_) (a' := ?_) 9 (some 64) (lb 12 1017) rfl rfl (by kernel_rfl) (fun _ _ _ h => h) (by rfl) ?_ ?_ ?_; rotate_left; (intro w'; go_simp; with_reducible rfl); rotate_left; (simp only [Act.put, List.setIfInBounds_toArray, List.set_cons_zero, List.set_cons_succ, i64_w, i32_w]; rfl)
        refine one_ (i := 1) (N := some 56) (lb 12 1019) rfl rfl (by kernel_rfl) (by decide) (fun K hK => ?_)
        refine goes_ Try.func40 (by kernel_rfl) rfl #[.pointer (some ⟨gg, 0, none⟩)] (by rfl) rfl rfl (by simp only [List.map_toArray, List.map_cons, List.map_nil]; rfl) ?_
        with_reducible refine (gsouls_T gg gp gc gm gl gs g3 G w _ Md.out).mono ?_
        rintro e w10 ⟨rfl, rfl⟩
        refine ⟨_, rfl, ?_⟩
        refine hK.out _ _ ((blk_cell HBU.out 2).trans rfl) (fun hHeld => ?_)
        clear hK K
        refine norm_ (a' := ?_) ?_ ?_
        rotate_left
        · show Act.put _ (some 56) _ = _
          simp only [Act.put, List.setIfInBounds_toArray, List.set_cons_zero, List.set_cons_succ, i64_w, i32_w]
          rfl
        refine one_ (i := 2) (N := some 57) (lb 12 1023) rfl rfl (by kernel_rfl) (by decide) (fun K hK => ?_)
        refine goes_ Try.func29 (by kernel_rfl) rfl #[.pointer (some ⟨gs, 0, none⟩)] (by rfl) rfl rfl (by simp only [List.map_toArray, List.map_cons, List.map_nil]; rfl) ?_
        with_reducible refine (soulCount_T gs g3 vS G.now G.row w _ HVS.out).mono ?_
        rintro e w11 ⟨rfl, hb⟩
        refine ⟨_, rfl, ?_⟩
        rw [RL.out]
        have B11 := Aside0.mk (below_step Bd.out hb)
        have U11 := Aside0.mk (blk_below HBU.out hb)
        clear hb
        refine hK.out _ _ ((blk_cell U11.out 2).trans rfl) (fun hHeld => ?_)
        clear hK K
        refine norm_ (a' := ?_) ?_ ?_
        rotate_left
        · show Act.put _ (some 57) _ = _
          simp only [Act.put, List.setIfInBounds_toArray, List.set_cons_zero, List.set_cons_succ, i64_w, i32_w]
          rfl
        refine pS (v := ?_) (a' := ?_) 10 (some 65) (lb 12 2047) rfl rfl (by kernel_rfl) (fun _ _ _ h => h) (by rfl) ?_ ?_ ?_; rotate_left; (intro w'; go_simp; with_reducible rfl); rotate_left; (simp only [Act.put, List.setIfInBounds_toArray, List.set_cons_zero, List.set_cons_succ, i64_w, i32_w]; rfl)
        refine pS (v := ?_) (a' := ?_) 11 (some 2) (lb 12 4095) rfl rfl (by kernel_rfl) (fun _ _ _ h => h) (by rfl) ?_ ?_ ?_; rotate_left; (intro w'; go_simp; with_reducible rfl); rotate_left; (simp only [Act.put, List.setIfInBounds_toArray, List.set_cons_zero, List.set_cons_succ, i64_w, i32_w]; rfl)
        refine done_ (by kernel_rfl) ?_
        go_wp2_with fail
        go_ret
        exact ⟨rfl, B11.out⟩
def revenantlaw08_GhostExact.f (xs : List S70) : Option Bool := if ∀ x ∈ xs, x.f3.f1 < 9223372036854775808 then some true else none
theorem revenantlaw08_GhostExact.calls (A0_ : Option Addr) (c0 : Nat) (xs : List S70) (r : Bool) (w : World) (hr0 : Kd.C k70 w A0_ xs.length xs) (hc0 : xs.length ≤ c0) (h : revenantlaw08_GhostExact.f xs = some r) :
    Calls Try.prog 8 #[.slice A0_ xs.length c0] w fun e w' => e = .returned (.bool r) ∧ Below w.heap.size w w' := by
  unfold revenantlaw08_GhostExact.f at h
  by_cases hw : ∀ x ∈ xs, x.f3.f1 < 9223372036854775808
  · rw [if_pos hw] at h
    obtain rfl := Option.some.inj h
    exact exact08T A0_ c0 xs w hr0 hc0 hw
  · rw [if_neg hw] at h
    cases h
theorem RGhostExact (xs : List S70) {P Q : Prop} {B1 B2 B3 B4 B5 : S70 → Prop} (g : P ∧ Q ∧ ∀ x ∈ xs, B1 x ∧ B2 x ∧ B3 x ∧ B4 x ∧ (Lit.int .i64 x.f3.f1).wf = true ∧ B5 x) : revenantlaw08_GhostExact.f xs = some true := if_pos (fun x hx => by have := wf_i64.1 (g.2.2 x hx).2.2.2.2.1; omega)
end Go.Proofs.Ytlpnggapndokeaa.PIdealKeeps

