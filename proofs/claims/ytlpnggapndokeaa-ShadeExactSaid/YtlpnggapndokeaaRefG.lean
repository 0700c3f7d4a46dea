/-
The references of layers 7 and 8, and the watched memory beside them.
-/
import Derived.Test.YtlpnggapndokeaaRefA
import Derived.Test.YtlpnggapndokeaaGhostB
import Derived.Test.YtlpnggapndokeaaWords
import Derived.Test.YtlpnggapndokeaaShort
namespace Go.Proofs.Ytlpnggapndokeaa.PIdealKeeps
open Go Go.RowKit Go.Proofs.YtlpnggapndokeaaW.PrintWords Go.Proofs.YtlpnggapndokeaaW.PrintLast Go.Proofs.YtlpnggapndokeaaW.PrintMore Go.Proofs.Ytlpnggapndokeaa.M
attribute [local go_sem] max2_int min2_int max_two min_two max_three min_three max_four min_four
set_option linter.unusedVariables false
set_option linter.unusedSimpArgs false
theorem refS_after {w wa wb : World} {gu : Nat} {tu : TypeId} (hb : Below w.heap.size w wa) (k : Fr (RefS wa gu tu) wa wb) : Fr (RefS w gu tu) w wb :=
  ⟨Nat.le_trans hb.size k.1, fun j o hj hn => k.2 j o (blk_below hj hb) (fun x => hn ⟨hj, x.2⟩)⟩
theorem refS_trans {w wa wb : World} {gu : Nat} {tu : TypeId} (h : Fr (RefS w gu tu) w wa) (k : Fr (RefS wa gu tu) wa wb) : Fr (RefS w gu tu) w wb :=
  ⟨Nat.le_trans h.1 k.1, fun j o hj hn => k.2 j o (h.2 j o hj hn) (fun x => hn ⟨hj, x.2⟩)⟩
section
variable {w0 w w1 : World} {gg gp gc gm gl gs g3 : Nat} {G : GSt}
theorem gnoT (hG : GhostIs w0 w gg gp gc gm gl gs g3 G) {p : Nat} {cs : Array Value} {t : TypeId} (hb : w.heap[p]? = some (.cells cs t (0, 0))) (n1 : t ≠ 121) (n2 : t ≠ 131) (o : Obj) : ¬ GhostT gg gc gm gl p o := by
  rintro (e | e | (e | e) | e)
  · subst e; exact blk_ne hb hG.blk n1 rfl
  · exact mapIs_ne hG.leads hb e
  · subst e; exact blk_ne hb hG.plain.cells.blk n2 rfl
  · exact mapIs_ne hG.plain.cells.map hb e
  · exact e
theorem gnoB (hG : GhostIs w0 w gg gp gc gm gl gs g3 G) {p : Nat} {cs : Array Value} {t : TypeId} (hb : w.heap[p]? = some (.cells cs t (0, 0))) (n1 : t ≠ 114) (n2 : t ≠ 3) (o : Obj) : ¬ RowS gs g3 (rowAt w gs) p o := by
  obtain ⟨v, hv⟩ := hG.soul
  rintro (e | e | e)
  · subst e; exact blk_ne hb hv.blk n1 rfl
  · exact mapIs_ne hv.map hb e
  · obtain ⟨cells, hc⟩ := hG.rowTy e.symm hb
    injection hc with _ hc
    exact n2 hc
theorem GhostIs.stayT (h : GhostIs w0 w gg gp gc gm gl gs g3 G) (hf : Fr (GhostT gg gc gm gl) w w1) {p : Nat} {cs : Array Value} {t : TypeId} (hb : w.heap[p]? = some (.cells cs t (0, 0))) (n1 : t ≠ 121) (n2 : t ≠ 131) : w1.heap[p]? = some (.cells cs t (0, 0)) := hf.blk hb (gnoT h hb n1 n2 _)
theorem GhostIs.stayB (h : GhostIs w0 w gg gp gc gm gl gs g3 G) (hf : Fr (RowS gs g3 (rowAt w gs)) w w1) {p : Nat} {cs : Array Value} {t : TypeId} (hb : w.heap[p]? = some (.cells cs t (0, 0))) (n1 : t ≠ 114) (n2 : t ≠ 3) : w1.heap[p]? = some (.cells cs t (0, 0)) := hf.blk hb (gnoB h hb n1 n2 _)
end
end Go.Proofs.Ytlpnggapndokeaa.PIdealKeeps

namespace Go.Proofs.Ytlpnggapndokeaa.PIdealKeeps
open Go Go.RowKit Go.Proofs.YtlpnggapndokeaaW.PrintWords Go.Proofs.YtlpnggapndokeaaW.PrintLast Go.Proofs.YtlpnggapndokeaaW.PrintMore Go.Proofs.Ytlpnggapndokeaa.M Go.Proofs.Ytlpnggapndokeaa.U
attribute [local go_sem] max2_int min2_int max_two min_two max_three min_three max_four min_four
set_option linter.unusedVariables false
set_option linter.unusedSimpArgs false
def rst (U : RSt) (pk ps id : Int) : Bool := (pk == 5) && (nowR U.R ps != id)
def stU (U : RSt) (k : K3) (x y : Int) : RSt := { U with W := oset U.W k x, L := oset U.L k (IntKind.u64.wrap y) }
def stF (U : RSt) (k : K3) (id : Int) (st : Bool) (fl : Int) : Int := if st || rst U k.1 k.2.1 id then wrap64 (fl + 1) else fl
section
variable {w0 w w1 : World} {gu : Nat} {tu : TypeId} {ex : List Value} {orow : Option Nat} {U : RSt} {a b : Value}
theorem RefAt.blk (h : RefAt w0 w gu tu ex orow U) : ∃ vW vL vR, w.heap[gu]? = some (.cells (vW :: vL :: vR :: ex).toArray tu (0, 0)) := by
  obtain ⟨⟨vW, vL, vR, hb, _⟩, _⟩ := h
  exact ⟨vW, vL, vR, hb⟩
theorem refS_set (h : RefAt w0 w gu tu ex orow U) (i : Nat) (u : Value) : Fr (RefS w gu tu) w (w.setCell ⟨gu, i, none⟩ u) := by
  obtain ⟨vW, vL, vR, hb⟩ := h.blk
  refine (Fr.set1 hb i u).mono ?_
  rintro j o ⟨rfl, rfl⟩
  exact ⟨hb, .inl ⟨rfl, _, rfl⟩⟩
theorem RefAt.sets {ex' : List Value} (h : RefAt w0 w gu tu ex orow U) (htu : tu ≠ 143 ∧ tu ≠ 3) (i : Nat) (u : Value) (he : ∀ vW vL vR, ((vW :: vL :: vR :: ex).toArray : Array Value).setIfInBounds i u = (vW :: vL :: vR :: ex').toArray) : RefAt w0 (w.setCell ⟨gu, i, none⟩ u) gu tu ex' orow U := by
  obtain ⟨⟨vW, vL, vR, hb, hW, hL, hR, ap, ao⟩, hg, hob⟩ := h
  refine ⟨⟨vW, vL, vR, blk_put hb i u (he _ _ _), Kd.R_set hW hb (fun q hq => ?_) i u, Kd.R_set hL hb (fun q hq => ?_) i u, Kd.R_set hR hb (fun q hq => ?_) i u, ap, ao⟩, hg, fun k hk => by simpa [World.setCell] using hob k hk⟩
  · have : q = 143 := by simpa [k143, Kd.iso, Kd.pair, Kd.int, Kd.scalar] using hq
    rw [this]; exact htu.1.symm
  · have : q = 143 := by simpa [k143, Kd.iso, Kd.pair, Kd.int, Kd.scalar] using hq
    rw [this]; exact htu.1.symm
  · have : q = 3 := by simpa [Kd.int, Kd.scalar] using hq
    rw [this]; exact htu.2.symm
theorem RefAt.set3 (h : RefAt w0 w gu tu (a :: ex) orow U) (htu : tu ≠ 143 ∧ tu ≠ 3) (u : Value) : RefAt w0 (w.setCell ⟨gu, 3, none⟩ u) gu tu (u :: ex) orow U := h.sets htu 3 u (fun _ _ _ => by simp)
theorem RefAt.set4 (h : RefAt w0 w gu tu (a :: b :: ex) orow U) (htu : tu ≠ 143 ∧ tu ≠ 3) (u : Value) : RefAt w0 (w.setCell ⟨gu, 4, none⟩ u) gu tu (a :: u :: ex) orow U := h.sets htu 4 u (fun _ _ _ => by simp)
end
set_option maxHeartbeats 8000000 in
set_option maxRecDepth 100000 in
theorem rstale_T {w0 w : World} {gu : Nat} {tu : TypeId} {ex : List Value} {orow : Option Nat} {U : RSt} (pk ps pp id : Int) (h : RefAt w0 w gu tu ex orow U) (hl : U.R.length ≤ 100000) :
    Calls Try.prog 111 #[.pointer (some ⟨gu, 0, none⟩), .agg #[.int .i64 pk, .int .i64 ps, .int .i64 pp], .int .i64 id] w fun e w' => e = .returned (.bool (rst U pk ps id)) ∧ Below w.heap.size w w' := by
  have hu23 := Try.underlying23
  have hu74 := Try.underlying74
  have hu76 := Try.underlying76
  have hu60 := Try.underlying60
  have HL := Aside0.mk hl
  have X0 := Aside0.mk (blk_drew (blk_new w (.cells #[.int .i64 pk, .int .i64 ps, .int .i64 pp] 23)))
  have XI := Aside0.mk (h.alloc (.cells #[.int .i64 pk, .int .i64 ps, .int .i64 pp] 23)).drew
  have XW := Aside0.mk (below_drew (below_alloc (Below.refl w.heap.size w) (.cells #[.int .i64 pk, .int .i64 ps, .int .i64 pp] 23)))
  have GL := Aside0.mk (show gu ≠ w.heap.size by have := h.lt; omega)
  by_cases h5 : pk = 5
  · subst h5
    obtain ⟨nw, hnw⟩ : ∃ z, nowR U.R ps = z := ⟨_, rfl⟩
    have NW := Aside0.mk hnw
    have E := Aside0.mk (show rst U 5 ps id = (nw != id) by unfold rst; rw [hnw]; simp)
    clear h hl hnw
    go_enter Try.func111, Try.ntmps111
    go_wp2_with fail
    refine start_ (n := 14) (S := fun w' => w'.cell? ⟨w.heap.size, 0, none⟩ = some (.int .i64 5) ∧ w'.cell? ⟨w.heap.size, 1, none⟩ = some (.int .i64 ps) ∧ w'.cell? ⟨w.heap.size, 2, none⟩ = some (.int .i64 pp)) (ds := [9]) (lb 14 0) (by kernel_rfl) rfl rfl ⟨(blk_cell X0.out 0).trans rfl, (blk_cell X0.out 1).trans rfl, (blk_cell X0.out 2).trans rfl⟩ (fun hHeld => ?_)
    refine pS (v := ?_) (a' := ?_) 0 (some 7) (lb 14 1) rfl rfl (by kernel_rfl) (fun _ _ _ h => h) (by rfl) ?_ ?_ ?_; rotate_left; (intro w'; go_simp; with_reducible rfl); rotate_left; (simp only [Act.put, List.setIfInBounds_toArray, List.set_cons_zero, List.set_cons_succ, i64_w, i32_w]; rfl)
    refine tS (v := ?_) (a' := ?_) 1 (some 8) (lb 14 3) rfl rfl (by kernel_rfl) (fun _ _ _ h => h) hHeld (by rfl) ?_ ?_ ?_; rotate_left; (rintro w' ⟨s0, s1, s2⟩; go_simp; with_reducible rfl); rotate_left; (simp only [Act.put, List.setIfInBounds_toArray, List.set_cons_zero, List.set_cons_succ, i64_w, i32_w]; rfl)
    refine pS (v := ?_) (a' := ?_) 2 (some 9) (lb 14 7) rfl rfl (by kernel_rfl) (fun _ _ _ h => h) (by rfl) ?_ ?_ ?_; rotate_left; (intro w'; go_simp; with_reducible rfl); rotate_left; (simp only [Act.put, List.setIfInBounds_toArray, List.set_cons_zero, List.set_cons_succ, i64_w, i32_w]; rfl)
    refine pS (v := ?_) (a' := ?_) 3 (some 10) (lb 14 15) rfl rfl (by kernel_rfl) (fun _ _ _ h => h) (by rfl) ?_ ?_ ?_; rotate_left; (intro w'; go_simp; with_reducible rfl); rotate_left; (simp only [Act.put, List.setIfInBounds_toArray, List.set_cons_zero, List.set_cons_succ, i64_w, i32_w]; rfl)
    refine pS (v := ?_) (a' := ?_) 4 (some 11) (lb 14 31) rfl rfl (by kernel_rfl) (fun _ _ _ h => h) (by rfl) ?_ ?_ ?_; rotate_left; (intro w'; go_simp; with_reducible rfl); rotate_left; (simp only [Act.put, List.setIfInBounds_toArray, List.set_cons_zero, List.set_cons_succ, i64_w, i32_w]; rfl)
    refine pS (v := ?_) (a' := ?_) 5 (some 12) (lb 14 63) rfl rfl (by kernel_rfl) (fun _ _ _ h => h) (by rfl) ?_ ?_ ?_; rotate_left; (intro w'; go_simp; with_reducible rfl); rotate_left; (simp only [Act.put, List.setIfInBounds_toArray, List.set_cons_zero, List.set_cons_succ, i64_w, i32_w]; rfl)
    refine pS (v := ?_) (a' := ?_) 6 (some 13) (lb 14 127) rfl rfl (by kernel_rfl) (fun _ _ _ h => h) (by rfl) ?_ ?_ ?_; rotate_left; (intro w'; go_simp; with_reducible rfl); rotate_left; (simp only [Act.put, List.setIfInBounds_toArray, List.set_cons_zero, List.set_cons_succ, i64_w, i32_w]; rfl)
    refine pS (v := ?_) (a' := ?_) 7 (some 14) (lb 14 255) rfl rfl (by kernel_rfl) (fun _ _ _ h => h) (by rfl) ?_ ?_ ?_; rotate_left; (intro w'; go_simp; with_reducible rfl); rotate_left; (simp only [Act.put, List.setIfInBounds_toArray, List.set_cons_zero, List.set_cons_succ, i64_w, i32_w]; rfl)
    refine pS (v := ?_) (a' := ?_) 10 (some 17) (lb 14 1279) rfl rfl (by kernel_rfl) (fun _ _ _ h => h) (by rfl) ?_ ?_ ?_; rotate_left; (intro w'; go_simp; with_reducible rfl); rotate_left; (simp only [Act.put, List.setIfInBounds_toArray, List.set_cons_zero, List.set_cons_succ, i64_w, i32_w]; rfl)
    refine tS (v := ?_) (a' := ?_) 8 (some 15) (lb 14 1535) rfl rfl (by kernel_rfl) (fun _ _ _ h => h) hHeld (by rfl) ?_ ?_ ?_; rotate_left; (rintro w' ⟨s0, s1, s2⟩; go_simp; with_reducible rfl); rotate_left; (simp only [Act.put, List.setIfInBounds_toArray, List.set_cons_zero, List.set_cons_succ, i64_w, i32_w]; rfl)
    refine last_ (i := 9) (N := some 16) (lb 14 2047) rfl rfl (by kernel_rfl) (by decide) (fun K hK => ?_)
    refine goes_ Try.func71 (by kernel_rfl) rfl #[.pointer (some ⟨gu, 2, none⟩), .int .i64 ps] (by rfl) rfl rfl (by simp only [List.map_toArray, List.map_cons, List.map_nil]; rfl) ?_
    with_reducible refine (rnowU_T ps XI.out HL.out).mono ?_
    rintro e w2 ⟨rfl, hb⟩
    refine ⟨_, rfl, ?_⟩
    rw [NW.out]
    have YW := Aside0.mk (below_step XW.out hb)
    clear hb
    refine hK.out _ _ ?_
    clear hK K
    refine norm_ (a' := ?_) ?_ ?_
    rotate_left
    · show Act.put _ (some 16) _ = _
      simp only [Act.put, List.setIfInBounds_toArray, List.set_cons_zero, List.set_cons_succ, i64_w, i32_w]
      rfl
    refine pS (v := ?_) (a' := ?_) 11 (some 18) (lb 14 4095) rfl rfl (by kernel_rfl) (fun _ _ _ h => h) (by rfl) ?_ ?_ ?_; rotate_left; (intro w'; go_simp; with_reducible rfl); rotate_left; (simp only [Act.put, List.setIfInBounds_toArray, List.set_cons_zero, List.set_cons_succ, i64_w, i32_w]; rfl)
    refine pS (v := ?_) (a' := ?_) 12 (some 19) (lb 14 8191) rfl rfl (by kernel_rfl) (fun _ _ _ h => h) (by rfl) ?_ ?_ ?_; rotate_left; (intro w'; go_simp; with_reducible rfl); rotate_left; (simp only [Act.put, List.setIfInBounds_toArray, List.set_cons_zero, List.set_cons_succ, i64_w, i32_w]; rfl)
    refine pS (v := ?_) (a' := ?_) 13 (some 6) (lb 14 16383) rfl rfl (by kernel_rfl) (fun _ _ _ h => h) (by rfl) ?_ ?_ ?_; rotate_left; (intro w'; go_simp; with_reducible rfl); rotate_left; (simp only [Act.put, List.setIfInBounds_toArray, List.set_cons_zero, List.set_cons_succ, i64_w, i32_w]; rfl)
    refine done_ (by kernel_rfl) ?_
    go_wp2_with fail
    go_ret
    rw [E.out]
    exact ⟨rfl, YW.out⟩
  · have t5 : (pk == 5) = false := beq_eq_false_iff_ne.2 h5
    have E := Aside0.mk (show rst U pk ps id = false by unfold rst; rw [t5]; rfl)
    clear h hl h5
    go_enter Try.func111, Try.ntmps111
    go_wp2_with fail
    refine start_ (n := 14) (S := fun w' => w'.cell? ⟨w.heap.size, 0, none⟩ = some (.int .i64 pk) ∧ w'.cell? ⟨w.heap.size, 1, none⟩ = some (.int .i64 ps) ∧ w'.cell? ⟨w.heap.size, 2, none⟩ = some (.int .i64 pp)) (ds := []) (lb 14 0) (by kernel_rfl) rfl rfl ⟨(blk_cell X0.out 0).trans rfl, (blk_cell X0.out 1).trans rfl, (blk_cell X0.out 2).trans rfl⟩ (fun hHeld => ?_)
    refine pS (v := ?_) (a' := ?_) 0 (some 7) (lb 14 1) rfl rfl (by kernel_rfl) (fun _ _ _ h => h) (by rfl) ?_ ?_ ?_; rotate_left; (intro w'; go_simp; with_reducible rfl); rotate_left; (simp only [Act.put, List.setIfInBounds_toArray, List.set_cons_zero, List.set_cons_succ, i64_w, i32_w]; rfl)
    refine tS (v := ?_) (a' := ?_) 1 (some 8) (lb 14 3) rfl rfl (by kernel_rfl) (fun _ _ _ h => h) hHeld (by rfl) ?_ ?_ ?_; rotate_left; (rintro w' ⟨s0, s1, s2⟩; go_simp; with_reducible rfl); rotate_left; (simp only [Act.put, List.setIfInBounds_toArray, List.set_cons_zero, List.set_cons_succ, i64_w, i32_w]; rfl)
    refine pS (v := ?_) (a' := ?_) 2 (some 9) (lb 14 7) rfl rfl (by kernel_rfl) (fun _ _ _ h => h) (by rfl) ?_ ?_ ?_; rotate_left; (intro w'; go_simp; with_reducible rfl); rotate_left; (simp only [Act.put, List.setIfInBounds_toArray, List.set_cons_zero, List.set_cons_succ, i64_w, i32_w]; rfl)
    refine pS (v := ?_) (a' := ?_) 3 (some 10) (lb 14 15) rfl rfl (by kernel_rfl) (fun _ _ _ h => h) (by rfl) ?_ ?_ ?_; rotate_left; (intro w'; go_simp; with_reducible rfl); rotate_left; (simp only [Act.put, List.setIfInBounds_toArray, List.set_cons_zero, List.set_cons_succ, i64_w, i32_w]; rfl)
    refine pO (a' := ?_) 4 (some 11) (lb 14 31) rfl rfl (by kernel_rfl) (fun _ _ _ h => h) (by rfl) ?_ ?_; rotate_left; (simp only [Act.put, List.setIfInBounds_toArray, List.set_cons_zero, List.set_cons_succ, i64_w, i32_w]; rfl)
    refine pO (a' := ?_) 5 (some 12) (lb 14 63) rfl rfl (by kernel_rfl) (fun _ _ _ h => h) (by rfl) ?_ ?_; rotate_left; (simp only [Act.put, List.setIfInBounds_toArray, List.set_cons_zero, List.set_cons_succ, i64_w, i32_w]; rfl)
    refine pO (a' := ?_) 6 (some 13) (lb 14 127) rfl rfl (by kernel_rfl) (fun _ _ _ h => h) (by rfl) ?_ ?_; rotate_left; (simp only [Act.put, List.setIfInBounds_toArray, List.set_cons_zero, List.set_cons_succ, i64_w, i32_w]; rfl)
    refine pO (a' := ?_) 7 (some 14) (lb 14 255) rfl rfl (by kernel_rfl) (fun _ _ _ h => h) (by rfl) ?_ ?_; rotate_left; (simp only [Act.put, List.setIfInBounds_toArray, List.set_cons_zero, List.set_cons_succ, i64_w, i32_w]; rfl)
    refine pO (a' := ?_) 8 (some 15) (lb 14 511) rfl rfl (by kernel_rfl) (fun _ _ _ h => h) (by rfl) ?_ ?_; rotate_left; (simp only [Act.put, List.setIfInBounds_toArray, List.set_cons_zero, List.set_cons_succ, i64_w, i32_w]; rfl)
    refine pO (a' := ?_) 9 (some 16) (lb 14 1023) rfl rfl (by kernel_rfl) (fun _ _ _ h => h) (by rfl) ?_ ?_; rotate_left; (simp only [Act.put, List.setIfInBounds_toArray, List.set_cons_zero, List.set_cons_succ, i64_w, i32_w]; rfl)
    refine pO (a' := ?_) 10 (some 17) (lb 14 2047) rfl rfl (by kernel_rfl) (fun _ _ _ h => h) (by rfl) ?_ ?_; rotate_left; (simp only [Act.put, List.setIfInBounds_toArray, List.set_cons_zero, List.set_cons_succ, i64_w, i32_w]; rfl)
    refine pO (a' := ?_) 11 (some 18) (lb 14 4095) rfl rfl (by kernel_rfl) (fun _ _ _ h => h) (by rfl) ?_ ?_; rotate_left; (simp only [Act.put, List.setIfInBounds_toArray, List.set_cons_zero, List.set_cons_succ, i64_w, i32_w]; rfl)
    refine pS (v := ?_) (a' := ?_) 12 (some 19) (lb 14 8191) rfl rfl (by kernel_rfl) (fun _ _ _ h => h) (by rfl) ?_ ?_ ?_; rotate_left; (intro w'; go_simp; with_reducible rfl); rotate_left; (simp only [Act.put, List.setIfInBounds_toArray, List.set_cons_zero, List.set_cons_succ, i64_w, i32_w]; rfl)
    refine pS (v := ?_) (a' := ?_) 13 (some 6) (lb 14 16383) rfl rfl (by kernel_rfl) (fun _ _ _ h => h) (by rfl) ?_ ?_ ?_; rotate_left; (intro w'; go_simp; with_reducible rfl); rotate_left; (simp only [Act.put, List.setIfInBounds_toArray, List.set_cons_zero, List.set_cons_succ, i64_w, i32_w]; rfl)
    refine done_ (by kernel_rfl) ?_
    go_wp2_with fail
    go_ret
    rw [E.out]
    exact ⟨rfl, XW.out⟩
set_option maxHeartbeats 8000000 in
set_option maxRecDepth 100000 in
theorem rload7_T {w0 w : World} {gu : Nat} {tu : TypeId} {ex : List Value} {orow : Option Nat} {U : RSt} (pk ps pp id ld : Int) (h : RefAt w0 w gu tu ex orow U) (hl : U.W.length ≤ 100000 ∧ U.L.length ≤ 100000 ∧ U.R.length ≤ 100000) (hld : oget U.L (pk, ps, pp) = ld) (hr : 0 ≤ ld ∧ ld < 9223372036854775808) :
    Calls Try.prog 110 #[.pointer (some ⟨gu, 0, none⟩), .agg #[.int .i64 pk, .int .i64 ps, .int .i64 pp], .int .i64 id] w fun e w' => e = .returned (.tuple #[.int .u64 (oget U.W (pk, ps, pp)), .int .i64 ld, .bool (rst U pk ps id)]) ∧ Below w.heap.size w w' := by
  have hu23 := Try.underlying23
  have hu74 := Try.underlying74
  have hu76 := Try.underlying76
  have hu60 := Try.underlying60
  have HL := Aside0.mk hl
  have LD := Aside0.mk hld
  have wl : wrap64 ld = ld := by unfold wrap64; omega
  have X0 := Aside0.mk (blk_drew (blk_new w (.cells #[.int .i64 pk, .int .i64 ps, .int .i64 pp] 23)))
  have XI := Aside0.mk (h.alloc (.cells #[.int .i64 pk, .int .i64 ps, .int .i64 pp] 23)).drew
  have XW := Aside0.mk (below_drew (below_alloc (Below.refl w.heap.size w) (.cells #[.int .i64 pk, .int .i64 ps, .int .i64 pp] 23)))
  have GL := Aside0.mk (show gu ≠ w.heap.size by have := h.lt; omega)
  clear h hl hld hr
  go_enter Try.func110, Try.ntmps110
  go_wp2_with fail
  refine start_ (n := 18) (S := fun w' => w'.cell? ⟨w.heap.size, 0, none⟩ = some (.int .i64 pk) ∧ w'.cell? ⟨w.heap.size, 1, none⟩ = some (.int .i64 ps) ∧ w'.cell? ⟨w.heap.size, 2, none⟩ = some (.int .i64 pp)) (ds := [14]) (lb 18 0) (by kernel_rfl) rfl rfl ⟨(blk_cell X0.out 0).trans rfl, (blk_cell X0.out 1).trans rfl, (blk_cell X0.out 2).trans rfl⟩ (fun hHeld => ?_)
  refine pS (v := ?_) (a' := ?_) 0 (some 9) (lb 18 1) rfl rfl (by kernel_rfl) (fun _ _ _ h => h) (by rfl) ?_ ?_ ?_; rotate_left; (intro w'; go_simp; with_reducible rfl); rotate_left; (simp only [Act.put, List.setIfInBounds_toArray, List.set_cons_zero, List.set_cons_succ, i64_w, i32_w]; rfl)
  refine pS (v := ?_) (a' := ?_) 1 (some 10) (lb 18 3) rfl rfl (by kernel_rfl) (fun _ _ _ h => h) (by rfl) ?_ ?_ ?_; rotate_left; (intro w'; go_simp; with_reducible rfl); rotate_left; (simp only [Act.put, List.setIfInBounds_toArray, List.set_cons_zero, List.set_cons_succ, i64_w, i32_w]; rfl)
  refine pS (v := ?_) (a' := ?_) 2 (some 11) (lb 18 7) rfl rfl (by kernel_rfl) (fun _ _ _ h => h) (by rfl) ?_ ?_ ?_; rotate_left; (intro w'; go_simp; with_reducible rfl); rotate_left; (simp only [Act.put, List.setIfInBounds_toArray, List.set_cons_zero, List.set_cons_succ, i64_w, i32_w]; rfl)
  refine pS (v := ?_) (a' := ?_) 5 (some 14) (lb 18 39) rfl rfl (by kernel_rfl) (fun _ _ _ h => h) (by rfl) ?_ ?_ ?_; rotate_left; (intro w'; go_simp; with_reducible rfl); rotate_left; (simp only [Act.put, List.setIfInBounds_toArray, List.set_cons_zero, List.set_cons_succ, i64_w, i32_w]; rfl)
  refine pS (v := ?_) (a' := ?_) 6 (some 15) (lb 18 103) rfl rfl (by kernel_rfl) (fun _ _ _ h => h) (by rfl) ?_ ?_ ?_; rotate_left; (intro w'; go_simp; with_reducible rfl); rotate_left; (simp only [Act.put, List.setIfInBounds_toArray, List.set_cons_zero, List.set_cons_succ, i64_w, i32_w]; rfl)
  refine pS (v := ?_) (a' := ?_) 7 (some 16) (lb 18 231) rfl rfl (by kernel_rfl) (fun _ _ _ h => h) (by rfl) ?_ ?_ ?_; rotate_left; (intro w'; go_simp; with_reducible rfl); rotate_left; (simp only [Act.put, List.setIfInBounds_toArray, List.set_cons_zero, List.set_cons_succ, i64_w, i32_w]; rfl)
  refine pS (v := ?_) (a' := ?_) 11 (some 20) (lb 18 2279) rfl rfl (by kernel_rfl) (fun _ _ _ h => h) (by rfl) ?_ ?_ ?_; rotate_left; (intro w'; go_simp; with_reducible rfl); rotate_left; (simp only [Act.put, List.setIfInBounds_toArray, List.set_cons_zero, List.set_cons_succ, i64_w, i32_w]; rfl)
  refine pS (v := ?_) (a' := ?_) 13 (some 22) (lb 18 10471) rfl rfl (by kernel_rfl) (fun _ _ _ h => h) (by rfl) ?_ ?_ ?_; rotate_left; (intro w'; go_simp; with_reducible rfl); rotate_left; (simp only [Act.put, List.setIfInBounds_toArray, List.set_cons_zero, List.set_cons_succ, i64_w, i32_w]; rfl)
  refine tS (v := ?_) (a' := ?_) 3 (some 12) (lb 18 10479) rfl rfl (by kernel_rfl) (fun _ _ _ h => h) hHeld (by rfl) ?_ ?_ ?_; rotate_left; (rintro w' ⟨s0, s1, s2⟩; go_simp; with_reducible rfl); rotate_left; (simp only [Act.put, List.setIfInBounds_toArray, List.set_cons_zero, List.set_cons_succ, i64_w, i32_w]; rfl)
  refine tS (v := ?_) (a' := ?_) 8 (some 17) (lb 18 10735) rfl rfl (by kernel_rfl) (fun _ _ _ h => h) hHeld (by rfl) ?_ ?_ ?_; rotate_left; (rintro w' ⟨s0, s1, s2⟩; go_simp; with_reducible rfl); rotate_left; (simp only [Act.put, List.setIfInBounds_toArray, List.set_cons_zero, List.set_cons_succ, i64_w, i32_w]; rfl)
  refine tS (v := ?_) (a' := ?_) 12 (some 21) (lb 18 14831) rfl rfl (by kernel_rfl) (fun _ _ _ h => h) hHeld (by rfl) ?_ ?_ ?_; rotate_left; (rintro w' ⟨s0, s1, s2⟩; go_simp; with_reducible rfl); rotate_left; (simp only [Act.put, List.setIfInBounds_toArray, List.set_cons_zero, List.set_cons_succ, i64_w, i32_w]; rfl)
  refine one_ (i := 4) (N := some 13) (lb 18 14847) rfl rfl (by kernel_rfl) (by decide) (fun K hK => ?_)
  refine goes_ Try.func83 (by kernel_rfl) rfl #[.pointer (some ⟨gu, 0, none⟩), .agg #[.int .i64 pk, .int .i64 ps, .int .i64 pp]] (by rfl) rfl rfl (by simp only [List.map_toArray, List.map_cons, List.map_nil]; rfl) ?_
  with_reducible refine (rgetW_T pk ps pp XI.out HL.out.1).mono ?_
  rintro e w2 ⟨rfl, hb⟩
  refine ⟨_, rfl, ?_⟩
  have YI := Aside0.mk (XI.out.below hb)
  have Y0 := Aside0.mk (blk_below X0.out hb)
  have YW := Aside0.mk (below_step XW.out hb)
  clear hb
  refine hK.out _ _ ⟨(blk_cell Y0.out 0).trans rfl, (blk_cell Y0.out 1).trans rfl, (blk_cell Y0.out 2).trans rfl⟩ (fun hHeld => ?_)
  clear hK K
  refine norm_ (a' := ?_) ?_ ?_
  rotate_left
  · show Act.put _ (some 13) _ = _
    simp only [Act.put, List.setIfInBounds_toArray, List.set_cons_zero, List.set_cons_succ, i64_w, i32_w]
    rfl
  refine one_ (i := 9) (N := some 18) (lb 18 15359) rfl rfl (by kernel_rfl) (by decide) (fun K hK => ?_)
  refine goes_ Try.func83 (by kernel_rfl) rfl #[.pointer (some ⟨gu, 1, none⟩), .agg #[.int .i64 pk, .int .i64 ps, .int .i64 pp]] (by rfl) rfl rfl (by simp only [List.map_toArray, List.map_cons, List.map_nil]; rfl) ?_
  with_reducible refine (rgetL_T pk ps pp YI.out HL.out.2.1).mono ?_
  rintro e w3 ⟨rfl, hb⟩
  refine ⟨_, rfl, ?_⟩
  rw [LD.out]
  have ZI := Aside0.mk (YI.out.below hb)
  have Z0 := Aside0.mk (blk_below Y0.out hb)
  have ZW := Aside0.mk (below_step YW.out hb)
  clear hb
  refine hK.out _ _ ⟨(blk_cell Z0.out 0).trans rfl, (blk_cell Z0.out 1).trans rfl, (blk_cell Z0.out 2).trans rfl⟩ (fun hHeld => ?_)
  clear hK K
  refine norm_ (a' := ?_) ?_ ?_
  rotate_left
  · show Act.put _ (some 18) _ = _
    simp only [Act.put, List.setIfInBounds_toArray, List.set_cons_zero, List.set_cons_succ, i64_w, i32_w]
    rfl
  refine pS (v := ?_) (a' := ?_) 10 (some 19) (lb 18 16383) rfl rfl (by kernel_rfl) (fun _ _ _ h => h) (by rfl) ?_ ?_ ?_; rotate_left; (intro w'; go_simp; with_reducible rfl); rotate_left; (simp only [Act.put, List.setIfInBounds_toArray, List.set_cons_zero, List.set_cons_succ, i64_w, i32_w]; rfl)
  refine last_ (i := 14) (N := some 23) (lb 18 32767) rfl rfl (by kernel_rfl) (by decide) (fun K hK => ?_)
  refine goes_ Try.func111 (by kernel_rfl) rfl #[.pointer (some ⟨gu, 0, none⟩), .agg #[.int .i64 pk, .int .i64 ps, .int .i64 pp], .int .i64 id] (by rfl) rfl rfl (by simp only [List.map_toArray, List.map_cons, List.map_nil]; rfl) ?_
  with_reducible refine (rstale_T pk ps pp id ZI.out HL.out.2.2).mono ?_
  rintro e w4 ⟨rfl, hb⟩
  refine ⟨_, rfl, ?_⟩
  have VI := Aside0.mk (ZI.out.below hb)
  have V0 := Aside0.mk (blk_below Z0.out hb)
  have VW := Aside0.mk (below_step ZW.out hb)
  clear hb
  refine hK.out _ _ ?_
  clear hK K
  refine norm_ (a' := ?_) ?_ ?_
  rotate_left
  · show Act.put _ (some 23) _ = _
    simp only [Act.put, List.setIfInBounds_toArray, List.set_cons_zero, List.set_cons_succ, i64_w, i32_w]
    rfl
  refine pS (v := ?_) (a' := ?_) 15 (some 6) (lb 18 65535) rfl rfl (by kernel_rfl) (fun _ _ _ h => h) (by rfl) ?_ ?_ ?_; rotate_left; (intro w'; go_simp; with_reducible rfl); rotate_left; (simp only [Act.put, List.setIfInBounds_toArray, List.set_cons_zero, List.set_cons_succ, i64_w, i32_w]; rfl)
  refine pS (v := ?_) (a' := ?_) 16 (some 7) (lb 18 131071) rfl rfl (by kernel_rfl) (fun _ _ _ h => h) (by rfl) ?_ ?_ ?_; rotate_left; (intro w'; go_simp; with_reducible rfl); rotate_left; (simp only [Act.put, List.setIfInBounds_toArray, List.set_cons_zero, List.set_cons_succ, i64_w, i32_w]; rfl)
  refine pS (v := ?_) (a' := ?_) 17 (some 8) (lb 18 262143) rfl rfl (by kernel_rfl) (fun _ _ _ h => h) (by rfl) ?_ ?_ ?_; rotate_left; (intro w'; go_simp; with_reducible rfl); rotate_left; (simp only [Act.put, List.setIfInBounds_toArray, List.set_cons_zero, List.set_cons_succ, i64_w, i32_w]; rfl)
  refine done_ (by kernel_rfl) ?_
  go_wp2_with fail
  refine bodyPost_ret (results_tmp3 rfl _ _ _) rfl ⟨?_, VW.out⟩
  rfl
set_option maxHeartbeats 8000000 in
set_option maxRecDepth 100000 in
theorem rstore7_T {w0 w : World} {gu : Nat} {tu : TypeId} {ex : List Value} {orow : Option Nat} {U : RSt} {fl st : Int} (pk ps pp id x y : Int) (sb : Bool) (h : RefAt w0 w gu tu (.int .i64 fl :: .int .i64 st :: ex) orow U) (hB : Below w0.heap.size w0 w) (htu : tu ≠ 143 ∧ tu ≠ 3 ∧ tu ≠ 23) (hl : U.W.length ≤ 100000 ∧ U.L.length ≤ 100000 ∧ U.R.length ≤ 100000) :
    Calls Try.prog 98 #[.pointer (some ⟨gu, 0, none⟩), .agg #[.int .i64 pk, .int .i64 ps, .int .i64 pp], .int .i64 id, .int .u64 x, .int .i64 y, .bool sb] w (RefPost w0 w gu tu (.int .i64 (stF U (pk, ps, pp) id sb fl) :: .int .i64 st :: ex) orow (stU U (pk, ps, pp) x y) (.tuple #[])) := by
  have hu23 := Try.underlying23
  have hu74 := Try.underlying74
  have hu76 := Try.underlying76
  have hu60 := Try.underlying60
  have HL := Aside0.mk hl
  have HTU := Aside0.mk htu
  have XB := Aside0.mk (below_alloc hB (.cells #[.int .i64 pk, .int .i64 ps, .int .i64 pp] 23))
  have X0 := Aside0.mk (blk_new w (.cells #[.int .i64 pk, .int .i64 ps, .int .i64 pp] 23))
  have XI := Aside0.mk (h.alloc (.cells #[.int .i64 pk, .int .i64 ps, .int .i64 pp] 23))
  have XW := Aside0.mk (below_alloc (Below.refl w.heap.size w) (.cells #[.int .i64 pk, .int .i64 ps, .int .i64 pp] 23))
  have GL := Aside0.mk (show gu ≠ w.heap.size by have := h.lt; omega)
  cases sb with
  | true =>
    have SF := Aside0.mk (show stF U (pk, ps, pp) id true fl = wrap64 (fl + 1) from rfl)
    clear h hB hl htu
    go_enter Try.func98, Try.ntmps98
    obtain ⟨wz, hwz⟩ : ∃ z, z = w.alloc (.cells #[.int .i64 pk, .int .i64 ps, .int .i64 pp] 23) := ⟨_, rfl⟩
    rw [← hwz] at X0 XI XW XB
    obtain ⟨vW, vL, vR, hbu⟩ := XI.out.blk
    have c3 : wz.cell? ⟨gu, 3, none⟩ = some (.int .i64 fl) := (blk_cell hbu 3).trans rfl
    have f3 : wz.frozen? ⟨gu, 3, none⟩ = false := blk_frozen hbu 3
    rw [hwz] at c3 f3
    have QI := Aside0.mk (XI.out.set3 ⟨HTU.out.1, HTU.out.2.1⟩ (.int .i64 (wrap64 (fl + 1))))
    have QB := Aside0.mk (XB.out.setCell (p := ⟨gu, 3, none⟩) XI.out.b (.int .i64 (wrap64 (fl + 1))))
    have Q0 := Aside0.mk (blk_far (p := ⟨gu, 3, none⟩) X0.out GL.out.symm (.int .i64 (wrap64 (fl + 1))))
    have QW := Aside0.mk (refS_after XW.out (refS_set XI.out 3 (.int .i64 (wrap64 (fl + 1)))))
    clear hbu
    go_wp2_with fail
    clear c3 f3
    rw [← hwz]
    generalize wz.setCell ⟨gu, 3, none⟩ (.int .i64 (wrap64 (fl + 1))) = w5 at *
    have D0 := Aside0.mk (blk_drew Q0.out)
    have DI := Aside0.mk QI.out.drew
    have DB := Aside0.mk (below_drew QB.out)
    have DW := Aside0.mk QW.out.drew
    refine start_ (n := 6) (S := fun w' => w'.cell? ⟨w.heap.size, 0, none⟩ = some (.int .i64 pk) ∧ w'.cell? ⟨w.heap.size, 1, none⟩ = some (.int .i64 ps) ∧ w'.cell? ⟨w.heap.size, 2, none⟩ = some (.int .i64 pp)) (ds := [5]) (lb 6 0) (by kernel_rfl) rfl rfl ⟨(blk_cell D0.out 0).trans rfl, (blk_cell D0.out 1).trans rfl, (blk_cell D0.out 2).trans rfl⟩ (fun hHeld => ?_)
    refine pS (v := ?_) (a' := ?_) 0 (some 26) (lb 6 1) rfl rfl (by kernel_rfl) (fun _ _ _ h => h) (by rfl) ?_ ?_ ?_; rotate_left; (intro w'; go_simp; with_reducible rfl); rotate_left; (simp only [Act.put, List.setIfInBounds_toArray, List.set_cons_zero, List.set_cons_succ, i64_w, i32_w]; rfl)
    refine pS (v := ?_) (a' := ?_) 1 (some 27) (lb 6 3) rfl rfl (by kernel_rfl) (fun _ _ _ h => h) (by rfl) ?_ ?_ ?_; rotate_left; (intro w'; go_simp; with_reducible rfl); rotate_left; (simp only [Act.put, List.setIfInBounds_toArray, List.set_cons_zero, List.set_cons_succ, i64_w, i32_w]; rfl)
    refine pS (v := ?_) (a' := ?_) 2 (some 28) (lb 6 7) rfl rfl (by kernel_rfl) (fun _ _ _ h => h) (by rfl) ?_ ?_ ?_; rotate_left; (intro w'; go_simp; with_reducible rfl); rotate_left; (simp only [Act.put, List.setIfInBounds_toArray, List.set_cons_zero, List.set_cons_succ, i64_w, i32_w]; rfl)
    refine pS (v := ?_) (a' := ?_) 4 (some 30) (lb 6 23) rfl rfl (by kernel_rfl) (fun _ _ _ h => h) (by rfl) ?_ ?_ ?_; rotate_left; (intro w'; go_simp; with_reducible rfl); rotate_left; (simp only [Act.put, List.setIfInBounds_toArray, List.set_cons_zero, List.set_cons_succ, i64_w, i32_w]; rfl)
    refine tS (v := ?_) (a' := ?_) 3 (some 29) (lb 6 31) rfl rfl (by kernel_rfl) (fun _ _ _ h => h) hHeld (by rfl) ?_ ?_ ?_; rotate_left; (rintro w' ⟨s0, s1, s2⟩; go_simp; with_reducible rfl); rotate_left; (simp only [Act.put, List.setIfInBounds_toArray, List.set_cons_zero, List.set_cons_succ, i64_w, i32_w]; rfl)
    refine last_ (i := 5) (N := some 31) (lb 6 63) rfl rfl (by kernel_rfl) (by decide) (fun K hK => ?_)
    refine goes_ Try.func85 (by kernel_rfl) rfl #[.pointer (some ⟨gu, 0, none⟩), .agg #[.int .i64 pk, .int .i64 ps, .int .i64 pp], .int .u64 x] (by rfl) rfl rfl (by simp only [List.map_toArray, List.map_cons, List.map_nil]; rfl) ?_
    with_reducible refine (rsetW_T pk ps pp x DI.out DB.out ⟨HTU.out.1, HTU.out.2.1⟩ HL.out.1).mono ?_
    rintro e w6 ⟨rfl, h1_, h2_, h3_⟩
    refine ⟨_, rfl, ?_⟩
    have EI := Aside0.mk h1_.drew
    have EB := Aside0.mk (below_drew h2_)
    have E0 := Aside0.mk (blk_drew (refS_stays h3_ D0.out HTU.out.2.2.symm (by decide)))
    have EW := Aside0.mk (Fr.drew (refS_trans DW.out h3_))
    clear h1_ h2_ h3_
    refine hK.out _ _ ?_
    clear hK K
    refine norm_ (a' := ?_) ?_ ?_
    rotate_left
    · show Act.put _ (some 31) _ = _
      simp only [Act.put, List.setIfInBounds_toArray, List.set_cons_zero, List.set_cons_succ, i64_w, i32_w]
      rfl
    refine done_ (by kernel_rfl) ?_
    go_wp2_with fail
    refine start_ (n := 7) (S := fun w' => w'.cell? ⟨w.heap.size, 0, none⟩ = some (.int .i64 pk) ∧ w'.cell? ⟨w.heap.size, 1, none⟩ = some (.int .i64 ps) ∧ w'.cell? ⟨w.heap.size, 2, none⟩ = some (.int .i64 pp)) (ds := [6]) (lb 7 0) (by kernel_rfl) rfl rfl ⟨(blk_cell E0.out 0).trans rfl, (blk_cell E0.out 1).trans rfl, (blk_cell E0.out 2).trans rfl⟩ (fun hHeld => ?_)
    refine pS (v := ?_) (a' := ?_) 0 (some 32) (lb 7 1) rfl rfl (by kernel_rfl) (fun _ _ _ h => h) (by rfl) ?_ ?_ ?_; rotate_left; (intro w'; go_simp; with_reducible rfl); rotate_left; (simp only [Act.put, List.setIfInBounds_toArray, List.set_cons_zero, List.set_cons_succ, i64_w, i32_w]; rfl)
    refine pS (v := ?_) (a' := ?_) 1 (some 33) (lb 7 3) rfl rfl (by kernel_rfl) (fun _ _ _ h => h) (by rfl) ?_ ?_ ?_; rotate_left; (intro w'; go_simp; with_reducible rfl); rotate_left; (simp only [Act.put, List.setIfInBounds_toArray, List.set_cons_zero, List.set_cons_succ, i64_w, i32_w]; rfl)
    refine pS (v := ?_) (a' := ?_) 2 (some 34) (lb 7 7) rfl rfl (by kernel_rfl) (fun _ _ _ h => h) (by rfl) ?_ ?_ ?_; rotate_left; (intro w'; go_simp; with_reducible rfl); rotate_left; (simp only [Act.put, List.setIfInBounds_toArray, List.set_cons_zero, List.set_cons_succ, i64_w, i32_w]; rfl)
    refine pS (v := ?_) (a' := ?_) 4 (some 36) (lb 7 23) rfl rfl (by kernel_rfl) (fun _ _ _ h => h) (by rfl) ?_ ?_ ?_; rotate_left; (intro w'; go_simp; with_reducible rfl); rotate_left; (simp only [Act.put, List.setIfInBounds_toArray, List.set_cons_zero, List.set_cons_succ, i64_w, i32_w]; rfl)
    refine pS (v := ?_) (a' := ?_) 5 (some 37) (lb 7 55) rfl rfl (by kernel_rfl) (fun _ _ _ h => h) (by rfl) ?_ ?_ ?_; rotate_left; (intro w'; go_simp; with_reducible rfl); rotate_left; (simp only [Act.put, List.setIfInBounds_toArray, List.set_cons_zero, List.set_cons_succ, i64_w, i32_w]; rfl)
    refine tS (v := ?_) (a' := ?_) 3 (some 35) (lb 7 63) rfl rfl (by kernel_rfl) (fun _ _ _ h => h) hHeld (by rfl) ?_ ?_ ?_; rotate_left; (rintro w' ⟨s0, s1, s2⟩; go_simp; with_reducible rfl); rotate_left; (simp only [Act.put, List.setIfInBounds_toArray, List.set_cons_zero, List.set_cons_succ, i64_w, i32_w]; rfl)
    refine last_ (i := 6) (N := some 38) (lb 7 127) rfl rfl (by kernel_rfl) (by decide) (fun K hK => ?_)
    refine goes_ Try.func85 (by kernel_rfl) rfl #[.pointer (some ⟨gu, 1, none⟩), .agg #[.int .i64 pk, .int .i64 ps, .int .i64 pp], .int .u64 (IntKind.u64.wrap y)] (by rfl) rfl rfl (by simp only [List.map_toArray, List.map_cons, List.map_nil]; rfl) ?_
    with_reducible refine (rsetL_T pk ps pp (IntKind.u64.wrap y) EI.out EB.out ⟨HTU.out.1, HTU.out.2.1⟩ HL.out.2.1).mono ?_
    rintro e w7 ⟨rfl, h1_, h2_, h3_⟩
    refine ⟨_, rfl, ?_⟩
    have FI := Aside0.mk h1_
    have FB := Aside0.mk h2_
    have FW := Aside0.mk (refS_trans EW.out h3_)
    clear h1_ h2_ h3_
    refine hK.out _ _ ?_
    clear hK K
    refine norm_ (a' := ?_) ?_ ?_
    rotate_left
    · show Act.put _ (some 38) _ = _
      simp only [Act.put, List.setIfInBounds_toArray, List.set_cons_zero, List.set_cons_succ, i64_w, i32_w]
      rfl
    refine done_ (by kernel_rfl) ?_
    go_wp2_with fail
    exact bodyPost_ret (results_none rfl _ _ _) rfl ⟨rfl, by rw [SF.out]; exact FI.out, FB.out, FW.out⟩
  | false =>
    have HR := Aside0.mk h
    clear h hB hl htu
    obtain ⟨sr, hsr⟩ : ∃ z, rst U pk ps id = z := ⟨_, rfl⟩
    have SR := Aside0.mk hsr
    clear hsr
    go_enter Try.func98, Try.ntmps98
    have c0 : (w.alloc (.cells #[.int .i64 pk, .int .i64 ps, .int .i64 pp] 23)).cell? ⟨w.heap.size, 0, none⟩ = some (.int .i64 pk) := (blk_cell X0.out 0).trans rfl
    have c1 : (w.alloc (.cells #[.int .i64 pk, .int .i64 ps, .int .i64 pp] 23)).cell? ⟨w.heap.size, 1, none⟩ = some (.int .i64 ps) := (blk_cell X0.out 1).trans rfl
    have c2 : (w.alloc (.cells #[.int .i64 pk, .int .i64 ps, .int .i64 pp] 23)).cell? ⟨w.heap.size, 2, none⟩ = some (.int .i64 pp) := (blk_cell X0.out 2).trans rfl
    go_wp2_with fail
    clear c0 c1 c2
    refine (rstale_T pk ps pp id XI.out HL.out.2.2).mono ?_
    rintro e w2 ⟨rfl, hb⟩
    rw [SR.out]
    have YI := Aside0.mk (XI.out.below hb)
    have YB := Aside0.mk (below_step XB.out hb)
    have Y0 := Aside0.mk (blk_below X0.out hb)
    have YW := Aside0.mk (below_step XW.out hb)
    clear hb XI XB X0 XW
    cases sr with
    | true =>
      have SF := Aside0.mk (show stF U (pk, ps, pp) id false fl = wrap64 (fl + 1) from if_pos (by show (false || rst U pk ps id) = true; rw [SR.out]; rfl))
      obtain ⟨vW, vL, vR, hbu⟩ := YI.out.blk
      have c3 : w2.cell? ⟨gu, 3, none⟩ = some (.int .i64 fl) := (blk_cell hbu 3).trans rfl
      have f3 : w2.frozen? ⟨gu, 3, none⟩ = false := blk_frozen hbu 3
      have QI := Aside0.mk (YI.out.set3 ⟨HTU.out.1, HTU.out.2.1⟩ (.int .i64 (wrap64 (fl + 1))))
      have QB := Aside0.mk (YB.out.setCell (p := ⟨gu, 3, none⟩) YI.out.b (.int .i64 (wrap64 (fl + 1))))
      have Q0 := Aside0.mk (blk_far (p := ⟨gu, 3, none⟩) Y0.out GL.out.symm (.int .i64 (wrap64 (fl + 1))))
      have QW := Aside0.mk (refS_after YW.out (refS_set YI.out 3 (.int .i64 (wrap64 (fl + 1)))))
      clear hbu
      go_wp2_with fail
      clear c3 f3
      generalize w2.setCell ⟨gu, 3, none⟩ (.int .i64 (wrap64 (fl + 1))) = w5 at *
      have D0 := Aside0.mk (blk_drew Q0.out)
      have DI := Aside0.mk QI.out.drew
      have DB := Aside0.mk (below_drew QB.out)
      have DW := Aside0.mk QW.out.drew
      refine start_ (n := 6) (S := fun w' => w'.cell? ⟨w.heap.size, 0, none⟩ = some (.int .i64 pk) ∧ w'.cell? ⟨w.heap.size, 1, none⟩ = some (.int .i64 ps) ∧ w'.cell? ⟨w.heap.size, 2, none⟩ = some (.int .i64 pp)) (ds := [5]) (lb 6 0) (by kernel_rfl) rfl rfl ⟨(blk_cell D0.out 0).trans rfl, (blk_cell D0.out 1).trans rfl, (blk_cell D0.out 2).trans rfl⟩ (fun hHeld => ?_)
      refine pS (v := ?_) (a' := ?_) 0 (some 26) (lb 6 1) rfl rfl (by kernel_rfl) (fun _ _ _ h => h) (by rfl) ?_ ?_ ?_; rotate_left; (intro w'; go_simp; with_reducible rfl); rotate_left; (simp only [Act.put, List.setIfInBounds_toArray, List.set_cons_zero, List.set_cons_succ, i64_w, i32_w]; rfl)
      refine pS (v := ?_) (a' := ?_) 1 (some 27) (lb 6 3) rfl rfl (by kernel_rfl) (fun _ _ _ h => h) (by rfl) ?_ ?_ ?_; rotate_left; (intro w'; go_simp; with_reducible rfl); rotate_left; (simp only [Act.put, List.setIfInBounds_toArray, List.set_cons_zero, List.set_cons_succ, i64_w, i32_w]; rfl)
      refine pS (v := ?_) (a' := ?_) 2 (some 28) (lb 6 7) rfl rfl (by kernel_rfl) (fun _ _ _ h => h) (by rfl) ?_ ?_ ?_; rotate_left; (intro w'; go_simp; with_reducible rfl); rotate_left; (simp only [Act.put, List.setIfInBounds_toArray, List.set_cons_zero, List.set_cons_succ, i64_w, i32_w]; rfl)
      refine pS (v := ?_) (a' := ?_) 4 (some 30) (lb 6 23) rfl rfl (by kernel_rfl) (fun _ _ _ h => h) (by rfl) ?_ ?_ ?_; rotate_left; (intro w'; go_simp; with_reducible rfl); rotate_left; (simp only [Act.put, List.setIfInBounds_toArray, List.set_cons_zero, List.set_cons_succ, i64_w, i32_w]; rfl)
      refine tS (v := ?_) (a' := ?_) 3 (some 29) (lb 6 31) rfl rfl (by kernel_rfl) (fun _ _ _ h => h) hHeld (by rfl) ?_ ?_ ?_; rotate_left; (rintro w' ⟨s0, s1, s2⟩; go_simp; with_reducible rfl); rotate_left; (simp only [Act.put, List.setIfInBounds_toArray, List.set_cons_zero, List.set_cons_succ, i64_w, i32_w]; rfl)
      refine last_ (i := 5) (N := some 31) (lb 6 63) rfl rfl (by kernel_rfl) (by decide) (fun K hK => ?_)
      refine goes_ Try.func85 (by kernel_rfl) rfl #[.pointer (some ⟨gu, 0, none⟩), .agg #[.int .i64 pk, .int .i64 ps, .int .i64 pp], .int .u64 x] (by rfl) rfl rfl (by simp only [List.map_toArray, List.map_cons, List.map_nil]; rfl) ?_
      with_reducible refine (rsetW_T pk ps pp x DI.out DB.out ⟨HTU.out.1, HTU.out.2.1⟩ HL.out.1).mono ?_
      rintro e w6 ⟨rfl, h1_, h2_, h3_⟩
      refine ⟨_, rfl, ?_⟩
      have EI := Aside0.mk h1_.drew
      have EB := Aside0.mk (below_drew h2_)
      have E0 := Aside0.mk (blk_drew (refS_stays h3_ D0.out HTU.out.2.2.symm (by decide)))
      have EW := Aside0.mk (Fr.drew (refS_trans DW.out h3_))
      clear h1_ h2_ h3_
      refine hK.out _ _ ?_
      clear hK K
      refine norm_ (a' := ?_) ?_ ?_
      rotate_left
      · show Act.put _ (some 31) _ = _
        simp only [Act.put, List.setIfInBounds_toArray, List.set_cons_zero, List.set_cons_succ, i64_w, i32_w]
        rfl
      refine done_ (by kernel_rfl) ?_
      go_wp2_with fail
      refine start_ (n := 7) (S := fun w' => w'.cell? ⟨w.heap.size, 0, none⟩ = some (.int .i64 pk) ∧ w'.cell? ⟨w.heap.size, 1, none⟩ = some (.int .i64 ps) ∧ w'.cell? ⟨w.heap.size, 2, none⟩ = some (.int .i64 pp)) (ds := [6]) (lb 7 0) (by kernel_rfl) rfl rfl ⟨(blk_cell E0.out 0).trans rfl, (blk_cell E0.out 1).trans rfl, (blk_cell E0.out 2).trans rfl⟩ (fun hHeld => ?_)
      refine pS (v := ?_) (a' := ?_) 0 (some 32) (lb 7 1) rfl rfl (by kernel_rfl) (fun _ _ _ h => h) (by rfl) ?_ ?_ ?_; rotate_left; (intro w'; go_simp; with_reducible rfl); rotate_left; (simp only [Act.put, List.setIfInBounds_toArray, List.set_cons_zero, List.set_cons_succ, i64_w, i32_w]; rfl)
      refine pS (v := ?_) (a' := ?_) 1 (some 33) (lb 7 3) rfl rfl (by kernel_rfl) (fun _ _ _ h => h) (by rfl) ?_ ?_ ?_; rotate_left; (intro w'; go_simp; with_reducible rfl); rotate_left; (simp only [Act.put, List.setIfInBounds_toArray, List.set_cons_zero, List.set_cons_succ, i64_w, i32_w]; rfl)
      refine pS (v := ?_) (a' := ?_) 2 (some 34) (lb 7 7) rfl rfl (by kernel_rfl) (fun _ _ _ h => h) (by rfl) ?_ ?_ ?_; rotate_left; (intro w'; go_simp; with_reducible rfl); rotate_left; (simp only [Act.put, List.setIfInBounds_toArray, List.set_cons_zero, List.set_cons_succ, i64_w, i32_w]; rfl)
      refine pS (v := ?_) (a' := ?_) 4 (some 36) (lb 7 23) rfl rfl (by kernel_rfl) (fun _ _ _ h => h) (by rfl) ?_ ?_ ?_; rotate_left; (intro w'; go_simp; with_reducible rfl); rotate_left; (simp only [Act.put, List.setIfInBounds_toArray, List.set_cons_zero, List.set_cons_succ, i64_w, i32_w]; rfl)
      refine pS (v := ?_) (a' := ?_) 5 (some 37) (lb 7 55) rfl rfl (by kernel_rfl) (fun _ _ _ h => h) (by rfl) ?_ ?_ ?_; rotate_left; (intro w'; go_simp; with_reducible rfl); rotate_left; (simp only [Act.put, List.setIfInBounds_toArray, List.set_cons_zero, List.set_cons_succ, i64_w, i32_w]; rfl)
      refine tS (v := ?_) (a' := ?_) 3 (some 35) (lb 7 63) rfl rfl (by kernel_rfl) (fun _ _ _ h => h) hHeld (by rfl) ?_ ?_ ?_; rotate_left; (rintro w' ⟨s0, s1, s2⟩; go_simp; with_reducible rfl); rotate_left; (simp only [Act.put, List.setIfInBounds_toArray, List.set_cons_zero, List.set_cons_succ, i64_w, i32_w]; rfl)
      refine last_ (i := 6) (N := some 38) (lb 7 127) rfl rfl (by kernel_rfl) (by decide) (fun K hK => ?_)
      refine goes_ Try.func85 (by kernel_rfl) rfl #[.pointer (some ⟨gu, 1, none⟩), .agg #[.int .i64 pk, .int .i64 ps, .int .i64 pp], .int .u64 (IntKind.u64.wrap y)] (by rfl) rfl rfl (by simp only [List.map_toArray, List.map_cons, List.map_nil]; rfl) ?_
      with_reducible refine (rsetL_T pk ps pp (IntKind.u64.wrap y) EI.out EB.out ⟨HTU.out.1, HTU.out.2.1⟩ HL.out.2.1).mono ?_
      rintro e w7 ⟨rfl, h1_, h2_, h3_⟩
      refine ⟨_, rfl, ?_⟩
      have FI := Aside0.mk h1_
      have FB := Aside0.mk h2_
      have FW := Aside0.mk (refS_trans EW.out h3_)
      clear h1_ h2_ h3_
      refine hK.out _ _ ?_
      clear hK K
      refine norm_ (a' := ?_) ?_ ?_
      rotate_left
      · show Act.put _ (some 38) _ = _
        simp only [Act.put, List.setIfInBounds_toArray, List.set_cons_zero, List.set_cons_succ, i64_w, i32_w]
        rfl
      refine done_ (by kernel_rfl) ?_
      go_wp2_with fail
      exact bodyPost_ret (results_none rfl _ _ _) rfl ⟨rfl, by rw [SF.out]; exact FI.out, FB.out, FW.out⟩
    | false =>
      have SF := Aside0.mk (show stF U (pk, ps, pp) id false fl = fl from if_neg (by show ¬ (false || rst U pk ps id) = true; rw [SR.out]; decide))
      have QI := YI
      have QB := YB
      have Q0 := Y0
      have QW := Aside0.mk (show Fr (RefS w gu tu) w w2 from (Fr.refl _ w).below YW.out)
      go_wp2_with fail
      have D0 := Aside0.mk (blk_drew Q0.out)
      have DI := Aside0.mk QI.out.drew
      have DB := Aside0.mk (below_drew QB.out)
      have DW := Aside0.mk QW.out.drew
      refine start_ (n := 6) (S := fun w' => w'.cell? ⟨w.heap.size, 0, none⟩ = some (.int .i64 pk) ∧ w'.cell? ⟨w.heap.size, 1, none⟩ = some (.int .i64 ps) ∧ w'.cell? ⟨w.heap.size, 2, none⟩ = some (.int .i64 pp)) (ds := [5]) (lb 6 0) (by kernel_rfl) rfl rfl ⟨(blk_cell D0.out 0).trans rfl, (blk_cell D0.out 1).trans rfl, (blk_cell D0.out 2).trans rfl⟩ (fun hHeld => ?_)
      refine pS (v := ?_) (a' := ?_) 0 (some 26) (lb 6 1) rfl rfl (by kernel_rfl) (fun _ _ _ h => h) (by rfl) ?_ ?_ ?_; rotate_left; (intro w'; go_simp; with_reducible rfl); rotate_left; (simp only [Act.put, List.setIfInBounds_toArray, List.set_cons_zero, List.set_cons_succ, i64_w, i32_w]; rfl)
      refine pS (v := ?_) (a' := ?_) 1 (some 27) (lb 6 3) rfl rfl (by kernel_rfl) (fun _ _ _ h => h) (by rfl) ?_ ?_ ?_; rotate_left; (intro w'; go_simp; with_reducible rfl); rotate_left; (simp only [Act.put, List.setIfInBounds_toArray, List.set_cons_zero, List.set_cons_succ, i64_w, i32_w]; rfl)
      refine pS (v := ?_) (a' := ?_) 2 (some 28) (lb 6 7) rfl rfl (by kernel_rfl) (fun _ _ _ h => h) (by rfl) ?_ ?_ ?_; rotate_left; (intro w'; go_simp; with_reducible rfl); rotate_left; (simp only [Act.put, List.setIfInBounds_toArray, List.set_cons_zero, List.set_cons_succ, i64_w, i32_w]; rfl)
      refine pS (v := ?_) (a' := ?_) 4 (some 30) (lb 6 23) rfl rfl (by kernel_rfl) (fun _ _ _ h => h) (by rfl) ?_ ?_ ?_; rotate_left; (intro w'; go_simp; with_reducible rfl); rotate_left; (simp only [Act.put, List.setIfInBounds_toArray, List.set_cons_zero, List.set_cons_succ, i64_w, i32_w]; rfl)
      refine tS (v := ?_) (a' := ?_) 3 (some 29) (lb 6 31) rfl rfl (by kernel_rfl) (fun _ _ _ h => h) hHeld (by rfl) ?_ ?_ ?_; rotate_left; (rintro w' ⟨s0, s1, s2⟩; go_simp; with_reducible rfl); rotate_left; (simp only [Act.put, List.setIfInBounds_toArray, List.set_cons_zero, List.set_cons_succ, i64_w, i32_w]; rfl)
      refine last_ (i := 5) (N := some 31) (lb 6 63) rfl rfl (by kernel_rfl) (by decide) (fun K hK => ?_)
      refine goes_ Try.func85 (by kernel_rfl) rfl #[.pointer (some ⟨gu, 0, none⟩), .agg #[.int .i64 pk, .int .i64 ps, .int .i64 pp], .int .u64 x] (by rfl) rfl rfl (by simp only [List.map_toArray, List.map_cons, List.map_nil]; rfl) ?_
      with_reducible refine (rsetW_T pk ps pp x DI.out DB.out ⟨HTU.out.1, HTU.out.2.1⟩ HL.out.1).mono ?_
      rintro e w6 ⟨rfl, h1_, h2_, h3_⟩
      refine ⟨_, rfl, ?_⟩
      have EI := Aside0.mk h1_.drew
      have EB := Aside0.mk (below_drew h2_)
      have E0 := Aside0.mk (blk_drew (refS_stays h3_ D0.out HTU.out.2.2.symm (by decide)))
      have EW := Aside0.mk (Fr.drew (refS_trans DW.out h3_))
      clear h1_ h2_ h3_
      refine hK.out _ _ ?_
      clear hK K
      refine norm_ (a' := ?_) ?_ ?_
      rotate_left
      · show Act.put _ (some 31) _ = _
        simp only [Act.put, List.setIfInBounds_toArray, List.set_cons_zero, List.set_cons_succ, i64_w, i32_w]
        rfl
      refine done_ (by kernel_rfl) ?_
      go_wp2_with fail
      refine start_ (n := 7) (S := fun w' => w'.cell? ⟨w.heap.size, 0, none⟩ = some (.int .i64 pk) ∧ w'.cell? ⟨w.heap.size, 1, none⟩ = some (.int .i64 ps) ∧ w'.cell? ⟨w.heap.size, 2, none⟩ = some (.int .i64 pp)) (ds := [6]) (lb 7 0) (by kernel_rfl) rfl rfl ⟨(blk_cell E0.out 0).trans rfl, (blk_cell E0.out 1).trans rfl, (blk_cell E0.out 2).trans rfl⟩ (fun hHeld => ?_)
      refine pS (v := ?_) (a' := ?_) 0 (some 32) (lb 7 1) rfl rfl (by kernel_rfl) (fun _ _ _ h => h) (by rfl) ?_ ?_ ?_; rotate_left; (intro w'; go_simp; with_reducible rfl); rotate_left; (simp only [Act.put, List.setIfInBounds_toArray, List.set_cons_zero, List.set_cons_succ, i64_w, i32_w]; rfl)
      refine pS (v := ?_) (a' := ?_) 1 (some 33) (lb 7 3) rfl rfl (by kernel_rfl) (fun _ _ _ h => h) (by rfl) ?_ ?_ ?_; rotate_left; (intro w'; go_simp; with_reducible rfl); rotate_left; (simp only [Act.put, List.setIfInBounds_toArray, List.set_cons_zero, List.set_cons_succ, i64_w, i32_w]; rfl)
      refine pS (v := ?_) (a' := ?_) 2 (some 34) (lb 7 7) rfl rfl (by kernel_rfl) (fun _ _ _ h => h) (by rfl) ?_ ?_ ?_; rotate_left; (intro w'; go_simp; with_reducible rfl); rotate_left; (simp only [Act.put, List.setIfInBounds_toArray, List.set_cons_zero, List.set_cons_succ, i64_w, i32_w]; rfl)
      refine pS (v := ?_) (a' := ?_) 4 (some 36) (lb 7 23) rfl rfl (by kernel_rfl) (fun _ _ _ h => h) (by rfl) ?_ ?_ ?_; rotate_left; (intro w'; go_simp; with_reducible rfl); rotate_left; (simp only [Act.put, List.setIfInBounds_toArray, List.set_cons_zero, List.set_cons_succ, i64_w, i32_w]; rfl)
      refine pS (v := ?_) (a' := ?_) 5 (some 37) (lb 7 55) rfl rfl (by kernel_rfl) (fun _ _ _ h => h) (by rfl) ?_ ?_ ?_; rotate_left; (intro w'; go_simp; with_reducible rfl); rotate_left; (simp only [Act.put, List.setIfInBounds_toArray, List.set_cons_zero, List.set_cons_succ, i64_w, i32_w]; rfl)
      refine tS (v := ?_) (a' := ?_) 3 (some 35) (lb 7 63) rfl rfl (by kernel_rfl) (fun _ _ _ h => h) hHeld (by rfl) ?_ ?_ ?_; rotate_left; (rintro w' ⟨s0, s1, s2⟩; go_simp; with_reducible rfl); rotate_left; (simp only [Act.put, List.setIfInBounds_toArray, List.set_cons_zero, List.set_cons_succ, i64_w, i32_w]; rfl)
      refine last_ (i := 6) (N := some 38) (lb 7 127) rfl rfl (by kernel_rfl) (by decide) (fun K hK => ?_)
      refine goes_ Try.func85 (by kernel_rfl) rfl #[.pointer (some ⟨gu, 1, none⟩), .agg #[.int .i64 pk, .int .i64 ps, .int .i64 pp], .int .u64 (IntKind.u64.wrap y)] (by rfl) rfl rfl (by simp only [List.map_toArray, List.map_cons, List.map_nil]; rfl) ?_
      with_reducible refine (rsetL_T pk ps pp (IntKind.u64.wrap y) EI.out EB.out ⟨HTU.out.1, HTU.out.2.1⟩ HL.out.2.1).mono ?_
      rintro e w7 ⟨rfl, h1_, h2_, h3_⟩
      refine ⟨_, rfl, ?_⟩
      have FI := Aside0.mk h1_
      have FB := Aside0.mk h2_
      have FW := Aside0.mk (refS_trans EW.out h3_)
      clear h1_ h2_ h3_
      refine hK.out _ _ ?_
      clear hK K
      refine norm_ (a' := ?_) ?_ ?_
      rotate_left
      · show Act.put _ (some 38) _ = _
        simp only [Act.put, List.setIfInBounds_toArray, List.set_cons_zero, List.set_cons_succ, i64_w, i32_w]
        rfl
      refine done_ (by kernel_rfl) ?_
      go_wp2_with fail
      exact bodyPost_ret (results_none rfl _ _ _) rfl ⟨rfl, by rw [SF.out]; exact FI.out, FB.out, FW.out⟩
set_option maxHeartbeats 8000000 in
set_option maxRecDepth 100000 in
theorem rswap7_T {w0 w : World} {gu : Nat} {tu : TypeId} {ex : List Value} {orow : Option Nat} {U : RSt} {fl st : Int} (pk ps pp id ox x y : Int) (ob sb : Bool) (h : RefAt w0 w gu tu (.int .i64 fl :: .int .i64 st :: ex) orow U) (hB : Below w0.heap.size w0 w) (htu : tu ≠ 143 ∧ tu ≠ 3 ∧ tu ≠ 23) (hl : U.W.length ≤ 100000 ∧ U.L.length ≤ 100000 ∧ U.R.length ≤ 100000) :
    Calls Try.prog 99 #[.pointer (some ⟨gu, 0, none⟩), .agg #[.int .i64 pk, .int .i64 ps, .int .i64 pp], .int .i64 id, .int .u64 ox, .bool ob, .int .u64 x, .int .i64 y, .bool sb] w (RefPost w0 w gu tu (.int .i64 (if oget U.W (pk, ps, pp) = ox then stF U (pk, ps, pp) id (sb || ob) fl else fl) :: .int .i64 st :: ex) orow (if oget U.W (pk, ps, pp) = ox then stU U (pk, ps, pp) x y else U) (.bool (decide (oget U.W (pk, ps, pp) = ox)))) := by
  have hu23 := Try.underlying23
  have hu74 := Try.underlying74
  have hu76 := Try.underlying76
  have hu60 := Try.underlying60
  have HL := Aside0.mk hl
  have HTU := Aside0.mk htu
  have XB := Aside0.mk (below_drew (below_alloc hB (.cells #[.int .i64 pk, .int .i64 ps, .int .i64 pp] 23)))
  have X0 := Aside0.mk (blk_drew (blk_new w (.cells #[.int .i64 pk, .int .i64 ps, .int .i64 pp] 23)))
  have XI := Aside0.mk (h.alloc (.cells #[.int .i64 pk, .int .i64 ps, .int .i64 pp] 23)).drew
  have XW := Aside0.mk (below_drew (below_alloc (Below.refl w.heap.size w) (.cells #[.int .i64 pk, .int .i64 ps, .int .i64 pp] 23)))
  have GL := Aside0.mk (show gu ≠ w.heap.size by have := h.lt; omega)
  obtain ⟨cu, hcu⟩ : ∃ z, oget U.W (pk, ps, pp) = z := ⟨_, rfl⟩
  rw [hcu]
  have CU := Aside0.mk hcu
  clear h hB hl htu hcu
  by_cases he : cu = ox
  · rw [if_pos he, if_pos he, decide_eq_true he]
    have te : (cu != ox) = false := by rw [he]; simp
    clear he
    go_enter Try.func99, Try.ntmps99
    go_wp2_with fail
    refine start_ (n := 7) (S := fun w' => w'.cell? ⟨w.heap.size, 0, none⟩ = some (.int .i64 pk) ∧ w'.cell? ⟨w.heap.size, 1, none⟩ = some (.int .i64 ps) ∧ w'.cell? ⟨w.heap.size, 2, none⟩ = some (.int .i64 pp)) (ds := [4]) (lb 7 0) (by kernel_rfl) rfl rfl ⟨(blk_cell X0.out 0).trans rfl, (blk_cell X0.out 1).trans rfl, (blk_cell X0.out 2).trans rfl⟩ (fun hHeld => ?_)
    refine pS (v := ?_) (a' := ?_) 0 (some 17) (lb 7 1) rfl rfl (by kernel_rfl) (fun _ _ _ h => h) (by rfl) ?_ ?_ ?_; rotate_left; (intro w'; go_simp; with_reducible rfl); rotate_left; (simp only [Act.put, List.setIfInBounds_toArray, List.set_cons_zero, List.set_cons_succ, i64_w, i32_w]; rfl)
    refine pS (v := ?_) (a' := ?_) 1 (some 18) (lb 7 3) rfl rfl (by kernel_rfl) (fun _ _ _ h => h) (by rfl) ?_ ?_ ?_; rotate_left; (intro w'; go_simp; with_reducible rfl); rotate_left; (simp only [Act.put, List.setIfInBounds_toArray, List.set_cons_zero, List.set_cons_succ, i64_w, i32_w]; rfl)
    refine pS (v := ?_) (a' := ?_) 2 (some 19) (lb 7 7) rfl rfl (by kernel_rfl) (fun _ _ _ h => h) (by rfl) ?_ ?_ ?_; rotate_left; (intro w'; go_simp; with_reducible rfl); rotate_left; (simp only [Act.put, List.setIfInBounds_toArray, List.set_cons_zero, List.set_cons_succ, i64_w, i32_w]; rfl)
    refine pS (v := ?_) (a' := ?_) 5 (some 22) (lb 7 39) rfl rfl (by kernel_rfl) (fun _ _ _ h => h) (by rfl) ?_ ?_ ?_; rotate_left; (intro w'; go_simp; with_reducible rfl); rotate_left; (simp only [Act.put, List.setIfInBounds_toArray, List.set_cons_zero, List.set_cons_succ, i64_w, i32_w]; rfl)
    refine tS (v := ?_) (a' := ?_) 3 (some 20) (lb 7 47) rfl rfl (by kernel_rfl) (fun _ _ _ h => h) hHeld (by rfl) ?_ ?_ ?_; rotate_left; (rintro w' ⟨s0, s1, s2⟩; go_simp; with_reducible rfl); rotate_left; (simp only [Act.put, List.setIfInBounds_toArray, List.set_cons_zero, List.set_cons_succ, i64_w, i32_w]; rfl)
    refine last_ (i := 4) (N := some 21) (lb 7 63) rfl rfl (by kernel_rfl) (by decide) (fun K hK => ?_)
    refine goes_ Try.func83 (by kernel_rfl) rfl #[.pointer (some ⟨gu, 0, none⟩), .agg #[.int .i64 pk, .int .i64 ps, .int .i64 pp]] (by rfl) rfl rfl (by simp only [List.map_toArray, List.map_cons, List.map_nil]; rfl) ?_
    with_reducible refine (rgetW_T pk ps pp XI.out HL.out.1).mono ?_
    rintro e w2 ⟨rfl, hb⟩
    refine ⟨_, rfl, ?_⟩
    rw [CU.out]
    have YI := Aside0.mk (XI.out.below hb)
    have Y0 := Aside0.mk (blk_below X0.out hb)
    have YW := Aside0.mk (below_step XW.out hb)
    have YB := Aside0.mk (below_step XB.out hb)
    clear hb
    refine hK.out _ _ ?_
    clear hK K
    refine norm_ (a' := ?_) ?_ ?_
    rotate_left
    · show Act.put _ (some 21) _ = _
      simp only [Act.put, List.setIfInBounds_toArray, List.set_cons_zero, List.set_cons_succ, i64_w, i32_w]
      rfl
    refine pS (v := ?_) (a' := ?_) 6 (some 23) (lb 7 127) rfl rfl (by kernel_rfl) (fun _ _ _ h => h) (by rfl) ?_ ?_ ?_; rotate_left; (intro w'; go_simp; with_reducible rfl); rotate_left; (simp only [Act.put, List.setIfInBounds_toArray, List.set_cons_zero, List.set_cons_succ, i64_w, i32_w]; rfl)
    refine done_ (by kernel_rfl) ?_
    cases sb
    all_goals
      have c0 : w2.cell? ⟨w.heap.size, 0, none⟩ = some (.int .i64 pk) := (blk_cell Y0.out 0).trans rfl
      have c1 : w2.cell? ⟨w.heap.size, 1, none⟩ = some (.int .i64 ps) := (blk_cell Y0.out 1).trans rfl
      have c2 : w2.cell? ⟨w.heap.size, 2, none⟩ = some (.int .i64 pp) := (blk_cell Y0.out 2).trans rfl
      go_wp2_with fail
      clear c0 c1 c2
      refine (rstore7_T pk ps pp id x y _ YI.out YB.out HTU.out HL.out).mono ?_
      rintro e w3 ⟨rfl, h1_, h2_, h3_⟩
      have ZI := Aside0.mk h1_
      have ZB := Aside0.mk h2_
      have ZW := Aside0.mk (refS_after YW.out h3_)
      clear h1_ h2_ h3_
      go_wp2_with fail
      go_ret
      exact ⟨rfl, ZI.out, ZB.out, ZW.out⟩
  · rw [if_neg he, if_neg he, decide_eq_false he]
    have te : (cu != ox) = true := bne_iff_ne.2 he
    clear he
    go_enter Try.func99, Try.ntmps99
    go_wp2_with fail
    refine start_ (n := 7) (S := fun w' => w'.cell? ⟨w.heap.size, 0, none⟩ = some (.int .i64 pk) ∧ w'.cell? ⟨w.heap.size, 1, none⟩ = some (.int .i64 ps) ∧ w'.cell? ⟨w.heap.size, 2, none⟩ = some (.int .i64 pp)) (ds := [4]) (lb 7 0) (by kernel_rfl) rfl rfl ⟨(blk_cell X0.out 0).trans rfl, (blk_cell X0.out 1).trans rfl, (blk_cell X0.out 2).trans rfl⟩ (fun hHeld => ?_)
    refine pS (v := ?_) (a' := ?_) 0 (some 17) (lb 7 1) rfl rfl (by kernel_rfl) (fun _ _ _ h => h) (by rfl) ?_ ?_ ?_; rotate_left; (intro w'; go_simp; with_reducible rfl); rotate_left; (simp only [Act.put, List.setIfInBounds_toArray, List.set_cons_zero, List.set_cons_succ, i64_w, i32_w]; rfl)
    refine pS (v := ?_) (a' := ?_) 1 (some 18) (lb 7 3) rfl rfl (by kernel_rfl) (fun _ _ _ h => h) (by rfl) ?_ ?_ ?_; rotate_left; (intro w'; go_simp; with_reducible rfl); rotate_left; (simp only [Act.put, List.setIfInBounds_toArray, List.set_cons_zero, List.set_cons_succ, i64_w, i32_w]; rfl)
    refine pS (v := ?_) (a' := ?_) 2 (some 19) (lb 7 7) rfl rfl (by kernel_rfl) (fun _ _ _ h => h) (by rfl) ?_ ?_ ?_; rotate_left; (intro w'; go_simp; with_reducible rfl); rotate_left; (simp only [Act.put, List.setIfInBounds_toArray, List.set_cons_zero, List.set_cons_succ, i64_w, i32_w]; rfl)
    refine pS (v := ?_) (a' := ?_) 5 (some 22) (lb 7 39) rfl rfl (by kernel_rfl) (fun _ _ _ h => h) (by rfl) ?_ ?_ ?_; rotate_left; (intro w'; go_simp; with_reducible rfl); rotate_left; (simp only [Act.put, List.setIfInBounds_toArray, List.set_cons_zero, List.set_cons_succ, i64_w, i32_w]; rfl)
    refine tS (v := ?_) (a' := ?_) 3 (some 20) (lb 7 47) rfl rfl (by kernel_rfl) (fun _ _ _ h => h) hHeld (by rfl) ?_ ?_ ?_; rotate_left; (rintro w' ⟨s0, s1, s2⟩; go_simp; with_reducible rfl); rotate_left; (simp only [Act.put, List.setIfInBounds_toArray, List.set_cons_zero, List.set_cons_succ, i64_w, i32_w]; rfl)
    refine last_ (i := 4) (N := some 21) (lb 7 63) rfl rfl (by kernel_rfl) (by decide) (fun K hK => ?_)
    refine goes_ Try.func83 (by kernel_rfl) rfl #[.pointer (some ⟨gu, 0, none⟩), .agg #[.int .i64 pk, .int .i64 ps, .int .i64 pp]] (by rfl) rfl rfl (by simp only [List.map_toArray, List.map_cons, List.map_nil]; rfl) ?_
    with_reducible refine (rgetW_T pk ps pp XI.out HL.out.1).mono ?_
    rintro e w2 ⟨rfl, hb⟩
    refine ⟨_, rfl, ?_⟩
    rw [CU.out]
    have YI := Aside0.mk (XI.out.below hb)
    have Y0 := Aside0.mk (blk_below X0.out hb)
    have YW := Aside0.mk (below_step XW.out hb)
    have YB := Aside0.mk (below_step XB.out hb)
    clear hb
    refine hK.out _ _ ?_
    clear hK K
    refine norm_ (a' := ?_) ?_ ?_
    rotate_left
    · show Act.put _ (some 21) _ = _
      simp only [Act.put, List.setIfInBounds_toArray, List.set_cons_zero, List.set_cons_succ, i64_w, i32_w]
      rfl
    refine pS (v := ?_) (a' := ?_) 6 (some 23) (lb 7 127) rfl rfl (by kernel_rfl) (fun _ _ _ h => h) (by rfl) ?_ ?_ ?_; rotate_left; (intro w'; go_simp; with_reducible rfl); rotate_left; (simp only [Act.put, List.setIfInBounds_toArray, List.set_cons_zero, List.set_cons_succ, i64_w, i32_w]; rfl)
    refine done_ (by kernel_rfl) ?_
    go_wp2_with fail
    go_ret
    exact ⟨rfl, YI.out, YB.out, (Fr.refl _ w).below YW.out⟩
/-- What a load in the reference answers and leaves. -/
def LPost (w0 w : World) (gu : Nat) (tu : TypeId) (ex : List Value) (orow : Option Nat) (U : RSt) (fl st ld : Int) (k : K3) (id : Int) (e : Ending) (w' : World) : Prop :=
  e = .returned (.tuple #[.int .u64 (oget U.W k), .int .i64 ld, .bool (rst U k.1 k.2.1 id)]) ∧ RefAt w0 w' gu tu (.int .i64 fl :: .int .i64 (if rst U k.1 k.2.1 id = true then wrap64 (st + 1) else st) :: ex) orow U ∧ Below w0.heap.size w0 w' ∧ Fr (RefS w gu tu) w w'
set_option maxHeartbeats 8000000 in
set_option maxRecDepth 100000 in
theorem rload8_T {w0 w : World} {gu : Nat} {tu : TypeId} {ex : List Value} {orow : Option Nat} {U : RSt} {fl st : Int} (pk ps pp id ld : Int) (h : RefAt w0 w gu tu (.int .i64 fl :: .int .i64 st :: ex) orow U) (hB : Below w0.heap.size w0 w) (htu : tu ≠ 143 ∧ tu ≠ 3 ∧ tu ≠ 23) (hl : U.W.length ≤ 100000 ∧ U.L.length ≤ 100000 ∧ U.R.length ≤ 100000) (hld : oget U.L (pk, ps, pp) = ld) (hr : 0 ≤ ld ∧ ld < 9223372036854775808) :
    Calls Try.prog 97 #[.pointer (some ⟨gu, 0, none⟩), .agg #[.int .i64 pk, .int .i64 ps, .int .i64 pp], .int .i64 id] w (LPost w0 w gu tu ex orow U fl st ld (pk, ps, pp) id) := by
  unfold LPost
  show Calls Try.prog 97 _ w fun e w' => e = .returned (.tuple #[.int .u64 (oget U.W (pk, ps, pp)), .int .i64 ld, .bool (rst U pk ps id)]) ∧ RefAt w0 w' gu tu (.int .i64 fl :: .int .i64 (if rst U pk ps id = true then wrap64 (st + 1) else st) :: ex) orow U ∧ Below w0.heap.size w0 w' ∧ Fr (RefS w gu tu) w w'
  have hu23 := Try.underlying23
  have hu74 := Try.underlying74
  have hu76 := Try.underlying76
  have hu60 := Try.underlying60
  have HL := Aside0.mk hl
  have HTU := Aside0.mk htu
  have XB := Aside0.mk (below_drew (below_alloc hB (.cells #[.int .i64 pk, .int .i64 ps, .int .i64 pp] 23)))
  have LD := Aside0.mk hld
  have LR := Aside0.mk hr
  have X0 := Aside0.mk (blk_drew (blk_new w (.cells #[.int .i64 pk, .int .i64 ps, .int .i64 pp] 23)))
  have XI := Aside0.mk (h.alloc (.cells #[.int .i64 pk, .int .i64 ps, .int .i64 pp] 23)).drew
  have XW := Aside0.mk (below_drew (below_alloc (Below.refl w.heap.size w) (.cells #[.int .i64 pk, .int .i64 ps, .int .i64 pp] 23)))
  have GL := Aside0.mk (show gu ≠ w.heap.size by have := h.lt; omega)
  obtain ⟨sr, hsr⟩ : ∃ z, rst U pk ps id = z := ⟨_, rfl⟩
  rw [hsr]
  have SR := Aside0.mk hsr
  obtain ⟨cu, hcu⟩ : ∃ z, oget U.W (pk, ps, pp) = z := ⟨_, rfl⟩
  rw [hcu]
  have CU := Aside0.mk hcu
  clear h hB hl htu hld hr hsr hcu
  go_enter Try.func97, Try.ntmps97
  go_wp2_with fail
  refine start_ (n := 13) (S := fun w' => w'.cell? ⟨w.heap.size, 0, none⟩ = some (.int .i64 pk) ∧ w'.cell? ⟨w.heap.size, 1, none⟩ = some (.int .i64 ps) ∧ w'.cell? ⟨w.heap.size, 2, none⟩ = some (.int .i64 pp)) (ds := [5]) (lb 13 0) (by kernel_rfl) rfl rfl ⟨(blk_cell X0.out 0).trans rfl, (blk_cell X0.out 1).trans rfl, (blk_cell X0.out 2).trans rfl⟩ (fun hHeld => ?_)
  refine pS (v := ?_) (a' := ?_) 0 (some 13) (lb 13 1) rfl rfl (by kernel_rfl) (fun _ _ _ h => h) (by rfl) ?_ ?_ ?_; rotate_left; (intro w'; go_simp; with_reducible rfl); rotate_left; (simp only [Act.put, List.setIfInBounds_toArray, List.set_cons_zero, List.set_cons_succ, i64_w, i32_w]; rfl)
  refine pS (v := ?_) (a' := ?_) 1 (some 14) (lb 13 3) rfl rfl (by kernel_rfl) (fun _ _ _ h => h) (by rfl) ?_ ?_ ?_; rotate_left; (intro w'; go_simp; with_reducible rfl); rotate_left; (simp only [Act.put, List.setIfInBounds_toArray, List.set_cons_zero, List.set_cons_succ, i64_w, i32_w]; rfl)
  refine pS (v := ?_) (a' := ?_) 2 (some 15) (lb 13 7) rfl rfl (by kernel_rfl) (fun _ _ _ h => h) (by rfl) ?_ ?_ ?_; rotate_left; (intro w'; go_simp; with_reducible rfl); rotate_left; (simp only [Act.put, List.setIfInBounds_toArray, List.set_cons_zero, List.set_cons_succ, i64_w, i32_w]; rfl)
  refine pS (v := ?_) (a' := ?_) 4 (some 17) (lb 13 23) rfl rfl (by kernel_rfl) (fun _ _ _ h => h) (by rfl) ?_ ?_ ?_; rotate_left; (intro w'; go_simp; with_reducible rfl); rotate_left; (simp only [Act.put, List.setIfInBounds_toArray, List.set_cons_zero, List.set_cons_succ, i64_w, i32_w]; rfl)
  refine tS (v := ?_) (a' := ?_) 3 (some 16) (lb 13 31) rfl rfl (by kernel_rfl) (fun _ _ _ h => h) hHeld (by rfl) ?_ ?_ ?_; rotate_left; (rintro w' ⟨s0, s1, s2⟩; go_simp; with_reducible rfl); rotate_left; (simp only [Act.put, List.setIfInBounds_toArray, List.set_cons_zero, List.set_cons_succ, i64_w, i32_w]; rfl)
  refine last_ (i := 5) (N := some 18) (lb 13 63) rfl rfl (by kernel_rfl) (by decide) (fun K hK => ?_)
  refine goes_ Try.func110 (by kernel_rfl) rfl #[.pointer (some ⟨gu, 0, none⟩), .agg #[.int .i64 pk, .int .i64 ps, .int .i64 pp], .int .i64 id] (by rfl) rfl rfl (by simp only [List.map_toArray, List.map_cons, List.map_nil]; rfl) ?_
  with_reducible refine (rload7_T pk ps pp id ld XI.out HL.out LD.out LR.out).mono ?_
  rintro e w2 ⟨rfl, hb⟩
  refine ⟨_, rfl, ?_⟩
  rw [CU.out, SR.out]
  have YI := Aside0.mk (XI.out.below hb)
  have Y0 := Aside0.mk (blk_below X0.out hb)
  have YW := Aside0.mk (below_step XW.out hb)
  have YB := Aside0.mk (below_step XB.out hb)
  clear hb
  refine hK.out _ _ ?_
  clear hK K
  refine norm_ (a' := ?_) ?_ ?_
  rotate_left
  · show Act.put _ (some 18) _ = _
    simp only [Act.put, List.setIfInBounds_toArray, List.set_cons_zero, List.set_cons_succ, i64_w, i32_w]
    rfl
  refine pS (v := ?_) (a' := ?_) 6 (some 12) (lb 13 127) rfl rfl (by kernel_rfl) (fun _ _ _ h => h) (by rfl) ?_ ?_ ?_; rotate_left; (intro w'; go_simp; with_reducible rfl); rotate_left; (simp only [Act.put, List.setIfInBounds_toArray, List.set_cons_zero, List.set_cons_succ, i64_w, i32_w]; rfl)
  refine pS (v := ?_) (a' := ?_) 7 (some 19) (lb 13 255) rfl rfl (by kernel_rfl) (fun _ _ _ h => h) (by rfl) ?_ ?_ ?_; rotate_left; (intro w'; go_simp; with_reducible rfl); rotate_left; (simp only [Act.put, List.setIfInBounds_toArray, List.set_cons_zero, List.set_cons_succ, i64_w, i32_w]; rfl)
  refine pS (v := ?_) (a' := ?_) 8 (some 20) (lb 13 511) rfl rfl (by kernel_rfl) (fun _ _ _ h => h) (by rfl) ?_ ?_ ?_; rotate_left; (intro w'; go_simp; with_reducible rfl); rotate_left; (simp only [Act.put, List.setIfInBounds_toArray, List.set_cons_zero, List.set_cons_succ, i64_w, i32_w]; rfl)
  refine pS (v := ?_) (a' := ?_) 9 (some 21) (lb 13 1023) rfl rfl (by kernel_rfl) (fun _ _ _ h => h) (by rfl) ?_ ?_ ?_; rotate_left; (intro w'; go_simp; with_reducible rfl); rotate_left; (simp only [Act.put, List.setIfInBounds_toArray, List.set_cons_zero, List.set_cons_succ, i64_w, i32_w]; rfl)
  refine pS (v := ?_) (a' := ?_) 10 (some 9) (lb 13 2047) rfl rfl (by kernel_rfl) (fun _ _ _ h => h) (by rfl) ?_ ?_ ?_; rotate_left; (intro w'; go_simp; with_reducible rfl); rotate_left; (simp only [Act.put, List.setIfInBounds_toArray, List.set_cons_zero, List.set_cons_succ, i64_w, i32_w]; rfl)
  refine pS (v := ?_) (a' := ?_) 11 (some 10) (lb 13 4095) rfl rfl (by kernel_rfl) (fun _ _ _ h => h) (by rfl) ?_ ?_ ?_; rotate_left; (intro w'; go_simp; with_reducible rfl); rotate_left; (simp only [Act.put, List.setIfInBounds_toArray, List.set_cons_zero, List.set_cons_succ, i64_w, i32_w]; rfl)
  refine pS (v := ?_) (a' := ?_) 12 (some 11) (lb 13 8191) rfl rfl (by kernel_rfl) (fun _ _ _ h => h) (by rfl) ?_ ?_ ?_; rotate_left; (intro w'; go_simp; with_reducible rfl); rotate_left; (simp only [Act.put, List.setIfInBounds_toArray, List.set_cons_zero, List.set_cons_succ, i64_w, i32_w]; rfl)
  refine done_ (by kernel_rfl) ?_
  cases sr with
  | true =>
    obtain ⟨vW, vL, vR, hbu⟩ := YI.out.blk
    have c4 : w2.cell? ⟨gu, 4, none⟩ = some (.int .i64 st) := (blk_cell hbu 4).trans rfl
    have f4 : w2.frozen? ⟨gu, 4, none⟩ = false := blk_frozen hbu 4
    have QI := Aside0.mk (YI.out.set4 ⟨HTU.out.1, HTU.out.2.1⟩ (.int .i64 (wrap64 (st + 1))))
    have QB := Aside0.mk (YB.out.setCell (p := ⟨gu, 4, none⟩) YI.out.b (.int .i64 (wrap64 (st + 1))))
    have QW := Aside0.mk (refS_after YW.out (refS_set YI.out 4 (.int .i64 (wrap64 (st + 1)))))
    clear hbu
    go_wp2_with fail
    clear c4 f4
    refine bodyPost_ret (results_tmp3 rfl _ _ _) rfl ⟨?_, QI.out, QB.out, QW.out⟩
    rfl
  | false =>
    go_wp2_with fail
    refine bodyPost_ret (results_tmp3 rfl _ _ _) rfl ⟨?_, YI.out, YB.out, (Fr.refl _ w).below YW.out⟩
    rfl
set_option maxHeartbeats 8000000 in
set_option maxRecDepth 100000 in
theorem radd8_T {w0 w : World} {gu : Nat} {tu : TypeId} {ex : List Value} {orow : Option Nat} {U : RSt} (pk ps pp n : Int) (h : RefAt w0 w gu tu ex orow U) (hB : Below w0.heap.size w0 w) (htu : tu ≠ 143 ∧ tu ≠ 3 ∧ tu ≠ 23) (hl : U.W.length ≤ 100000 ∧ U.L.length ≤ 100000 ∧ U.R.length ≤ 100000) :
    Calls Try.prog 100 #[.pointer (some ⟨gu, 0, none⟩), .agg #[.int .i64 pk, .int .i64 ps, .int .i64 pp], .int .u64 n] w (RefPost w0 w gu tu ex orow { U with W := oset U.W (pk, ps, pp) (IntKind.u64.wrap (oget U.W (pk, ps, pp) + n)) } (.int .u64 (oget U.W (pk, ps, pp)))) := by
  have hu23 := Try.underlying23
  have hu74 := Try.underlying74
  have hu76 := Try.underlying76
  have hu60 := Try.underlying60
  have HL := Aside0.mk hl
  have HTU := Aside0.mk htu
  have XB := Aside0.mk (below_drew (below_alloc hB (.cells #[.int .i64 pk, .int .i64 ps, .int .i64 pp] 23)))
  have X0 := Aside0.mk (blk_drew (blk_new w (.cells #[.int .i64 pk, .int .i64 ps, .int .i64 pp] 23)))
  have XI := Aside0.mk (h.alloc (.cells #[.int .i64 pk, .int .i64 ps, .int .i64 pp] 23)).drew
  have XW := Aside0.mk (below_drew (below_alloc (Below.refl w.heap.size w) (.cells #[.int .i64 pk, .int .i64 ps, .int .i64 pp] 23)))
  have GL := Aside0.mk (show gu ≠ w.heap.size by have := h.lt; omega)
  obtain ⟨cu, hcu⟩ : ∃ z, oget U.W (pk, ps, pp) = z := ⟨_, rfl⟩
  rw [hcu]
  have CU := Aside0.mk hcu
  clear h hB hl htu hcu
  go_enter Try.func100, Try.ntmps100
  go_wp2_with fail
  refine start_ (n := 7) (S := fun w' => w'.cell? ⟨w.heap.size, 0, none⟩ = some (.int .i64 pk) ∧ w'.cell? ⟨w.heap.size, 1, none⟩ = some (.int .i64 ps) ∧ w'.cell? ⟨w.heap.size, 2, none⟩ = some (.int .i64 pp)) (ds := [5]) (lb 7 0) (by kernel_rfl) rfl rfl ⟨(blk_cell X0.out 0).trans rfl, (blk_cell X0.out 1).trans rfl, (blk_cell X0.out 2).trans rfl⟩ (fun hHeld => ?_)
  refine pS (v := ?_) (a' := ?_) 0 (some 8) (lb 7 1) rfl rfl (by kernel_rfl) (fun _ _ _ h => h) (by rfl) ?_ ?_ ?_; rotate_left; (intro w'; go_simp; with_reducible rfl); rotate_left; (simp only [Act.put, List.setIfInBounds_toArray, List.set_cons_zero, List.set_cons_succ, i64_w, i32_w]; rfl)
  refine pS (v := ?_) (a' := ?_) 1 (some 9) (lb 7 3) rfl rfl (by kernel_rfl) (fun _ _ _ h => h) (by rfl) ?_ ?_ ?_; rotate_left; (intro w'; go_simp; with_reducible rfl); rotate_left; (simp only [Act.put, List.setIfInBounds_toArray, List.set_cons_zero, List.set_cons_succ, i64_w, i32_w]; rfl)
  refine pS (v := ?_) (a' := ?_) 2 (some 10) (lb 7 7) rfl rfl (by kernel_rfl) (fun _ _ _ h => h) (by rfl) ?_ ?_ ?_; rotate_left; (intro w'; go_simp; with_reducible rfl); rotate_left; (simp only [Act.put, List.setIfInBounds_toArray, List.set_cons_zero, List.set_cons_succ, i64_w, i32_w]; rfl)
  refine pS (v := ?_) (a' := ?_) 3 (some 11) (lb 7 15) rfl rfl (by kernel_rfl) (fun _ _ _ h => h) (by rfl) ?_ ?_ ?_; rotate_left; (intro w'; go_simp; with_reducible rfl); rotate_left; (simp only [Act.put, List.setIfInBounds_toArray, List.set_cons_zero, List.set_cons_succ, i64_w, i32_w]; rfl)
  refine tS (v := ?_) (a' := ?_) 4 (some 12) (lb 7 31) rfl rfl (by kernel_rfl) (fun _ _ _ h => h) hHeld (by rfl) ?_ ?_ ?_; rotate_left; (rintro w' ⟨s0, s1, s2⟩; go_simp; with_reducible rfl); rotate_left; (simp only [Act.put, List.setIfInBounds_toArray, List.set_cons_zero, List.set_cons_succ, i64_w, i32_w]; rfl)
  refine last_ (i := 5) (N := some 13) (lb 7 63) rfl rfl (by kernel_rfl) (by decide) (fun K hK => ?_)
  refine goes_ Try.func83 (by kernel_rfl) rfl #[.pointer (some ⟨gu, 0, none⟩), .agg #[.int .i64 pk, .int .i64 ps, .int .i64 pp]] (by rfl) rfl rfl (by simp only [List.map_toArray, List.map_cons, List.map_nil]; rfl) ?_
  with_reducible refine (rgetW_T pk ps pp XI.out HL.out.1).mono ?_
  rintro e w2 ⟨rfl, hb⟩
  refine ⟨_, rfl, ?_⟩
  rw [CU.out]
  have YI := Aside0.mk (XI.out.below hb).drew
  have Y0 := Aside0.mk (blk_drew (blk_below X0.out hb))
  have YW := Aside0.mk (below_drew (below_step XW.out hb))
  have YB := Aside0.mk (below_drew (below_step XB.out hb))
  clear hb
  refine hK.out _ _ ?_
  clear hK K
  refine norm_ (a' := ?_) ?_ ?_
  rotate_left
  · show Act.put _ (some 13) _ = _
    simp only [Act.put, List.setIfInBounds_toArray, List.set_cons_zero, List.set_cons_succ, i64_w, i32_w]
    rfl
  refine pS (v := ?_) (a' := ?_) 6 (some 7) (lb 7 127) rfl rfl (by kernel_rfl) (fun _ _ _ h => h) (by rfl) ?_ ?_ ?_; rotate_left; (intro w'; go_simp; with_reducible rfl); rotate_left; (simp only [Act.put, List.setIfInBounds_toArray, List.set_cons_zero, List.set_cons_succ, i64_w, i32_w]; rfl)
  refine done_ (by kernel_rfl) ?_
  go_wp2_with fail
  refine start_ (n := 9) (S := fun w' => w'.cell? ⟨w.heap.size, 0, none⟩ = some (.int .i64 pk) ∧ w'.cell? ⟨w.heap.size, 1, none⟩ = some (.int .i64 ps) ∧ w'.cell? ⟨w.heap.size, 2, none⟩ = some (.int .i64 pp)) (ds := [8]) (lb 9 0) (by kernel_rfl) rfl rfl ⟨(blk_cell Y0.out 0).trans rfl, (blk_cell Y0.out 1).trans rfl, (blk_cell Y0.out 2).trans rfl⟩ (fun hHeld => ?_)
  refine pS (v := ?_) (a' := ?_) 0 (some 14) (lb 9 1) rfl rfl (by kernel_rfl) (fun _ _ _ h => h) (by rfl) ?_ ?_ ?_; rotate_left; (intro w'; go_simp; with_reducible rfl); rotate_left; (simp only [Act.put, List.setIfInBounds_toArray, List.set_cons_zero, List.set_cons_succ, i64_w, i32_w]; rfl)
  refine pS (v := ?_) (a' := ?_) 1 (some 15) (lb 9 3) rfl rfl (by kernel_rfl) (fun _ _ _ h => h) (by rfl) ?_ ?_ ?_; rotate_left; (intro w'; go_simp; with_reducible rfl); rotate_left; (simp only [Act.put, List.setIfInBounds_toArray, List.set_cons_zero, List.set_cons_succ, i64_w, i32_w]; rfl)
  refine pS (v := ?_) (a' := ?_) 2 (some 16) (lb 9 7) rfl rfl (by kernel_rfl) (fun _ _ _ h => h) (by rfl) ?_ ?_ ?_; rotate_left; (intro w'; go_simp; with_reducible rfl); rotate_left; (simp only [Act.put, List.setIfInBounds_toArray, List.set_cons_zero, List.set_cons_succ, i64_w, i32_w]; rfl)
  refine pS (v := ?_) (a' := ?_) 3 (some 17) (lb 9 15) rfl rfl (by kernel_rfl) (fun _ _ _ h => h) (by rfl) ?_ ?_ ?_; rotate_left; (intro w'; go_simp; with_reducible rfl); rotate_left; (simp only [Act.put, List.setIfInBounds_toArray, List.set_cons_zero, List.set_cons_succ, i64_w, i32_w]; rfl)
  refine pS (v := ?_) (a' := ?_) 5 (some 19) (lb 9 47) rfl rfl (by kernel_rfl) (fun _ _ _ h => h) (by rfl) ?_ ?_ ?_; rotate_left; (intro w'; go_simp; with_reducible rfl); rotate_left; (simp only [Act.put, List.setIfInBounds_toArray, List.set_cons_zero, List.set_cons_succ, i64_w, i32_w]; rfl)
  refine pS (v := ?_) (a' := ?_) 6 (some 20) (lb 9 111) rfl rfl (by kernel_rfl) (fun _ _ _ h => h) (by rfl) ?_ ?_ ?_; rotate_left; (intro w'; go_simp; with_reducible rfl); rotate_left; (simp only [Act.put, List.setIfInBounds_toArray, List.set_cons_zero, List.set_cons_succ, i64_w, i32_w]; rfl)
  refine pS (v := ?_) (a' := ?_) 7 (some 21) (lb 9 239) rfl rfl (by kernel_rfl) (fun _ _ _ h => h) (by rfl) ?_ ?_ ?_; rotate_left; (intro w'; go_simp; with_reducible rfl); rotate_left; (simp only [Act.put, List.setIfInBounds_toArray, List.set_cons_zero, List.set_cons_succ, i64_w, i32_w]; rfl)
  refine tS (v := ?_) (a' := ?_) 4 (some 18) (lb 9 255) rfl rfl (by kernel_rfl) (fun _ _ _ h => h) hHeld (by rfl) ?_ ?_ ?_; rotate_left; (rintro w' ⟨s0, s1, s2⟩; go_simp; with_reducible rfl); rotate_left; (simp only [Act.put, List.setIfInBounds_toArray, List.set_cons_zero, List.set_cons_succ, i64_w, i32_w]; rfl)
  refine last_ (i := 8) (N := some 22) (lb 9 511) rfl rfl (by kernel_rfl) (by decide) (fun K hK => ?_)
  refine goes_ Try.func85 (by kernel_rfl) rfl #[.pointer (some ⟨gu, 0, none⟩), .agg #[.int .i64 pk, .int .i64 ps, .int .i64 pp], .int .u64 (IntKind.u64.wrap (cu + n))] (by rfl) rfl rfl (by simp only [List.map_toArray, List.map_cons, List.map_nil]; rfl) ?_
  with_reducible refine (rsetW_T pk ps pp (IntKind.u64.wrap (cu + n)) YI.out YB.out ⟨HTU.out.1, HTU.out.2.1⟩ HL.out.1).mono ?_
  rintro e w3 ⟨rfl, h1_, h2_, h3_⟩
  refine ⟨_, rfl, ?_⟩
  have ZI := Aside0.mk h1_
  have ZB := Aside0.mk h2_
  have ZW := Aside0.mk (refS_after YW.out h3_)
  clear h1_ h2_ h3_
  refine hK.out _ _ ?_
  clear hK K
  refine norm_ (a' := ?_) ?_ ?_
  rotate_left
  · show Act.put _ (some 22) _ = _
    simp only [Act.put, List.setIfInBounds_toArray, List.set_cons_zero, List.set_cons_succ, i64_w, i32_w]
    rfl
  refine done_ (by kernel_rfl) ?_
  go_wp2_with fail
  go_ret
  exact ⟨rfl, ZI.out, ZB.out, ZW.out⟩
end Go.Proofs.Ytlpnggapndokeaa.PIdealKeeps

namespace Go.Proofs.Ytlpnggapndokeaa.PIdealKeeps
open Go Go.RowKit Go.Proofs.YtlpnggapndokeaaW.PrintWords Go.Proofs.YtlpnggapndokeaaW.PrintLast Go.Proofs.YtlpnggapndokeaaW.PrintMore Go.Proofs.Ytlpnggapndokeaa.M Go.Proofs.Ytlpnggapndokeaa.U
attribute [local go_sem] max2_int min2_int max_two min_two max_three min_three max_four min_four
set_option linter.unusedVariables false
set_option linter.unusedSimpArgs false
/-- Types that a reference's block may have: none of the watched memory's. -/
def TyOk (tu : TypeId) : Prop := tu ≠ 121 ∧ tu ≠ 131 ∧ tu ≠ 116 ∧ tu ≠ 114 ∧ tu ≠ 143 ∧ tu ≠ 3 ∧ tu ≠ 23 ∧ tu ≠ 134 ∧ tu ≠ 26
/-- A watched memory and its reference, beside each other. -/
structure Ref8 (w0 w : World) (gg gp gc gm gl gs g3 gu : Nat) (tu : TypeId) (ex : List Value) (G : GSt) (U : RSt) : Prop where
  I : GhostIs w0 w gg gp gc gm gl gs g3 G
  R : RefAt w0 w gu tu (.int .i64 G.faults :: .int .i64 G.stale :: ex) (rowAt w gs) U
section
variable {w0 w w1 : World} {gg gp gc gm gl gs g3 gu : Nat} {tu : TypeId} {ex ex' : List Value} {G G' : GSt} {U U' : RSt} {orow : Option Nat} {S : Nat → Obj → Prop}
theorem GhostIs.rowSame (h : GhostIs w0 w gg gp gc gm gl gs g3 G) (hk : ∀ cs, w.heap[gs]? = some (.cells cs 114 (0, 0)) → w1.heap[gs]? = some (.cells cs 114 (0, 0))) : rowAt w1 gs = rowAt w gs := by
  obtain ⟨v, hv⟩ := h.soul
  exact rowAt_of ((hk _ hv.blk).trans hv.blk.symm)
theorem Ref8.below (h : Ref8 w0 w gg gp gc gm gl gs g3 gu tu ex G U) (hb : Below w.heap.size w w1) : Ref8 w0 w1 gg gp gc gm gl gs g3 gu tu ex G U := by
  refine ⟨h.I.below hb, ?_⟩
  rw [h.I.rowSame (fun cs hc => blk_below hc hb)]
  exact h.R.below hb
theorem Ref8.alloc (h : Ref8 w0 w gg gp gc gm gl gs g3 gu tu ex G U) (o : Obj) : Ref8 w0 (w.alloc o) gg gp gc gm gl gs g3 gu tu ex G U := h.below (below_alloc (Below.refl _ _) o)
theorem Ref8.drew (h : Ref8 w0 w gg gp gc gm gl gs g3 gu tu ex G U) : Ref8 w0 w.drew gg gp gc gm gl gs g3 gu tu ex G U := h.below (below_drew (Below.refl _ _))
/-- The watched memory turned, the reference not yet: its counts are as they were. -/
theorem refT (hI : GhostIs w0 w gg gp gc gm gl gs g3 G) (hR : RefAt w0 w gu tu ex (rowAt w gs) U) (ht : TyOk tu) (hf : Fr (GhostT gg gc gm gl) w w1) : RefAt w0 w1 gu tu ex (rowAt w1 gs) U := by
  rw [hI.rowSame (fun cs hc => hI.stayT hf hc (by decide) (by decide))]
  refine hR.fr1 hf ?_
  rintro j o hj (⟨_, cs, rfl⟩ | ⟨cs, rfl⟩ | ⟨cs, rfl⟩)
  · exact gnoT hI hj ht.1 ht.2.1 _
  · exact gnoT hI hj (by decide) (by decide) _
  · exact gnoT hI hj (by decide) (by decide) _
theorem refB (hI : GhostIs w0 w gg gp gc gm gl gs g3 G) (hR : RefAt w0 w gu tu ex (rowAt w gs) U) (ht : TyOk tu) (h1 : GhostIs w0 w1 gg gp gc gm gl gs g3 G') (hf : Fr (RowS gs g3 (rowAt w gs)) w w1) (hr : rowAt w1 gs = rowAt w gs ∨ ∃ b, rowAt w1 gs = some b ∧ w.heap.size ≤ b) : RefAt w0 w1 gu tu ex (rowAt w1 gs) U := by
  refine hR.fr hf ?_ (fun k hk => ⟨?_, h1.rowAt_lt hk⟩)
  · rintro j o hj (⟨_, cs, rfl⟩ | ⟨cs, rfl⟩ | ⟨ne, cs, rfl⟩)
    · exact gnoB hI hj ht.2.2.2.1 ht.2.2.2.2.2.1 _
    · exact gnoB hI hj (by decide) (by decide) _
    · obtain ⟨v, hv⟩ := hI.soul
      rintro (e | e | e)
      · subst e; exact blk_ne hj hv.blk (by decide) rfl
      · exact mapIs_ne hv.map hj e
      · exact ne e
  · rcases hr with hr | ⟨b, hr, hb⟩
    · exact .inl (hr ▸ hk)
    · rw [hr] at hk
      injection hk with hk
      exact .inr (by omega)
theorem ghostS (hI : GhostIs w0 w gg gp gc gm gl gs g3 G) (ht : TyOk tu) (hf : Fr (RefS w gu tu) w w1) : GhostIs w0 w1 gg gp gc gm gl gs g3 G ∧ rowAt w1 gs = rowAt w gs := by
  have no : ∀ {p : Nat} {cs : Array Value} {t : TypeId}, t ≠ tu → t ≠ 143 → ¬ RefS w gu tu p (.cells cs t (0, 0)) := by
    rintro p cs t n1 n2 ⟨_, ⟨_, x⟩ | x⟩
    · exact n1 (isT_eq x)
    · exact n2 (isT_eq x)
  have nm : ∀ {p : Nat} {es : Array MapEntry} {c : Nat}, ¬ RefS w gu tu p (.map es c) := by
    rintro p es c ⟨_, ⟨_, x⟩ | x⟩
    · exact isT_map x
    · exact isT_map x
  refine ⟨hI.fr hf (fun _ => no ht.1.symm (by decide)) (fun _ => no ht.2.2.1.symm (by decide)) (fun _ => no ht.2.1.symm (by decide)) (fun _ _ => nm) (fun _ _ => nm) (fun _ => no ht.2.2.2.1.symm (by decide)) (fun _ _ => nm) (fun k o hk x => ?_), hI.rowSame (fun cs hc => refS_stays hf hc ht.2.2.2.1.symm (by decide))⟩
  obtain ⟨cs, rfl⟩ := hI.rowTy hk x.1
  exact no ht.2.2.2.2.2.1.symm (by decide) x
theorem ghostB (hI : GhostIs w0 w gg gp gc gm gl gs g3 G) (ht : TyOk tu) (hf : Fr (RefB w gu tu (rowAt w gs)) w w1) : GhostIs w0 w1 gg gp gc gm gl gs g3 G ∧ rowAt w1 gs = rowAt w gs := by
  have no : ∀ {p : Nat} {cs : Array Value} {t : TypeId}, t ≠ tu → t ≠ 3 → ¬ RefB w gu tu (rowAt w gs) p (.cells cs t (0, 0)) := by
    rintro p cs t n1 n2 ⟨_, ⟨_, x⟩ | ⟨_, x⟩⟩
    · exact n1 (isT_eq x)
    · exact n2 (isT_eq x)
  have nm : ∀ {p : Nat} {es : Array MapEntry} {c : Nat}, ¬ RefB w gu tu (rowAt w gs) p (.map es c) := by
    rintro p es c ⟨_, ⟨_, x⟩ | ⟨_, x⟩⟩
    · exact isT_map x
    · exact isT_map x
  refine ⟨hI.fr hf (fun _ => no ht.1.symm (by decide)) (fun _ => no ht.2.2.1.symm (by decide)) (fun _ => no ht.2.1.symm (by decide)) (fun _ _ => nm) (fun _ _ => nm) (fun _ => no ht.2.2.2.1.symm (by decide)) (fun _ _ => nm) (fun k o hk x => ?_), hI.rowSame (fun cs hc => refB_stays hf hc ht.2.2.2.1.symm (by decide))⟩
  obtain ⟨cs, rfl⟩ := hI.rowTy hk x.1
  rcases x.2 with ⟨_, y⟩ | ⟨y, _⟩
  · exact ht.2.2.2.2.2.1 (isT_eq y).symm
  · exact y hk.symm
theorem TyOk.two (h : TyOk tu) : tu ≠ 143 ∧ tu ≠ 3 := ⟨h.2.2.2.2.1, h.2.2.2.2.2.1⟩
theorem TyOk.three (h : TyOk tu) : tu ≠ 143 ∧ tu ≠ 3 ∧ tu ≠ 23 := ⟨h.2.2.2.2.1, h.2.2.2.2.2.1, h.2.2.2.2.2.2.1⟩
end
theorem refMove {w0 w1 : World} {gu : Nat} {tu : TypeId} {ex : List Value} {r r' : Option Nat} {U : RSt} (e : r' = r) (h : RefAt w0 w1 gu tu ex r U) : RefAt w0 w1 gu tu ex r' U := e ▸ h
/-- The two tell the same. -/
structure Rel8 (G : GSt) (U : RSt) : Prop where
  words : ∀ k, getw G.p.m k = oget U.W k
  leads : ∀ k, (get G.leads k).getD 0 = oget U.L k
  rng : ∀ p, 0 ≤ oget U.L p ∧ oget U.L p < 9223372036854775808
  row : G.row = U.R
  now : ∀ s, (get G.now s).getD 0 = nowR U.R s
def U0 : RSt := ⟨[], [], []⟩
theorem rel8_0 : Rel8 G0 U0 := ⟨fun _ => rfl, fun _ => rfl, fun _ => ⟨Int.le_refl _, by show (0 : Int) < _; decide⟩, rfl, fun _ => rfl⟩
section
variable {G G' : GSt} {U : RSt}
theorem Rel8.same (h : Rel8 G U) (h1 : G'.p.m = G.p.m) (h2 : G'.leads = G.leads) (h3 : G'.now = G.now) (h4 : G'.row = G.row) : Rel8 G' U :=
  ⟨fun k => by rw [h1]; exact h.words k, fun k => by rw [h2]; exact h.leads k, h.rng, h4.trans h.row, fun s => by rw [h3]; exact h.now s⟩
theorem Rel8.stale (h : Rel8 G U) (pk ps id : Int) : staleR G pk ps id = rst U pk ps id := by unfold staleR rst; rw [h.now]
theorem Rel8.word (h : Rel8 G U) (ho : Once G.p.m) (k : K3) (x : Int) (C : CSt) (hC : C.m = wput G.p.m k x) : Rel8 { G with p := C } { U with W := oset U.W k x } := by
  refine ⟨fun k' => ?_, h.leads, h.rng, h.row, h.now⟩
  show getw C.m k' = oget (oset U.W k x) k'
  rw [hC, getw_wput ho, oget_oset, h.words]
theorem Rel8.lead (h : Rel8 G U) (k : K3) (id y : Int) (b : Bool) (hy : 0 ≤ y ∧ y < 9223372036854775808) : Rel8 (leadG G k id y b) { U with L := oset U.L k (IntKind.u64.wrap y) } := by
  have hyw : IntKind.u64.wrap y = y := by rw [wrapU_mod]; omega
  rw [hyw]
  refine ⟨h.words, fun k' => ?_, fun p => ?_, h.row, h.now⟩
  · show (get (put G.leads k y) k').getD 0 = oget (oset U.L k y) k'
    rw [M.get_put, oget_oset]
    by_cases e : k' = k
    · rw [if_pos e, if_pos e]; rfl
    · rw [if_neg e, if_neg e]; exact h.leads k'
  · show 0 ≤ oget (oset U.L k y) p ∧ oget (oset U.L k y) p < _
    rw [oget_oset]
    split
    · exact hy
    · exact h.rng p
theorem Rel8.store (h : Rel8 G U) (ho : Once G.p.m) (k : K3) (id x y : Int) (st : Bool) (hy : 0 ≤ y ∧ y < 9223372036854775808) : Rel8 (gstoreG G k id x y st) (stU U k x y) :=
  (h.word ho k x (cstoreC G.p k x) rfl).lead k id y st hy
theorem Rel8.storeF (h : Rel8 G U) (k : K3) (id x y : Int) (st : Bool) : (gstoreG G k id x y st).faults = stF U k id st G.faults := by
  show (if st || staleR G k.1 k.2.1 id then wrap64 (G.faults + 1) else G.faults) = _
  rw [h.stale]
  rfl
theorem Rel8.swap (h : Rel8 G U) (ho : Once G.p.m) (k : K3) (id ox x y : Int) (b : Bool) (hy : 0 ≤ y ∧ y < 9223372036854775808) : Rel8 (gswapG G k id ox x y b) (if oget U.W k = ox then stU U k x y else U) := by
  unfold gswapG
  have e : cswapR G.p k ox = decide (oget U.W k = ox) := by unfold cswapR; rw [h.words]
  rw [e]
  by_cases hx : oget U.W k = ox
  · rw [if_pos (decide_eq_true hx), if_pos hx]
    refine (h.word ho k x (cswapC G.p k ox x) ?_).lead k id y b hy
    unfold cswapC
    rw [if_pos (by rw [h.words]; exact hx)]
  · rw [if_neg (by rw [decide_eq_false hx]; decide), if_neg hx]
    refine h.same ?_ rfl rfl rfl
    show (cswapC G.p k ox x).m = G.p.m
    unfold cswapC
    rw [if_neg (by rw [h.words]; exact hx)]
theorem Rel8.swapR (h : Rel8 G U) (k : K3) (ox : Int) : cswapR G.p k ox = decide (oget U.W k = ox) := by unfold cswapR; rw [h.words]
theorem Rel8.swapF (h : Rel8 G U) (k : K3) (id ox x y : Int) (b : Bool) : (gswapG G k id ox x y b).faults = if oget U.W k = ox then stF U k id b G.faults else G.faults := by
  unfold gswapG
  rw [h.swapR]
  by_cases hx : oget U.W k = ox
  · rw [if_pos (decide_eq_true hx), if_pos hx]
    show (if b || staleR G k.1 k.2.1 id then wrap64 (G.faults + 1) else G.faults) = _
    rw [h.stale]
    rfl
  · rw [if_neg (by rw [decide_eq_false hx]; decide), if_neg hx]
theorem swapS (k : K3) (id ox x y : Int) (b : Bool) : (gswapG G k id ox x y b).stale = G.stale := by
  unfold gswapG
  split <;> rfl
theorem Rel8.add (h : Rel8 G U) (ho : Once G.p.m) (k : K3) (n : Int) : Rel8 (gaddG G k n) { U with W := oset U.W k (IntKind.u64.wrap (oget U.W k + n)) } := by
  rw [← h.words]
  exact h.word ho k (IntKind.u64.wrap (getw G.p.m k + n)) (caddC G.p k n) rfl
theorem Rel8.born (h : Rel8 G U) (slot : Int) : Rel8 (gbornG G slot) { U with R := bornRow U.R slot } := by
  refine ⟨h.words, h.leads, h.rng, ?_, fun s => ?_⟩
  · show bornRow G.row slot = bornRow U.R slot
    rw [h.row]
  · show (get (bornNow G.now G.row slot) s).getD 0 = nowR (bornRow U.R slot) s
    unfold bornNow bornRow
    by_cases hs : slot < 1
    · rw [if_pos hs, if_pos hs]
      exact h.now s
    · rw [if_neg hs, if_neg hs, M.get_put, nowR_app, h.row]
      by_cases e : s = slot
      · rw [if_pos e, if_pos e.symm]
        rfl
      · rw [if_neg e, if_neg (fun q => e q.symm)]
        exact h.now s
theorem Rel8.load (h : Rel8 G U) (k : K3) (id : Int) : Rel8 (gloadG G k id) U := h.same rfl rfl rfl rfl
theorem Rel8.loadS (h : Rel8 G U) (k : K3) (id : Int) : (gloadG G k id).stale = if rst U k.1 k.2.1 id = true then wrap64 (G.stale + 1) else G.stale := by
  show (if staleR G k.1 k.2.1 id then wrap64 (G.stale + 1) else G.stale) = _
  rw [h.stale]
end
def StOk (G : GSt) (n : Nat) : Prop := 0 ≤ G.stale ∧ G.stale ≤ n
theorem stOk_same {G G' : GSt} {n : Nat} (h : StOk G n) (e : G'.stale = G.stale) : StOk G' (n + 1) := by
  unfold StOk at *
  rw [e]
  omega
theorem stOk_load {G : GSt} {n : Nat} (h : StOk G n) (hn : n ≤ 10000) (k : K3) (id : Int) : StOk (gloadG G k id) (n + 1) := by
  unfold StOk at *
  show 0 ≤ (if staleR G k.1 k.2.1 id then wrap64 (G.stale + 1) else G.stale) ∧ (if staleR G k.1 k.2.1 id then wrap64 (G.stale + 1) else G.stale) ≤ ((n + 1 : Nat) : Int)
  split
  · unfold wrap64
    omega
  · omega
theorem oset_len (l : List S143) (p : K3) (x : Int) : (oset l p x).length ≤ l.length + 1 := by
  induction l with
  | nil => exact Nat.le_refl _
  | cons a r ih =>
    simp only [oset]
    split
    · simp
    · simp only [List.length_cons]; omega
def Lok (U : RSt) (n : Nat) : Prop := U.W.length ≤ n ∧ U.L.length ≤ n ∧ U.R.length ≤ n
theorem lok_same {U : RSt} {n : Nat} (h : Lok U n) : Lok U (n + 1) := ⟨by have := h.1; omega, by have := h.2.1; omega, by have := h.2.2; omega⟩
theorem lok_set {U : RSt} {n : Nat} (h : Lok U n) (k : K3) (x y : Int) : Lok (stU U k x y) (n + 1) :=
  ⟨by have := h.1; have := oset_len U.W k x; show (oset U.W k x).length ≤ n + 1; omega, by have := h.2.1; have := oset_len U.L k (IntKind.u64.wrap y); show (oset U.L k (IntKind.u64.wrap y)).length ≤ n + 1; omega, by have := h.2.2; show U.R.length ≤ n + 1; omega⟩
theorem lok_setW {U : RSt} {n : Nat} (h : Lok U n) (k : K3) (x : Int) : Lok { U with W := oset U.W k x } (n + 1) :=
  ⟨by have := h.1; have := oset_len U.W k x; show (oset U.W k x).length ≤ n + 1; omega, by have := h.2.1; show U.L.length ≤ n + 1; omega, by have := h.2.2; show U.R.length ≤ n + 1; omega⟩
theorem lok_born {U : RSt} {n : Nat} (h : Lok U n) (s : Int) : Lok { U with R := bornRow U.R s } (n + 1) :=
  ⟨by have := h.1; show U.W.length ≤ n + 1; omega, by have := h.2.1; show U.L.length ≤ n + 1; omega, by
    have := h.2.2
    show (bornRow U.R s).length ≤ n + 1
    unfold bornRow
    split
    · omega
    · rw [List.length_append, List.length_singleton]; omega⟩
end Go.Proofs.Ytlpnggapndokeaa.PIdealKeeps

namespace Go.Proofs.Ytlpnggapndokeaa.PIdealKeeps
open Go Go.RowKit Go.Proofs.YtlpnggapndokeaaW.PrintWords Go.Proofs.YtlpnggapndokeaaW.PrintLast Go.Proofs.YtlpnggapndokeaaW.PrintMore Go.Proofs.Ytlpnggapndokeaa.M Go.Proofs.Ytlpnggapndokeaa.U
attribute [local go_sem] max2_int min2_int max_two min_two max_three min_three max_four min_four
set_option linter.unusedVariables false
set_option linter.unusedSimpArgs false
set_option maxHeartbeats 4000000 in
set_option maxRecDepth 100000 in
theorem soulCount_T (gs g3 : Nat) (v : Value) (now : List (Int × Int)) (row : List Int) (w0 w : World) (hI : SoulIs w0 w gs g3 v now row) :
    Calls Try.prog 29 #[.pointer (some ⟨gs, 0, none⟩)] w fun e w' => e = .returned (.int .i64 row.length) ∧ Below w.heap.size w w' := by
  have hu114 := Try.underlying114
  have c1 : w.cell? ⟨gs, 1, none⟩ = some v := (blk_cell hI.blk 1).trans rfl
  obtain ⟨A, c, e, _, _⟩ := Kd.R_reads hI.row
  subst e
  clear hI
  go_enter Try.func29, Try.ntmps29
  go_wp2_with fail
  go_ret
  exact ⟨rfl, Below.refl _ _⟩
end Go.Proofs.Ytlpnggapndokeaa.PIdealKeeps

