/-
The ideal memory and its reference, beside each other.
-/
import Derived.Test.YtlpnggapndokeaaRefA
import Derived.Test.YtlpnggapndokeaaGhost
import Derived.Test.YtlpnggapndokeaaIdealKinds
namespace Go.Proofs.Ytlpnggapndokeaa.PIdealKeeps
open Go Go.RowKit Go.Proofs.YtlpnggapndokeaaW.PrintWords Go.Proofs.YtlpnggapndokeaaW.PrintLast Go.Proofs.YtlpnggapndokeaaW.PrintMore Go.Proofs.Ytlpnggapndokeaa.M
attribute [local go_sem] max2_int min2_int max_two min_two max_three min_three max_four min_four
set_option linter.unusedVariables false
set_option linter.unusedSimpArgs false
theorem refS_after {w wa wb : World} {gu : Nat} {tu : TypeId} (hb : Below w.heap.size w wa) (k : Fr (RefS wa gu tu) wa wb) : Fr (RefS w gu tu) w wb :=
  ⟨Nat.le_trans hb.size k.1, fun j o hj hn => k.2 j o (blk_below hj hb) (fun x => hn ⟨hj, x.2⟩)⟩
theorem refS_trans {w wa wb : World} {gu : Nat} {tu : TypeId} (h : Fr (RefS w gu tu) w wa) (k : Fr (RefS wa gu tu) wa wb) : Fr (RefS w gu tu) w wb :=
  ⟨Nat.le_trans h.1 k.1, fun j o hj hn => k.2 j o (h.2 j o hj hn) (fun x => hn ⟨hj, x.2⟩)⟩
theorem refS_then {w wa wb : World} {gu : Nat} {tu : TypeId} (h : Fr (RefS w gu tu) w wa) (hb : Below wa.heap.size wa wb) : Fr (RefS w gu tu) w wb := h.below hb
set_option maxHeartbeats 4000000 in
set_option maxRecDepth 100000 in
theorem rset_T {w0 w : World} {gu : Nat} {orow : Option Nat} {U : RSt} (akd asl apt aid x y : Int) (h : RefAt w0 w gu 60 [] orow U) (hB : Below w0.heap.size w0 w) (hl : U.W.length ≤ 100000) (hl2 : U.L.length ≤ 100000) (h9 : akd ≠ 9) :
    Calls Try.prog 84 #[.pointer (some ⟨gu, 0, none⟩), .agg #[.int .i64 akd, .int .i64 asl, .int .i64 apt], .int .i64 aid, .int .u64 x, .int .i64 y] w (RefPost w0 w gu 60 [] orow { U with W := oset U.W (whereR akd asl apt aid) x, L := oset U.L (whereR akd asl apt aid) (IntKind.u64.wrap y) } (.tuple #[])) := by
  have hu23 := Try.underlying23
  have hu60 := Try.underlying60
  obtain ⟨⟨a, b, c⟩, hk⟩ : ∃ k, whereR akd asl apt aid = k := ⟨_, rfl⟩
  rw [hk]
  have HK := Aside0.mk hk
  have H9 := Aside0.mk h9
  have HL := Aside0.mk hl
  have HL2 := Aside0.mk hl2
  have X0 := Aside0.mk (blk_drew (blk_new w (.cells #[.int .i64 akd, .int .i64 asl, .int .i64 apt] 23)))
  have XI := Aside0.mk (h.alloc (.cells #[.int .i64 akd, .int .i64 asl, .int .i64 apt] 23)).drew
  have XB := Aside0.mk (below_drew (below_alloc hB (.cells #[.int .i64 akd, .int .i64 asl, .int .i64 apt] 23)))
  have XW := Aside0.mk (below_drew (below_alloc (Below.refl w.heap.size w) (.cells #[.int .i64 akd, .int .i64 asl, .int .i64 apt] 23)))
  clear h hB hl hl2 h9 hk
  go_enter Try.func84, Try.ntmps84
  go_wp2_with fail
  refine start_ (n := 8) (S := fun w' => w'.cell? ⟨w.heap.size, 0, none⟩ = some (.int .i64 akd) ∧ w'.cell? ⟨w.heap.size, 1, none⟩ = some (.int .i64 asl) ∧ w'.cell? ⟨w.heap.size, 2, none⟩ = some (.int .i64 apt)) (ds := [7]) #[false, false, false, false, false, false, false, false] (by kernel_rfl) rfl rfl ⟨(blk_cell X0.out 0).trans rfl, (blk_cell X0.out 1).trans rfl, (blk_cell X0.out 2).trans rfl⟩ (fun hHeld => ?_)
  refine pure_ (i := 0) (N := some 10) (v := ?_) (a' := ?_) #[true, false, false, false, false, false, false, false] rfl rfl (by kernel_rfl) (fun _ _ _ h => h) (Or.inl ⟨by rfl, ?_⟩) ?_ ?_
  rotate_left
  · intro w'
    go_simp
    with_reducible rfl
  rotate_left
  · simp only [Act.put, List.setIfInBounds_toArray, List.set_cons_zero, List.set_cons_succ, i64_w, i32_w]
    rfl
  refine pure_ (i := 1) (N := some 11) (v := ?_) (a' := ?_) #[true, true, false, false, false, false, false, false] rfl rfl (by kernel_rfl) (fun _ _ _ h => h) (Or.inl ⟨by rfl, ?_⟩) ?_ ?_
  rotate_left
  · intro w'
    go_simp
    with_reducible rfl
  rotate_left
  · simp only [Act.put, List.setIfInBounds_toArray, List.set_cons_zero, List.set_cons_succ, i64_w, i32_w]
    rfl
  refine pure_ (i := 2) (N := some 12) (v := ?_) (a' := ?_) #[true, true, true, false, false, false, false, false] rfl rfl (by kernel_rfl) (fun _ _ _ h => h) (Or.inl ⟨by rfl, ?_⟩) ?_ ?_
  rotate_left
  · intro w'
    go_simp
    with_reducible rfl
  rotate_left
  · simp only [Act.put, List.setIfInBounds_toArray, List.set_cons_zero, List.set_cons_succ, i64_w, i32_w]
    rfl
  refine pure_ (i := 4) (N := some 14) (v := ?_) (a' := ?_) #[true, true, true, false, true, false, false, false] rfl rfl (by kernel_rfl) (fun _ _ _ h => h) (Or.inl ⟨by rfl, ?_⟩) ?_ ?_
  rotate_left
  · intro w'
    go_simp
    with_reducible rfl
  rotate_left
  · simp only [Act.put, List.setIfInBounds_toArray, List.set_cons_zero, List.set_cons_succ, i64_w, i32_w]
    rfl
  refine pure_ (i := 6) (N := some 16) (v := ?_) (a' := ?_) #[true, true, true, false, true, false, true, false] rfl rfl (by kernel_rfl) (fun _ _ _ h => h) (Or.inl ⟨by rfl, ?_⟩) ?_ ?_
  rotate_left
  · intro w'
    go_simp
    with_reducible rfl
  rotate_left
  · simp only [Act.put, List.setIfInBounds_toArray, List.set_cons_zero, List.set_cons_succ, i64_w, i32_w]
    rfl
  refine take_ (i := 3) (N := some 13) (v := ?_) (a' := ?_) #[true, true, true, true, true, false, true, false] rfl rfl (by kernel_rfl) (fun _ _ _ h => h) (Or.inl ⟨by rfl, ?_⟩) hHeld ?_ ?_
  rotate_left
  · rintro w' ⟨s0, s1, s2⟩
    go_simp
    with_reducible rfl
  rotate_left
  · simp only [Act.put, List.setIfInBounds_toArray, List.set_cons_zero, List.set_cons_succ, i64_w, i32_w]
    rfl
  refine one_ (i := 5) (N := some 15) #[true, true, true, true, true, true, true, false] rfl rfl (by kernel_rfl) (by decide) (fun K hK => ?_)
  refine goes_ Try.func82 (by kernel_rfl) rfl #[.agg #[.int .i64 akd, .int .i64 asl, .int .i64 apt], .int .i64 aid] (by rfl) rfl rfl (by simp only [List.map_toArray, List.map_cons, List.map_nil]; rfl) ?_
  with_reducible refine (where_T akd asl apt aid a b c _ H9.out HK.out).mono ?_
  rintro e w2 ⟨rfl, hb⟩
  refine ⟨_, rfl, ?_⟩
  have YI := Aside0.mk (XI.out.below hb)
  have YJ := Aside0.mk (below_step XB.out hb)
  have YB := Aside0.mk (blk_below X0.out hb)
  have YW := Aside0.mk (below_step XW.out hb)
  clear hb
  refine hK.out _ _ ⟨(blk_cell YB.out 0).trans rfl, (blk_cell YB.out 1).trans rfl, (blk_cell YB.out 2).trans rfl⟩ (fun hHeld => ?_)
  clear hK K
  refine norm_ (a' := ?_) ?_ ?_
  rotate_left
  · show Act.put _ (some 15) _ = _
    simp only [Act.put, List.setIfInBounds_toArray, List.set_cons_zero, List.set_cons_succ, i64_w, i32_w]
    rfl
  refine last_ (i := 7) (N := some 17) #[true, true, true, true, true, true, true, true] rfl rfl (by kernel_rfl) (by decide) (fun K hK => ?_)
  refine goes_ Try.func85 (by kernel_rfl) rfl #[.pointer (some ⟨gu, 0, none⟩), .agg #[.int .i64 a, .int .i64 b, .int .i64 c], .int .u64 x] (by rfl) rfl rfl (by simp only [List.map_toArray, List.map_cons, List.map_nil]; rfl) ?_
  with_reducible refine (rsetW_T a b c x YI.out YJ.out (by decide) HL.out).mono ?_
  rintro e w3 ⟨rfl, h1_, h2_, h3_⟩
  refine ⟨_, rfl, ?_⟩
  have ZI := Aside0.mk h1_.drew
  have ZJ := Aside0.mk (below_drew h2_)
  have ZB := Aside0.mk (blk_drew (refS_stays h3_ YB.out (by decide) (by decide)))
  have ZW := Aside0.mk (Fr.drew (refS_after YW.out h3_))
  clear h1_ h2_ h3_
  refine hK.out _ _ ?_
  clear hK K
  refine norm_ (a' := ?_) ?_ ?_
  rotate_left
  · show Act.put _ (some 17) _ = _
    simp only [Act.put, List.setIfInBounds_toArray, List.set_cons_zero, List.set_cons_succ, i64_w, i32_w]
    rfl
  refine done_ (by kernel_rfl) ?_
  go_wp2_with fail
  refine start_ (n := 9) (S := fun w' => w'.cell? ⟨w.heap.size, 0, none⟩ = some (.int .i64 akd) ∧ w'.cell? ⟨w.heap.size, 1, none⟩ = some (.int .i64 asl) ∧ w'.cell? ⟨w.heap.size, 2, none⟩ = some (.int .i64 apt)) (ds := [8]) #[false, false, false, false, false, false, false, false, false] (by kernel_rfl) rfl rfl ⟨(blk_cell ZB.out 0).trans rfl, (blk_cell ZB.out 1).trans rfl, (blk_cell ZB.out 2).trans rfl⟩ (fun hHeld => ?_)
  refine pure_ (i := 0) (N := some 18) (v := ?_) (a' := ?_) #[true, false, false, false, false, false, false, false, false] rfl rfl (by kernel_rfl) (fun _ _ _ h => h) (Or.inl ⟨by rfl, ?_⟩) ?_ ?_
  rotate_left
  · intro w'
    go_simp
    with_reducible rfl
  rotate_left
  · simp only [Act.put, List.setIfInBounds_toArray, List.set_cons_zero, List.set_cons_succ, i64_w, i32_w]
    rfl
  refine pure_ (i := 1) (N := some 19) (v := ?_) (a' := ?_) #[true, true, false, false, false, false, false, false, false] rfl rfl (by kernel_rfl) (fun _ _ _ h => h) (Or.inl ⟨by rfl, ?_⟩) ?_ ?_
  rotate_left
  · intro w'
    go_simp
    with_reducible rfl
  rotate_left
  · simp only [Act.put, List.setIfInBounds_toArray, List.set_cons_zero, List.set_cons_succ, i64_w, i32_w]
    rfl
  refine pure_ (i := 2) (N := some 20) (v := ?_) (a' := ?_) #[true, true, true, false, false, false, false, false, false] rfl rfl (by kernel_rfl) (fun _ _ _ h => h) (Or.inl ⟨by rfl, ?_⟩) ?_ ?_
  rotate_left
  · intro w'
    go_simp
    with_reducible rfl
  rotate_left
  · simp only [Act.put, List.setIfInBounds_toArray, List.set_cons_zero, List.set_cons_succ, i64_w, i32_w]
    rfl
  refine pure_ (i := 4) (N := some 22) (v := ?_) (a' := ?_) #[true, true, true, false, true, false, false, false, false] rfl rfl (by kernel_rfl) (fun _ _ _ h => h) (Or.inl ⟨by rfl, ?_⟩) ?_ ?_
  rotate_left
  · intro w'
    go_simp
    with_reducible rfl
  rotate_left
  · simp only [Act.put, List.setIfInBounds_toArray, List.set_cons_zero, List.set_cons_succ, i64_w, i32_w]
    rfl
  refine pure_ (i := 6) (N := some 24) (v := ?_) (a' := ?_) #[true, true, true, false, true, false, true, false, false] rfl rfl (by kernel_rfl) (fun _ _ _ h => h) (Or.inl ⟨by rfl, ?_⟩) ?_ ?_
  rotate_left
  · intro w'
    go_simp
    with_reducible rfl
  rotate_left
  · simp only [Act.put, List.setIfInBounds_toArray, List.set_cons_zero, List.set_cons_succ, i64_w, i32_w]
    rfl
  refine pure_ (i := 7) (N := some 25) (v := ?_) (a' := ?_) #[true, true, true, false, true, false, true, true, false] rfl rfl (by kernel_rfl) (fun _ _ _ h => h) (Or.inl ⟨by rfl, ?_⟩) ?_ ?_
  rotate_left
  · intro w'
    go_simp
    with_reducible rfl
  rotate_left
  · simp only [Act.put, List.setIfInBounds_toArray, List.set_cons_zero, List.set_cons_succ, i64_w, i32_w]
    rfl
  refine take_ (i := 3) (N := some 21) (v := ?_) (a' := ?_) #[true, true, true, true, true, false, true, true, false] rfl rfl (by kernel_rfl) (fun _ _ _ h => h) (Or.inl ⟨by rfl, ?_⟩) hHeld ?_ ?_
  rotate_left
  · rintro w' ⟨s0, s1, s2⟩
    go_simp
    with_reducible rfl
  rotate_left
  · simp only [Act.put, List.setIfInBounds_toArray, List.set_cons_zero, List.set_cons_succ, i64_w, i32_w]
    rfl
  refine one_ (i := 5) (N := some 23) #[true, true, true, true, true, true, true, true, false] rfl rfl (by kernel_rfl) (by decide) (fun K hK => ?_)
  refine goes_ Try.func82 (by kernel_rfl) rfl #[.agg #[.int .i64 akd, .int .i64 asl, .int .i64 apt], .int .i64 aid] (by rfl) rfl rfl (by simp only [List.map_toArray, List.map_cons, List.map_nil]; rfl) ?_
  with_reducible refine (where_T akd asl apt aid a b c _ H9.out HK.out).mono ?_
  rintro e w5 ⟨rfl, hb⟩
  refine ⟨_, rfl, ?_⟩
  have VI := Aside0.mk (ZI.out.below hb)
  have VJ := Aside0.mk (below_step ZJ.out hb)
  have VB := Aside0.mk (blk_below ZB.out hb)
  have VW := Aside0.mk (ZW.out.below hb)
  clear hb
  refine hK.out _ _ ⟨(blk_cell VB.out 0).trans rfl, (blk_cell VB.out 1).trans rfl, (blk_cell VB.out 2).trans rfl⟩ (fun hHeld => ?_)
  clear hK K
  refine norm_ (a' := ?_) ?_ ?_
  rotate_left
  · show Act.put _ (some 23) _ = _
    simp only [Act.put, List.setIfInBounds_toArray, List.set_cons_zero, List.set_cons_succ, i64_w, i32_w]
    rfl
  refine last_ (i := 8) (N := some 26) #[true, true, true, true, true, true, true, true, true] rfl rfl (by kernel_rfl) (by decide) (fun K hK => ?_)
  refine goes_ Try.func85 (by kernel_rfl) rfl #[.pointer (some ⟨gu, 1, none⟩), .agg #[.int .i64 a, .int .i64 b, .int .i64 c], .int .u64 (IntKind.u64.wrap y)] (by rfl) rfl rfl (by simp only [List.map_toArray, List.map_cons, List.map_nil]; rfl) ?_
  with_reducible refine (rsetL_T a b c (IntKind.u64.wrap y) VI.out VJ.out (by decide) HL2.out).mono ?_
  rintro e w6 ⟨rfl, h1_, h2_, h3_⟩
  refine ⟨_, rfl, ?_⟩
  have UI := Aside0.mk h1_
  have UJ := Aside0.mk h2_
  have UW := Aside0.mk (refS_trans VW.out h3_)
  clear h1_ h2_ h3_
  refine hK.out _ _ ?_
  clear hK K
  refine norm_ (a' := ?_) ?_ ?_
  rotate_left
  · show Act.put _ (some 26) _ = _
    simp only [Act.put, List.setIfInBounds_toArray, List.set_cons_zero, List.set_cons_succ, i64_w, i32_w]
    rfl
  refine done_ (by kernel_rfl) ?_
  go_wp2_with fail
  exact bodyPost_ret (results_none rfl _ _ _) rfl ⟨rfl, UI.out, UJ.out, UW.out⟩
end Go.Proofs.Ytlpnggapndokeaa.PIdealKeeps

namespace Go.Proofs.Ytlpnggapndokeaa.PIdealKeeps
open Go Go.RowKit Go.Proofs.YtlpnggapndokeaaW.PrintWords Go.Proofs.YtlpnggapndokeaaW.PrintLast Go.Proofs.YtlpnggapndokeaaW.PrintMore Go.Proofs.Ytlpnggapndokeaa.M Go.Proofs.Ytlpnggapndokeaa.U
attribute [local go_sem] max2_int min2_int max_two min_two max_three min_three max_four min_four
set_option linter.unusedVariables false
set_option linter.unusedSimpArgs false
section
variable {w0 w w1 : World} {gi g1 g2 gs g3 gu : Nat} {A A' : ISt} {U U' : RSt} {S : Nat → Obj → Prop}
theorem idealT_no (h : IdealIs w0 w gi g1 g2 gs g3 A) {p : Nat} {cs : Array Value} {t : TypeId} (hb : w.heap[p]? = some (.cells cs t (0, 0))) (n1 : t ≠ 103) (o : Obj) : ¬ IdealT gi g1 g2 p o := by
  rintro (e | e | e | e)
  · subst e; exact blk_ne hb h.blk n1 rfl
  · exact mapIs_ne h.words hb e
  · exact mapIs_ne h.leads hb e
  · exact e
theorem IdealIs.staysT (h : IdealIs w0 w gi g1 g2 gs g3 A) (hf : Fr (IdealT gi g1 g2) w w1) {p : Nat} {cs : Array Value} {t : TypeId} (hb : w.heap[p]? = some (.cells cs t (0, 0))) (n1 : t ≠ 103) : w1.heap[p]? = some (.cells cs t (0, 0)) := hf.blk hb (idealT_no h hb n1 _)
theorem rowS_no9 (h : IdealIs w0 w gi g1 g2 gs g3 A) {p : Nat} {cs : Array Value} {t : TypeId} (hb : w.heap[p]? = some (.cells cs t (0, 0))) (n1 : t ≠ 114) (n2 : t ≠ 3) (o : Obj) : ¬ RowS gs g3 (rowAt w gs) p o := by
  obtain ⟨v, hv⟩ := h.soul
  rintro (e | e | e)
  · subst e; exact blk_ne hb hv.blk n1 rfl
  · exact mapIs_ne hv.map hb e
  · rw [hv.rowAt] at e
    obtain ⟨cells, hc⟩ := Kd.R_typed hv.row p e.symm
    rw [hb] at hc
    injection hc with hc
    injection hc with _ hc
    exact n2 hc
theorem IdealIs.staysB (h : IdealIs w0 w gi g1 g2 gs g3 A) (hf : Fr (RowS gs g3 (rowAt w gs)) w w1) {p : Nat} {cs : Array Value} {t : TypeId} (hb : w.heap[p]? = some (.cells cs t (0, 0))) (n1 : t ≠ 114) (n2 : t ≠ 3) : w1.heap[p]? = some (.cells cs t (0, 0)) := hf.blk hb (rowS_no9 h hb n1 n2 _)
/-- By kinds: blocks that a call may turn. -/
theorem IdealIs.frs (h : IdealIs w0 w gi g1 g2 gs g3 A) (hf : Fr S w w1) (hs : ∀ j o, w.heap[j]? = some o → S j o → ¬ IsT 103 o ∧ ¬ IsT 114 o ∧ (∀ es c, o ≠ .map es c) ∧ some j ≠ rowAt w gs) : IdealIs w0 w1 gi g1 g2 gs g3 A := by
  obtain ⟨v, hv⟩ := h.soul
  have hm : ∀ {K V : Type} {ek : K → Value} {ev : V → Value} {g : Nat} {m : List (K × V)}, MapIs ek ev w g m → MapIs ek ev w1 g m := by
    intro K V ek ev g m hm
    obtain ⟨es, c, hb, he⟩ := hm
    exact ⟨es, c, hf.2 g _ hb (fun x => (hs _ _ hb x).2.2.1 _ _ rfl), he⟩
  refine ⟨hf.blk h.blk (fun x => (hs _ _ h.blk x).1 ⟨_, rfl⟩), hm h.words, hm h.leads, ⟨v, hf.blk hv.blk (fun x => (hs _ _ hv.blk x).2.1 ⟨_, rfl⟩), hm hv.map, row_kept rfl hv.row hf (fun k o hk hj _ x => (hs k o hj x).2.2.2 (by rw [hv.rowAt]; exact hk.symm)), hv.b1, hv.b2⟩, h.b0, h.b1, h.b2, h.n12, h.n13, h.n23⟩
theorem IdealIs.rowAt_lt (h : IdealIs w0 w gi g1 g2 gs g3 A) : ∀ k, rowAt w gs = some k → k < w.heap.size := by
  obtain ⟨v, hv⟩ := h.soul
  exact hv.row_lt
theorem IdealIs.rowTy (h : IdealIs w0 w gi g1 g2 gs g3 A) {k : Nat} (hk : rowAt w gs = some k) {o : Obj} (ho : w.heap[k]? = some o) : IsT 3 o := by
  obtain ⟨v, hv⟩ := h.soul
  rw [hv.rowAt] at hk
  exact row_ok hv.row k hk o ho
theorem IdealIs.rowSame (h : IdealIs w0 w gi g1 g2 gs g3 A) (hk : ∀ cs, w.heap[gs]? = some (.cells cs 114 (0, 0)) → w1.heap[gs]? = some (.cells cs 114 (0, 0))) : rowAt w1 gs = rowAt w gs := by
  obtain ⟨v, hv⟩ := h.soul
  exact rowAt_of ((hk _ hv.blk).trans hv.blk.symm)
/-- An ideal memory and the reference, beside each other. -/
structure Ref9 (w0 w : World) (gi g1 g2 gs g3 gu : Nat) (A : ISt) (U : RSt) : Prop where
  I : IdealIs w0 w gi g1 g2 gs g3 A
  R : RefAt w0 w gu 60 [] (rowAt w gs) U
theorem Ref9.below (h : Ref9 w0 w gi g1 g2 gs g3 gu A U) (hb : Below w.heap.size w w1) : Ref9 w0 w1 gi g1 g2 gs g3 gu A U := by
  refine ⟨h.I.below hb, ?_⟩
  rw [h.I.rowSame (fun cs hc => blk_below hc hb)]
  exact h.R.below hb
theorem Ref9.alloc (h : Ref9 w0 w gi g1 g2 gs g3 gu A U) (o : Obj) : Ref9 w0 (w.alloc o) gi g1 g2 gs g3 gu A U := h.below (below_alloc (Below.refl _ _) o)
theorem Ref9.drew (h : Ref9 w0 w gi g1 g2 gs g3 gu A U) : Ref9 w0 w.drew gi g1 g2 gs g3 gu A U := h.below (below_drew (Below.refl _ _))
theorem Ref9.iT (h : Ref9 w0 w gi g1 g2 gs g3 gu A U) (h1 : IdealIs w0 w1 gi g1 g2 gs g3 A') (hf : Fr (IdealT gi g1 g2) w w1) : Ref9 w0 w1 gi g1 g2 gs g3 gu A' U := by
  refine ⟨h1, ?_⟩
  rw [h.I.rowSame (fun cs hc => h.I.staysT hf hc (by decide))]
  refine h.R.fr1 hf ?_
  rintro j o hj (⟨_, cs, rfl⟩ | ⟨cs, rfl⟩ | ⟨cs, rfl⟩)
  · exact idealT_no h.I hj (by decide) _
  · exact idealT_no h.I hj (by decide) _
  · exact idealT_no h.I hj (by decide) _
theorem Ref9.iB (h : Ref9 w0 w gi g1 g2 gs g3 gu A U) (h1 : IdealIs w0 w1 gi g1 g2 gs g3 A') (hf : Fr (RowS gs g3 (rowAt w gs)) w w1) (hr : rowAt w1 gs = rowAt w gs ∨ ∃ b, rowAt w1 gs = some b ∧ w.heap.size ≤ b) : Ref9 w0 w1 gi g1 g2 gs g3 gu A' U := by
  refine ⟨h1, h.R.fr hf ?_ (fun k hk => ⟨?_, h1.rowAt_lt k hk⟩)⟩
  · rintro j o hj (⟨_, cs, rfl⟩ | ⟨cs, rfl⟩ | ⟨ne, cs, rfl⟩)
    · exact rowS_no9 h.I hj (by decide) (by decide) _
    · exact rowS_no9 h.I hj (by decide) (by decide) _
    · obtain ⟨v, hv⟩ := h.I.soul
      rintro (e | e | e)
      · subst e; exact blk_ne hj hv.blk (by decide) rfl
      · exact mapIs_ne hv.map hj e
      · exact ne e
  · rcases hr with hr | ⟨b, hr, hb⟩
    · exact .inl (hr ▸ hk)
    · rw [hr] at hk
      injection hk with hk
      exact .inr (by omega)
theorem Ref9.uS (h : Ref9 w0 w gi g1 g2 gs g3 gu A U) (h1 : RefAt w0 w1 gu 60 [] (rowAt w gs) U') (hf : Fr (RefS w gu 60) w w1) : Ref9 w0 w1 gi g1 g2 gs g3 gu A U' := by
  refine ⟨h.I.frs hf ?_, ?_⟩
  · intro j o hj x
    have ht0 : IsT 60 o ∨ IsT 143 o := x.2.imp (fun y => y.2) id
    obtain ⟨t, cs, rfl, ht⟩ : ∃ t cs, o = .cells cs t (0, 0) ∧ (t = 60 ∨ t = 143) := by
      rcases ht0 with ⟨cs, rfl⟩ | ⟨cs, rfl⟩
      · exact ⟨60, cs, rfl, .inl rfl⟩
      · exact ⟨143, cs, rfl, .inr rfl⟩
    refine ⟨fun y => ?_, fun y => ?_, fun es c e => (by cases e), fun e => ?_⟩
    · have := isT_eq y; rcases ht with rfl | rfl <;> exact absurd this (by decide)
    · have := isT_eq y; rcases ht with rfl | rfl <;> exact absurd this (by decide)
    · have := isT_eq (h.I.rowTy e.symm hj)
      rcases ht with rfl | rfl <;> exact absurd this (by decide)
  · rw [h.I.rowSame (fun cs hc => refS_stays hf hc (by decide) (by decide))]
    exact h1
theorem Ref9.uB (h : Ref9 w0 w gi g1 g2 gs g3 gu A U) (h1 : RefAt w0 w1 gu 60 [] (rowAt w gs) U') (hf : Fr (RefB w gu 60 (rowAt w gs)) w w1) : Ref9 w0 w1 gi g1 g2 gs g3 gu A U' := by
  refine ⟨h.I.frs hf ?_, ?_⟩
  · intro j o hj x
    refine ⟨fun y => ?_, fun y => ?_, fun es c e => ?_, fun e => ?_⟩
    · obtain ⟨cs, rfl⟩ := y
      rcases x.2 with ⟨_, z⟩ | ⟨_, z⟩ <;> exact absurd (isT_eq z) (by decide)
    · obtain ⟨cs, rfl⟩ := y
      rcases x.2 with ⟨_, z⟩ | ⟨_, z⟩ <;> exact absurd (isT_eq z) (by decide)
    · subst e
      rcases x.2 with ⟨_, z⟩ | ⟨_, z⟩ <;> exact isT_map z
    · rcases x.2 with ⟨_, z⟩ | ⟨z, _⟩
      · obtain ⟨cs, rfl⟩ := z
        exact absurd (isT_eq (h.I.rowTy e.symm hj)) (by decide)
      · exact z e
  · rw [h.I.rowSame (fun cs hc => refB_stays hf hc (by decide) (by decide))]
    exact h1
end
set_option maxHeartbeats 4000000 in
set_option maxRecDepth 100000 in
theorem iborn_U (gi g1 g2 gs g3 : Nat) (A : ISt) (slot : Int) (w0 w : World) (hI : IdealIs w0 w gi g1 g2 gs g3 A) (hB : Below w0.heap.size w0 w) (hl : A.row.length ≤ 100000) :
    Calls Try.prog 20 #[.pointer (some ⟨gi, 0, none⟩), .int .i64 slot] w fun e w' => e = .returned (.int .i64 (bornId A.row slot)) ∧ IdealIs w0 w' gi g1 g2 gs g3 (bornA A slot) ∧ Below w0.heap.size w0 w' ∧ Fr (RowS gs g3 (rowAt w gs)) w w' ∧ (rowAt w' gs = rowAt w gs ∨ ∃ b, rowAt w' gs = some b ∧ w.heap.size ≤ b) := by
  have HI := Aside0.mk hI
  have HB := Aside0.mk hB
  have HL := Aside0.mk hl
  clear hI hB hl
  go_enter Try.func20, Try.ntmps20
  go_wp2_with fail
  refine (isouls_T gi g1 g2 gs g3 A w0 _ HI.out).mono ?_
  rintro e w1 ⟨rfl, rfl⟩
  obtain ⟨v, hv⟩ := HI.out.soul
  have HV := Aside0.mk hv
  clear hv
  go_wp2_with fail
  refine (soulBorn_U gs g3 v A.now A.row slot w0 _ HV.out HB.out HL.out).mono ?_
  rintro e w2 ⟨rfl, ⟨v', h1, h4⟩, h2, h3⟩
  have hS : Fr (SoulS gs g3) w1 w2 := ⟨h3.1, fun j o hj hs => h3.2 j o hj (fun x => by
    rcases x with x | x | x
    · exact hs (.inl x)
    · exact hs (.inr (.inl x))
    · exact hs (.inr (.inr (row_ok HV.out.row j x.symm o hj))))⟩
  have R1 := Aside0.mk (HI.out.souls hS ⟨v', h1⟩)
  have R2 := Aside0.mk h2
  have R3 := Aside0.mk (show Fr (RowS gs g3 (rowAt w1 gs)) w1 w2 by rw [HV.out.rowAt]; exact h3)
  have R4 := Aside0.mk (show rowAt w2 gs = rowAt w1 gs ∨ ∃ b, rowAt w2 gs = some b ∧ w1.heap.size ≤ b by rw [HV.out.rowAt, h1.rowAt]; exact h4)
  clear h1 h2 h3 h4 hS
  go_wp2_with fail
  go_ret
  exact ⟨rfl, R1.out, R2.out, R3.out, R4.out⟩
set_option maxHeartbeats 4000000 in
set_option maxRecDepth 100000 in
theorem soulCount_T (gs g3 : Nat) (v : Value) (now : List (Int × Int)) (row : List Int) (w0 w : World) (hI : SoulIs w0 w gs g3 v now row) :
    Calls Try.prog 29 #[.pointer (some ⟨gs, 0, none⟩)] w fun e w' => e = .returned (.int .i64 row.length) ∧ Below w.heap.size w w' := by
  have hu114 := Try.underlying114
  have c1 : w.cell? ⟨gs, 1, none⟩ = some v := (blk_cell hI.blk 1).trans rfl
  obtain ⟨A, c, e, _, _⟩ := Kd.R_reads hI.row
  subst e
  clear hI
  go_enter Try.func29, Try.ntmps29
  go_wp2_with fail
  go_ret
  exact ⟨rfl, Below.refl _ _⟩
/-- The two memories tell the same. -/
structure Rel9 (A : ISt) (U : RSt) : Prop where
  words : ∀ kd sl pt id, kd ≠ 9 → (get A.words (ofK kd sl pt id)).getD 0 = oget U.W (whereR kd sl pt id)
  leads : ∀ kd sl pt id, kd ≠ 9 → (get A.leads (ofK kd sl pt id)).getD 0 = oget U.L (whereR kd sl pt id)
  rng : ∀ p, 0 ≤ oget U.L p ∧ oget U.L p < 9223372036854775808
  row : A.row = U.R
  now : ∀ s, (get A.now s).getD 0 = nowR U.R s
def U0 : RSt := ⟨[], [], []⟩
theorem rel9_0 : Rel9 A0 U0 := ⟨fun _ _ _ _ _ => rfl, fun _ _ _ _ _ => rfl, fun _ => ⟨Int.le_refl _, by show (0 : Int) < _; decide⟩, rfl, fun _ => rfl⟩
theorem Rel9.same {A A' : ISt} {U : RSt} (h : Rel9 A U) (h1 : A'.words = A.words) (h2 : A'.leads = A.leads) (h3 : A'.now = A.now) (h4 : A'.row = A.row) : Rel9 A' U :=
  ⟨fun kd sl pt id x => by rw [h1]; exact h.words kd sl pt id x, fun kd sl pt id x => by rw [h2]; exact h.leads kd sl pt id x, h.rng, h4.trans h.row, fun s => by rw [h3]; exact h.now s⟩
theorem Rel9.word {A : ISt} {U : RSt} (h : Rel9 A U) {kd sl pt id : Int} (h9 : kd ≠ 9) (x : Int) : Rel9 { A with words := put A.words (ofK kd sl pt id) x } { U with W := oset U.W (whereR kd sl pt id) x } := by
  refine ⟨fun kd' sl' pt' id' h9' => ?_, h.leads, h.rng, h.row, h.now⟩
  show (get (put A.words (ofK kd sl pt id) x) (ofK kd' sl' pt' id')).getD 0 = oget (oset U.W (whereR kd sl pt id) x) (whereR kd' sl' pt' id')
  rw [M.get_put, oget_oset]
  by_cases e : ofK kd' sl' pt' id' = ofK kd sl pt id
  · rw [if_pos e, if_pos ((where_inj h9' h9).2 e)]
    rfl
  · rw [if_neg e, if_neg (fun q => e ((where_inj h9' h9).1 q))]
    exact h.words kd' sl' pt' id' h9'
theorem Rel9.lead {A : ISt} {U : RSt} (h : Rel9 A U) {kd sl pt id : Int} (h9 : kd ≠ 9) (y : Int) (hy : 0 ≤ y ∧ y < 9223372036854775808) : Rel9 { A with leads := put A.leads (ofK kd sl pt id) y } { U with L := oset U.L (whereR kd sl pt id) (IntKind.u64.wrap y) } := by
  have hyw : IntKind.u64.wrap y = y := by
    rw [wrapU_mod]; omega
  rw [hyw]
  refine ⟨h.words, fun kd' sl' pt' id' h9' => ?_, fun p => ?_, h.row, h.now⟩
  · show (get (put A.leads (ofK kd sl pt id) y) (ofK kd' sl' pt' id')).getD 0 = oget (oset U.L (whereR kd sl pt id) y) (whereR kd' sl' pt' id')
    rw [M.get_put, oget_oset]
    by_cases e : ofK kd' sl' pt' id' = ofK kd sl pt id
    · rw [if_pos e, if_pos ((where_inj h9' h9).2 e)]
      rfl
    · rw [if_neg e, if_neg (fun q => e ((where_inj h9' h9).1 q))]
      exact h.leads kd' sl' pt' id' h9'
  · show 0 ≤ oget (oset U.L (whereR kd sl pt id) y) p ∧ oget (oset U.L (whereR kd sl pt id) y) p < _
    rw [oget_oset]
    split
    · exact hy
    · exact h.rng p
theorem Rel9.put2 {A : ISt} {U : RSt} (h : Rel9 A U) {kd sl pt id : Int} (h9 : kd ≠ 9) (x y : Int) (hy : 0 ≤ y ∧ y < 9223372036854775808) : Rel9 (putA A (ofK kd sl pt id) x y) { U with W := oset U.W (whereR kd sl pt id) x, L := oset U.L (whereR kd sl pt id) (IntKind.u64.wrap y) } :=
  (h.word h9 x).lead h9 y hy
theorem Rel9.born {A : ISt} {U : RSt} (h : Rel9 A U) (slot : Int) : Rel9 (bornA A slot) { U with R := bornRow U.R slot } := by
  refine ⟨h.words, h.leads, h.rng, ?_, fun s => ?_⟩
  · show bornRow A.row slot = bornRow U.R slot
    rw [h.row]
  · show (get (bornNow A.now A.row slot) s).getD 0 = nowR (bornRow U.R slot) s
    unfold bornNow bornRow
    by_cases hs : slot < 1
    · rw [if_pos hs, if_pos hs]
      exact h.now s
    · rw [if_neg hs, if_neg hs, M.get_put, nowR_app, h.row]
      by_cases e : s = slot
      · rw [if_pos e, if_pos e.symm]
        rfl
      · rw [if_neg e, if_neg (fun q => e q.symm)]
        exact h.now s
theorem oset_len (l : List S143) (p : K3) (x : Int) : (oset l p x).length ≤ l.length + 1 := by
  induction l with
  | nil => exact Nat.le_refl _
  | cons a r ih =>
    simp only [oset]
    split
    · simp
    · simp only [List.length_cons]; omega
/-- How many accesses were counted. -/
def Cok (A : ISt) (n : Int) : Prop := 0 ≤ A.c1 ∧ 0 ≤ A.c2 ∧ 0 ≤ A.c3 ∧ 0 ≤ A.c5 ∧ A.c1 + A.c2 + A.c3 + A.c5 = n
def Lok (U : RSt) (n : Nat) : Prop := U.W.length ≤ n ∧ U.L.length ≤ n ∧ U.R.length ≤ n
end Go.Proofs.Ytlpnggapndokeaa.PIdealKeeps

namespace Go.Proofs.Ytlpnggapndokeaa.PIdealKeeps
open Go Go.RowKit Go.Proofs.YtlpnggapndokeaaW.PrintWords Go.Proofs.YtlpnggapndokeaaW.PrintLast Go.Proofs.YtlpnggapndokeaaW.PrintMore Go.Proofs.Ytlpnggapndokeaa.M Go.Proofs.Ytlpnggapndokeaa.U
attribute [local go_sem] max2_int min2_int max_two min_two max_three min_three max_four min_four
set_option linter.unusedVariables false
set_option linter.unusedSimpArgs false
/-- What an act leaves: both memories, told of each other. -/
def D9Post (w0 : World) (gi g1 g2 gs g3 gu : Nat) (n : Nat) (m : Int) (e : Ending) (w' : World) : Prop :=
  e = .returned (.bool true) ∧ ∃ A' U', Ref9 w0 w' gi g1 g2 gs g3 gu A' U' ∧ Rel9 A' U' ∧ Below w0.heap.size w0 w' ∧ Lok U' (n + 1) ∧ Cok A' m
theorem wrap_one {x : Int} (h : 0 ≤ x) (h2 : x ≤ 100000) : wrap64 (x + 1) = x + 1 := by unfold wrap64; omega
theorem cok_load {A : ISt} {m : Int} (h : Cok A m) (hm : m ≤ 10000) : Cok (loadA A) (m + 1) := by
  obtain ⟨h1, h2, h3, h5, hs⟩ := h
  have e : (loadA A).c1 = A.c1 + 1 := wrap_one h1 (by omega)
  exact ⟨by rw [e]; omega, h2, h3, h5, by rw [e]; show A.c1 + 1 + A.c2 + A.c3 + A.c5 = m + 1; omega⟩
theorem cok_store {A : ISt} {m : Int} (h : Cok A m) (hm : m ≤ 10000) (k : K4) (x y : Int) : Cok (storeA A k x y) (m + 1) := by
  obtain ⟨h1, h2, h3, h5, hs⟩ := h
  have e : (storeA A k x y).c2 = A.c2 + 1 := wrap_one h2 (by omega)
  exact ⟨h1, by rw [e]; omega, h3, h5, by rw [e]; show A.c1 + (A.c2 + 1) + A.c3 + A.c5 = m + 1; omega⟩
theorem cok_swap {A : ISt} {m : Int} (h : Cok A m) (hm : m ≤ 10000) (k : K4) (o x y : Int) : Cok (swapA A k o x y) (m + 1) := by
  obtain ⟨h1, h2, h3, h5, hs⟩ := h
  have e : wrap64 (A.c3 + 1) = A.c3 + 1 := wrap_one h3 (by omega)
  unfold swapA
  split
  · exact ⟨h1, h2, by show 0 ≤ wrap64 (A.c3 + 1); rw [e]; omega, h5, by show A.c1 + A.c2 + wrap64 (A.c3 + 1) + A.c5 = m + 1; rw [e]; omega⟩
  · exact ⟨h1, h2, by show 0 ≤ wrap64 (A.c3 + 1); rw [e]; omega, h5, by show A.c1 + A.c2 + wrap64 (A.c3 + 1) + A.c5 = m + 1; rw [e]; omega⟩
theorem cok_add {A : ISt} {m : Int} (h : Cok A m) (hm : m ≤ 10000) (k : K4) (x : Int) : Cok (addA A k x) (m + 1) := by
  obtain ⟨h1, h2, h3, h5, hs⟩ := h
  have e : (addA A k x).c5 = A.c5 + 1 := wrap_one h5 (by omega)
  exact ⟨h1, h2, h3, by rw [e]; omega, by rw [e]; show A.c1 + A.c2 + A.c3 + (A.c5 + 1) = m + 1; omega⟩
theorem lok_same {U : RSt} {n : Nat} (h : Lok U n) : Lok U (n + 1) := ⟨by have := h.1; omega, by have := h.2.1; omega, by have := h.2.2; omega⟩
theorem lok_set {U : RSt} {n : Nat} (h : Lok U n) (k : K3) (x y : Int) : Lok { U with W := oset U.W k x, L := oset U.L k y } (n + 1) :=
  ⟨by have := h.1; have := oset_len U.W k x; show (oset U.W k x).length ≤ n + 1; omega, by have := h.2.1; have := oset_len U.L k y; show (oset U.L k y).length ≤ n + 1; omega, by have := h.2.2; show U.R.length ≤ n + 1; omega⟩
theorem lok_setW {U : RSt} {n : Nat} (h : Lok U n) (k : K3) (x : Int) : Lok { U with W := oset U.W k x } (n + 1) :=
  ⟨by have := h.1; have := oset_len U.W k x; show (oset U.W k x).length ≤ n + 1; omega, by have := h.2.1; show U.L.length ≤ n + 1; omega, by have := h.2.2; show U.R.length ≤ n + 1; omega⟩
theorem lok_born {U : RSt} {n : Nat} (h : Lok U n) (s : Int) : Lok { U with R := bornRow U.R s } (n + 1) :=
  ⟨by have := h.1; show U.W.length ≤ n + 1; omega, by have := h.2.1; show U.L.length ≤ n + 1; omega, by
    have := h.2.2
    show (bornRow U.R s).length ≤ n + 1
    unfold bornRow
    split
    · omega
    · rw [List.length_append, List.length_singleton]; omega⟩
theorem isC_f'' (part : Int) : place_IsContent.f 5 1 part = some (decide (part ≥ 0 ∧ part ≠ 1 ∧ part ≠ 2)) := (show place_IsContent.f 5 1 part = place_IsContent.f 5 0 part from rfl).trans (isC_f part)
set_option maxHeartbeats 16000000 in
set_option maxRecDepth 100000 in
theorem does9_T (gi g1 g2 gs g3 gu : Nat) (A : ISt) (U : RSt) (kd pk ps pp id ox oy : Int) (ost : Bool) (vx vy : Int) (vst : Bool) (n : Nat) (m mm : Int) (w0 w : World) (hI : Ref9 w0 w gi g1 g2 gs g3 gu A U) (hB : Below w0.heap.size w0 w) (hR : Rel9 A U) (hL : Lok U n) (hn : n ≤ 10000) (hC : Cok A m) (hm : m ≤ 10000) (h9 : pk ≠ 9) (hy : 0 ≤ vy ∧ vy < 9223372036854775808) (hmm : mm = m + (if 1 ≤ kd ∧ kd ≤ 5 then 1 else 0)) :
    Calls Try.prog 28 #[.pointer (some ⟨gi, 0, none⟩), .pointer (some ⟨gu, 0, none⟩), .agg #[.int .i64 kd, .int .i64 pk, .int .i64 ps, .int .i64 pp, .int .i64 id, .int .u64 ox, .int .i64 oy, .bool ost, .int .u64 vx, .int .i64 vy, .bool vst]] w (D9Post w0 gi g1 g2 gs g3 gu n mm) := by
  have hu25 := Try.underlying25
  have hu28 := Try.underlying28
  have hu23 := Try.underlying23
  have hu50 := Try.underlying50
  have hu60 := Try.underlying60
  have e28 := eq28
  obtain ⟨⟨a, b, c⟩, hk⟩ : ∃ k, whereR pk ps pp id = k := ⟨_, rfl⟩
  obtain ⟨cu, hcu⟩ : ∃ z, (get A.words (ofK pk ps pp id)).getD 0 = z := ⟨_, rfl⟩
  obtain ⟨ld, hld⟩ : ∃ z, (get A.leads (ofK pk ps pp id)).getD 0 = z := ⟨_, rfl⟩
  have HK := Aside0.mk hk
  have H9 := Aside0.mk h9
  have CU := Aside0.mk hcu
  have LD := Aside0.mk hld
  have OW := Aside0.mk (show oget U.W (a, b, c) = cu by rw [← hk, ← hR.words pk ps pp id h9]; exact hcu)
  have OL := Aside0.mk (show oget U.L (a, b, c) = ld by rw [← hk, ← hR.leads pk ps pp id h9]; exact hld)
  have LR := Aside0.mk (show 0 ≤ ld ∧ ld < 9223372036854775808 by rw [← OL.out]; exact hR.rng _)
  have wl : wrap64 ld = ld := by have := LR.out; unfold wrap64; omega
  have HR := Aside0.mk hR
  have HY := Aside0.mk hy
  have HL := Aside0.mk hL
  have HC := Aside0.mk hC
  have HM := Aside0.mk hm
  have HMM := Aside0.mk hmm
  have LW := Aside0.mk (show U.W.length ≤ 100000 by have := hL.1; omega)
  have LL := Aside0.mk (show U.L.length ≤ 100000 by have := hL.2.1; omega)
  have LB := Aside0.mk (show U.R.length ≤ 100000 by have := hL.2.2; omega)
  have X1 := Aside0.mk (blk_alloc (blk_new w (.cells #[.int .i64 kd, .int .i64 pk, .int .i64 ps, .int .i64 pp, .int .i64 id, .int .u64 ox, .int .i64 oy, .bool ost, .int .u64 vx, .int .i64 vy, .bool vst] 50)) (.cells #[.int .i64 pk, .int .i64 ps, .int .i64 pp] 23))
  have P1 := Aside0.mk (blk_new2 w (.cells #[.int .i64 kd, .int .i64 pk, .int .i64 ps, .int .i64 pp, .int .i64 id, .int .u64 ox, .int .i64 oy, .bool ost, .int .u64 vx, .int .i64 vy, .bool vst] 50) (.cells #[.int .i64 pk, .int .i64 ps, .int .i64 pp] 23))
  have I1 := Aside0.mk ((hI.alloc (.cells #[.int .i64 kd, .int .i64 pk, .int .i64 ps, .int .i64 pp, .int .i64 id, .int .u64 ox, .int .i64 oy, .bool ost, .int .u64 vx, .int .i64 vy, .bool vst] 50)).alloc (.cells #[.int .i64 pk, .int .i64 ps, .int .i64 pp] 23))
  have B1 := Aside0.mk (below_alloc (below_alloc hB (.cells #[.int .i64 kd, .int .i64 pk, .int .i64 ps, .int .i64 pp, .int .i64 id, .int .u64 ox, .int .i64 oy, .bool ost, .int .u64 vx, .int .i64 vy, .bool vst] 50)) (.cells #[.int .i64 pk, .int .i64 ps, .int .i64 pp] 23))
  clear hI hB hR hL hn hC hm h9 hy hk hcu hld hmm
  go_enter Try.func28, Try.ntmps28
  go_wp2_with fail
  generalize (w.alloc (.cells #[.int .i64 kd, .int .i64 pk, .int .i64 ps, .int .i64 pp, .int .i64 id, .int .u64 ox, .int .i64 oy, .bool ost, .int .u64 vx, .int .i64 vy, .bool vst] 50)).alloc (.cells #[.int .i64 pk, .int .i64 ps, .int .i64 pp] 23) = w1 at *
  refine (where_T pk ps pp id a b c w1 H9.out HK.out).mono ?_
  rintro e w2 ⟨rfl, hb⟩
  have X2 := Aside0.mk (blk_alloc (blk_below X1.out hb) (.cells #[.int .i64 a, .int .i64 b, .int .i64 c] 23))
  have P2 := Aside0.mk (blk_alloc (blk_below P1.out hb) (.cells #[.int .i64 a, .int .i64 b, .int .i64 c] 23))
  have A2 := Aside0.mk (blk_new w2 (.cells #[.int .i64 a, .int .i64 b, .int .i64 c] 23))
  have I2 := Aside0.mk ((I1.out.below hb).alloc (.cells #[.int .i64 a, .int .i64 b, .int .i64 c] 23))
  have B2 := Aside0.mk (below_alloc (below_step B1.out hb) (.cells #[.int .i64 a, .int .i64 b, .int .i64 c] 23))
  clear hb X1 P1 I1 B1
  go_wp2_with fail
  generalize w2.alloc (.cells #[.int .i64 a, .int .i64 b, .int .i64 c] 23) = w3 at *
  generalize w2.heap.size = ga at *
  have DX2 := Aside0.mk (blk_drew X2.out)
  have DP2 := Aside0.mk (blk_drew P2.out)
  have DA2 := Aside0.mk (blk_drew A2.out)
  have DI2 := Aside0.mk I2.out.drew
  have DB2 := Aside0.mk (below_drew B2.out)
  refine start_ (n := 6) (S := fun w' => w'.cell? ⟨ga, 0, none⟩ = some (.int .i64 a) ∧ w'.cell? ⟨ga, 1, none⟩ = some (.int .i64 b) ∧ w'.cell? ⟨ga, 2, none⟩ = some (.int .i64 c)) (ds := [4]) #[false, false, false, false, false, false] (by kernel_rfl) rfl rfl ⟨(blk_cell DA2.out 0).trans rfl, (blk_cell DA2.out 1).trans rfl, (blk_cell DA2.out 2).trans rfl⟩ (fun hHeld => ?_)
  refine pure_ (i := 0) (N := some 20) (v := ?_) (a' := ?_) #[true, false, false, false, false, false] rfl rfl (by kernel_rfl) (fun _ _ _ h => h) (Or.inl ⟨by rfl, ?_⟩) ?_ ?_
  rotate_left
  · intro w'
    go_simp
    with_reducible rfl
  rotate_left
  · simp only [Act.put, List.setIfInBounds_toArray, List.set_cons_zero, List.set_cons_succ, i64_w, i32_w]
    rfl
  refine pure_ (i := 1) (N := some 21) (v := ?_) (a' := ?_) #[true, true, false, false, false, false] rfl rfl (by kernel_rfl) (fun _ _ _ h => h) (Or.inl ⟨by rfl, ?_⟩) ?_ ?_
  rotate_left
  · intro w'
    go_simp
    with_reducible rfl
  rotate_left
  · simp only [Act.put, List.setIfInBounds_toArray, List.set_cons_zero, List.set_cons_succ, i64_w, i32_w]
    rfl
  refine pure_ (i := 2) (N := some 22) (v := ?_) (a' := ?_) #[true, true, true, false, false, false] rfl rfl (by kernel_rfl) (fun _ _ _ h => h) (Or.inl ⟨by rfl, ?_⟩) ?_ ?_
  rotate_left
  · intro w'
    go_simp
    with_reducible rfl
  rotate_left
  · simp only [Act.put, List.setIfInBounds_toArray, List.set_cons_zero, List.set_cons_succ, i64_w, i32_w]
    rfl
  refine take_ (i := 3) (N := some 23) (v := ?_) (a' := ?_) #[true, true, true, true, false, false] rfl rfl (by kernel_rfl) (fun _ _ _ h => h) (Or.inl ⟨by rfl, ?_⟩) hHeld ?_ ?_
  rotate_left
  · rintro w' ⟨s0, s1, s2⟩
    go_simp
    with_reducible rfl
  rotate_left
  · simp only [Act.put, List.setIfInBounds_toArray, List.set_cons_zero, List.set_cons_succ, i64_w, i32_w]
    rfl
  refine last_ (i := 4) (N := some 24) #[true, true, true, true, true, false] rfl rfl (by kernel_rfl) (by decide) (fun K hK => ?_)
  refine goes_ Try.func83 (by kernel_rfl) rfl #[.pointer (some ⟨gu, 0, none⟩), .agg #[.int .i64 a, .int .i64 b, .int .i64 c]] (by rfl) rfl rfl (by simp only [List.map_toArray, List.map_cons, List.map_nil]; rfl) ?_
  with_reducible refine (rgetW_T a b c DI2.out.R LW.out).mono ?_
  rintro e w4 ⟨rfl, hb⟩
  refine ⟨_, rfl, ?_⟩
  rw [OW.out]
  have X4 := Aside0.mk (blk_below DX2.out hb)
  have P4 := Aside0.mk (blk_below DP2.out hb)
  have A4 := Aside0.mk (blk_below DA2.out hb)
  have I4 := Aside0.mk (DI2.out.below hb)
  have B4 := Aside0.mk (below_step DB2.out hb)
  clear hb DX2 DP2 DA2 DI2 DB2 X2 P2 A2 I2 B2
  refine hK.out _ _ ?_
  clear hK K
  refine norm_ (a' := ?_) ?_ ?_
  rotate_left
  · show Act.put _ (some 24) _ = _
    simp only [Act.put, List.setIfInBounds_toArray, List.set_cons_zero, List.set_cons_succ, i64_w, i32_w]
    rfl
  refine pure_ (i := 5) (N := some 9) (v := ?_) (a' := ?_) #[true, true, true, true, true, true] rfl rfl (by kernel_rfl) (fun _ _ _ h => h) (Or.inl ⟨by rfl, ?_⟩) ?_ ?_
  rotate_left
  · intro w'
    go_simp
    with_reducible rfl
  rotate_left
  · simp only [Act.put, List.setIfInBounds_toArray, List.set_cons_zero, List.set_cons_succ, i64_w, i32_w]
    rfl
  refine done_ (by kernel_rfl) ?_
  by_cases k1 : kd = 1
  · subst k1
    have HMM := Aside0.mk (HMM.out.trans (by rw [if_pos (by decide)] : _ = m + 1))
    have b0 : w4.cell? ⟨w.heap.size, 0, none⟩ = some (.int .i64 1) := (blk_cell X4.out 0).trans rfl
    go_wp2_with fail
    have DX := Aside0.mk (blk_drew X4.out)
    have DP := Aside0.mk (blk_drew P4.out)
    have DA := Aside0.mk (blk_drew A4.out)
    have DI := Aside0.mk I4.out.drew
    have DB := Aside0.mk (below_drew B4.out)
    refine start_ (n := 14) (S := fun w' => w'.cell? ⟨w.heap.size, 1, none⟩ = some (.int .i64 pk) ∧ w'.cell? ⟨w.heap.size, 2, none⟩ = some (.int .i64 ps) ∧ w'.cell? ⟨w.heap.size, 3, none⟩ = some (.int .i64 pp) ∧ w'.cell? ⟨w.heap.size, 4, none⟩ = some (.int .i64 id) ∧ w'.cell? ⟨ga, 0, none⟩ = some (.int .i64 a) ∧ w'.cell? ⟨ga, 1, none⟩ = some (.int .i64 b) ∧ w'.cell? ⟨ga, 2, none⟩ = some (.int .i64 c)) (ds := [9]) #[false, false, false, false, false, false, false, false, false, false, false, false, false, false] (by kernel_rfl) rfl rfl ⟨(blk_cell DX.out 1).trans rfl, (blk_cell DX.out 2).trans rfl, (blk_cell DX.out 3).trans rfl, (blk_cell DX.out 4).trans rfl, (blk_cell DA.out 0).trans rfl, (blk_cell DA.out 1).trans rfl, (blk_cell DA.out 2).trans rfl⟩ (fun hHeld => ?_)
    refine pure_ (i := 0) (N := some 29) (v := ?_) (a' := ?_) #[true, false, false, false, false, false, false, false, false, false, false, false, false, false] rfl rfl (by kernel_rfl) (fun _ _ _ h => h) (Or.inl ⟨by rfl, ?_⟩) ?_ ?_
    rotate_left
    · intro w'
      go_simp
      with_reducible rfl
    rotate_left
    · simp only [Act.put, List.setIfInBounds_toArray, List.set_cons_zero, List.set_cons_succ, i64_w, i32_w]
      rfl
    refine pure_ (i := 1) (N := some 30) (v := ?_) (a' := ?_) #[true, true, false, false, false, false, false, false, false, false, false, false, false, false] rfl rfl (by kernel_rfl) (fun _ _ _ h => h) (Or.inl ⟨by rfl, ?_⟩) ?_ ?_
    rotate_left
    · intro w'
      go_simp
      with_reducible rfl
    rotate_left
    · simp only [Act.put, List.setIfInBounds_toArray, List.set_cons_zero, List.set_cons_succ, i64_w, i32_w]
      rfl
    refine pure_ (i := 4) (N := some 33) (v := ?_) (a' := ?_) #[true, true, false, false, true, false, false, false, false, false, false, false, false, false] rfl rfl (by kernel_rfl) (fun _ _ _ h => h) (Or.inl ⟨by rfl, ?_⟩) ?_ ?_
    rotate_left
    · intro w'
      go_simp
      with_reducible rfl
    rotate_left
    · simp only [Act.put, List.setIfInBounds_toArray, List.set_cons_zero, List.set_cons_succ, i64_w, i32_w]
      rfl
    refine pure_ (i := 5) (N := some 34) (v := ?_) (a' := ?_) #[true, true, false, false, true, true, false, false, false, false, false, false, false, false] rfl rfl (by kernel_rfl) (fun _ _ _ h => h) (Or.inl ⟨by rfl, ?_⟩) ?_ ?_
    rotate_left
    · intro w'
      go_simp
      with_reducible rfl
    rotate_left
    · simp only [Act.put, List.setIfInBounds_toArray, List.set_cons_zero, List.set_cons_succ, i64_w, i32_w]
      rfl
    refine pure_ (i := 6) (N := some 35) (v := ?_) (a' := ?_) #[true, true, false, false, true, true, true, false, false, false, false, false, false, false] rfl rfl (by kernel_rfl) (fun _ _ _ h => h) (Or.inl ⟨by rfl, ?_⟩) ?_ ?_
    rotate_left
    · intro w'
      go_simp
      with_reducible rfl
    rotate_left
    · simp only [Act.put, List.setIfInBounds_toArray, List.set_cons_zero, List.set_cons_succ, i64_w, i32_w]
      rfl
    refine pure_ (i := 7) (N := some 36) (v := ?_) (a' := ?_) #[true, true, false, false, true, true, true, true, false, false, false, false, false, false] rfl rfl (by kernel_rfl) (fun _ _ _ h => h) (Or.inl ⟨by rfl, ?_⟩) ?_ ?_
    rotate_left
    · intro w'
      go_simp
      with_reducible rfl
    rotate_left
    · simp only [Act.put, List.setIfInBounds_toArray, List.set_cons_zero, List.set_cons_succ, i64_w, i32_w]
      rfl
    refine take_ (i := 2) (N := some 31) (v := ?_) (a' := ?_) #[true, true, true, false, true, true, true, true, false, false, false, false, false, false] rfl rfl (by kernel_rfl) (fun _ _ _ h => h) (Or.inl ⟨by rfl, ?_⟩) hHeld ?_ ?_
    rotate_left
    · rintro w' ⟨s0, s1, s2, s3, s4, s5, s6⟩
      go_simp
      with_reducible rfl
    rotate_left
    · simp only [Act.put, List.setIfInBounds_toArray, List.set_cons_zero, List.set_cons_succ, i64_w, i32_w]
      rfl
    refine take_ (i := 8) (N := some 37) (v := ?_) (a' := ?_) #[true, true, true, false, true, true, true, true, true, false, false, false, false, false] rfl rfl (by kernel_rfl) (fun _ _ _ h => h) (Or.inl ⟨by rfl, ?_⟩) hHeld ?_ ?_
    rotate_left
    · rintro w' ⟨s0, s1, s2, s3, s4, s5, s6⟩
      go_simp
      with_reducible rfl
    rotate_left
    · simp only [Act.put, List.setIfInBounds_toArray, List.set_cons_zero, List.set_cons_succ, i64_w, i32_w]
      rfl
    refine one_ (i := 3) (N := some 32) #[true, true, true, true, true, true, true, true, true, false, false, false, false, false] rfl rfl (by kernel_rfl) (by decide) (fun K hK => ?_)
    refine goes_ Try.func17 (by kernel_rfl) rfl #[.pointer (some ⟨gi, 0, none⟩), Value.agg #[.int .i64 pk, .int .i64 ps, .int .i64 pp, .int .i64 id]] (by rfl) rfl rfl (by simp only [List.map_toArray, List.map_cons, List.map_nil]; rfl) ?_
    with_reducible refine (iload_U gi g1 g2 gs g3 A pk ps pp id w0 _ DI.out.I DB.out).mono ?_
    rintro e w5 ⟨rfl, h1_, h2_, h3_⟩
    refine ⟨_, rfl, ?_⟩
    rw [CU.out, LD.out]
    have I5 := Aside0.mk (DI.out.iT h1_ h3_)
    have B5 := Aside0.mk h2_
    have X5 := Aside0.mk (DI.out.I.staysT h3_ DX.out (by decide))
    have A5 := Aside0.mk (DI.out.I.staysT h3_ DA.out (by decide))
    clear h1_ h2_ h3_
    refine hK.out _ _ ⟨(blk_cell X5.out 1).trans rfl, (blk_cell X5.out 2).trans rfl, (blk_cell X5.out 3).trans rfl, (blk_cell X5.out 4).trans rfl, (blk_cell A5.out 0).trans rfl, (blk_cell A5.out 1).trans rfl, (blk_cell A5.out 2).trans rfl⟩ (fun hHeld => ?_)
    clear hK K
    refine norm_ (a' := ?_) ?_ ?_
    rotate_left
    · show Act.put _ (some 32) _ = _
      simp only [Act.put, List.setIfInBounds_toArray, List.set_cons_zero, List.set_cons_succ, i64_w, i32_w]
      rfl
    refine last_ (i := 9) (N := some 38) #[true, true, true, true, true, true, true, true, true, true, false, false, false, false] rfl rfl (by kernel_rfl) (by decide) (fun K hK => ?_)
    refine goes_ Try.func83 (by kernel_rfl) rfl #[.pointer (some ⟨gu, 1, none⟩), Value.agg #[.int .i64 a, .int .i64 b, .int .i64 c]] (by rfl) rfl rfl (by simp only [List.map_toArray, List.map_cons, List.map_nil]; rfl) ?_
    with_reducible refine (rgetL_T a b c I5.out.R LL.out).mono ?_
    rintro e w6 ⟨rfl, hb⟩
    refine ⟨_, rfl, ?_⟩
    rw [OL.out]
    have I6 := Aside0.mk (I5.out.below hb)
    have B6 := Aside0.mk (below_step B5.out hb)
    clear hb
    refine hK.out _ _ ?_
    clear hK K
    refine norm_ (a' := ?_) ?_ ?_
    rotate_left
    · show Act.put _ (some 38) _ = _
      simp only [Act.put, List.setIfInBounds_toArray, List.set_cons_zero, List.set_cons_succ, i64_w, i32_w]
      rfl
    refine pure_ (i := 10) (N := some 39) (v := ?_) (a' := ?_) #[true, true, true, true, true, true, true, true, true, true, true, false, false, false] rfl rfl (by kernel_rfl) (fun _ _ _ h => h) (Or.inl ⟨by rfl, ?_⟩) ?_ ?_
    rotate_left
    · intro w'
      go_simp
      with_reducible rfl
    rotate_left
    · simp only [Act.put, List.setIfInBounds_toArray, List.set_cons_zero, List.set_cons_succ, i64_w, i32_w]
      rfl
    refine pure_ (i := 11) (N := some 40) (v := ?_) (a' := ?_) #[true, true, true, true, true, true, true, true, true, true, true, true, false, false] rfl rfl (by kernel_rfl) (fun _ _ _ h => h) (Or.inl ⟨by rfl, ?_⟩) ?_ ?_
    rotate_left
    · intro w'
      go_simp
      with_reducible rfl
    rotate_left
    · simp only [Act.put, List.setIfInBounds_toArray, List.set_cons_zero, List.set_cons_succ, i64_w, i32_w]
      rfl
    refine pure_ (i := 12) (N := some 41) (v := ?_) (a' := ?_) #[true, true, true, true, true, true, true, true, true, true, true, true, true, false] rfl rfl (by kernel_rfl) (fun _ _ _ h => h) (Or.inl ⟨by rfl, ?_⟩) ?_ ?_
    rotate_left
    · intro w'
      go_simp
      with_reducible rfl
    rotate_left
    · simp only [Act.put, List.setIfInBounds_toArray, List.set_cons_zero, List.set_cons_succ, i64_w, i32_w]
      rfl
    refine pure_ (i := 13) (N := some 6) (v := ?_) (a' := ?_) #[true, true, true, true, true, true, true, true, true, true, true, true, true, true] rfl rfl (by kernel_rfl) (fun _ _ _ h => h) (Or.inl ⟨by rfl, ?_⟩) ?_ ?_
    rotate_left
    · intro w'
      go_simp
      with_reducible rfl
    rotate_left
    · simp only [Act.put, List.setIfInBounds_toArray, List.set_cons_zero, List.set_cons_succ, i64_w, i32_w]
      rfl
    refine done_ (by kernel_rfl) ?_
    go_wp2_with fail
    go_ret
    exact ⟨rfl, loadA A, U, I6.out, HR.out.same rfl rfl rfl rfl, B6.out, lok_same HL.out, by rw [HMM.out]; exact cok_load HC.out HM.out⟩
  have u1 : (kd == 1) = false := beq_eq_false_iff_ne.mpr k1
  by_cases k2 : kd = 2
  · subst k2
    have HMM := Aside0.mk (HMM.out.trans (by rw [if_pos (by decide)] : _ = m + 1))
    have b0 : w4.cell? ⟨w.heap.size, 0, none⟩ = some (.int .i64 2) := (blk_cell X4.out 0).trans rfl
    have b1 : w4.cell? ⟨w.heap.size, 1, none⟩ = some (.int .i64 pk) := (blk_cell X4.out 1).trans rfl
    have b2 : w4.cell? ⟨w.heap.size, 2, none⟩ = some (.int .i64 ps) := (blk_cell X4.out 2).trans rfl
    have b3 : w4.cell? ⟨w.heap.size, 3, none⟩ = some (.int .i64 pp) := (blk_cell X4.out 3).trans rfl
    have b4 : w4.cell? ⟨w.heap.size, 4, none⟩ = some (.int .i64 id) := (blk_cell X4.out 4).trans rfl
    have b8 : w4.cell? ⟨w.heap.size, 8, none⟩ = some (.int .u64 vx) := (blk_cell X4.out 8).trans rfl
    have b9 : w4.cell? ⟨w.heap.size, 9, none⟩ = some (.int .i64 vy) := (blk_cell X4.out 9).trans rfl
    have b10 : w4.cell? ⟨w.heap.size, 10, none⟩ = some (.bool vst) := (blk_cell X4.out 10).trans rfl
    have p0 : w4.cell? ⟨(w.heap.size + 1), 0, none⟩ = some (.int .i64 pk) := (blk_cell P4.out 0).trans rfl
    have p1 : w4.cell? ⟨(w.heap.size + 1), 1, none⟩ = some (.int .i64 ps) := (blk_cell P4.out 1).trans rfl
    have p2 : w4.cell? ⟨(w.heap.size + 1), 2, none⟩ = some (.int .i64 pp) := (blk_cell P4.out 2).trans rfl
    go_wp2_with fail
    clear b0 b1 b2 b3 b4 b8 b9 b10
    refine (istore_U gi g1 g2 gs g3 A pk ps pp id vx vy vst w0 _ I4.out.I B4.out).mono ?_
    rintro e w5 ⟨rfl, h1_, h2_, h3_⟩
    have I5 := Aside0.mk (I4.out.iT h1_ h3_)
    have B5 := Aside0.mk h2_
    have X5 := Aside0.mk (I4.out.I.staysT h3_ X4.out (by decide))
    have P5 := Aside0.mk (I4.out.I.staysT h3_ P4.out (by decide))
    clear h1_ h2_ h3_ p0 p1 p2
    have b4 : w5.cell? ⟨w.heap.size, 4, none⟩ = some (.int .i64 id) := (blk_cell X5.out 4).trans rfl
    have b8 : w5.cell? ⟨w.heap.size, 8, none⟩ = some (.int .u64 vx) := (blk_cell X5.out 8).trans rfl
    have b9 : w5.cell? ⟨w.heap.size, 9, none⟩ = some (.int .i64 vy) := (blk_cell X5.out 9).trans rfl
    have p0 : w5.cell? ⟨(w.heap.size + 1), 0, none⟩ = some (.int .i64 pk) := (blk_cell P5.out 0).trans rfl
    have p1 : w5.cell? ⟨(w.heap.size + 1), 1, none⟩ = some (.int .i64 ps) := (blk_cell P5.out 1).trans rfl
    have p2 : w5.cell? ⟨(w.heap.size + 1), 2, none⟩ = some (.int .i64 pp) := (blk_cell P5.out 2).trans rfl
    go_wp2_with fail
    clear b4 b8 b9 p0 p1 p2
    refine (rset_T pk ps pp id vx vy I5.out.R B5.out LW.out LL.out H9.out).mono ?_
    rintro e w6 ⟨rfl, h1_, h2_, h3_⟩
    have I6 := Aside0.mk (I5.out.uS h1_ h3_)
    have B6 := Aside0.mk h2_
    clear h1_ h2_ h3_
    go_wp2_with fail
    go_ret
    exact ⟨rfl, storeA A (ofK pk ps pp id) vx vy, { U with W := oset U.W (whereR pk ps pp id) vx, L := oset U.L (whereR pk ps pp id) (IntKind.u64.wrap vy) }, I6.out, (HR.out.same (A' := { A with c2 := wrap64 (A.c2 + 1) }) rfl rfl rfl rfl).put2 H9.out vx vy HY.out, B6.out, lok_set HL.out _ _ _, by rw [HMM.out]; exact cok_store HC.out HM.out _ _ _⟩
  have u2 : (kd == 2) = false := beq_eq_false_iff_ne.mpr k2
  by_cases k3 : kd = 3
  · subst k3
    have HMM := Aside0.mk (HMM.out.trans (by rw [if_pos (by decide)] : _ = m + 1))
    have b0 : w4.cell? ⟨w.heap.size, 0, none⟩ = some (.int .i64 3) := (blk_cell X4.out 0).trans rfl
    have b1 : w4.cell? ⟨w.heap.size, 1, none⟩ = some (.int .i64 pk) := (blk_cell X4.out 1).trans rfl
    have b2 : w4.cell? ⟨w.heap.size, 2, none⟩ = some (.int .i64 ps) := (blk_cell X4.out 2).trans rfl
    have b3 : w4.cell? ⟨w.heap.size, 3, none⟩ = some (.int .i64 pp) := (blk_cell X4.out 3).trans rfl
    have b4 : w4.cell? ⟨w.heap.size, 4, none⟩ = some (.int .i64 id) := (blk_cell X4.out 4).trans rfl
    have b5 : w4.cell? ⟨w.heap.size, 5, none⟩ = some (.int .u64 ox) := (blk_cell X4.out 5).trans rfl
    have b6 : w4.cell? ⟨w.heap.size, 6, none⟩ = some (.int .i64 oy) := (blk_cell X4.out 6).trans rfl
    have b7 : w4.cell? ⟨w.heap.size, 7, none⟩ = some (.bool ost) := (blk_cell X4.out 7).trans rfl
    have b8 : w4.cell? ⟨w.heap.size, 8, none⟩ = some (.int .u64 vx) := (blk_cell X4.out 8).trans rfl
    have b9 : w4.cell? ⟨w.heap.size, 9, none⟩ = some (.int .i64 vy) := (blk_cell X4.out 9).trans rfl
    have b10 : w4.cell? ⟨w.heap.size, 10, none⟩ = some (.bool vst) := (blk_cell X4.out 10).trans rfl
    have p0 : w4.cell? ⟨(w.heap.size + 1), 0, none⟩ = some (.int .i64 pk) := (blk_cell P4.out 0).trans rfl
    have p1 : w4.cell? ⟨(w.heap.size + 1), 1, none⟩ = some (.int .i64 ps) := (blk_cell P4.out 1).trans rfl
    have p2 : w4.cell? ⟨(w.heap.size + 1), 2, none⟩ = some (.int .i64 pp) := (blk_cell P4.out 2).trans rfl
    have X5 := Aside0.mk (blk_alloc X4.out (.cells #[.int .u64 ox, .int .i64 oy, .bool ost] 28))
    have P5 := Aside0.mk (blk_alloc P4.out (.cells #[.int .u64 ox, .int .i64 oy, .bool ost] 28))
    have O5 := Aside0.mk (blk_new w4 (.cells #[.int .u64 ox, .int .i64 oy, .bool ost] 28))
    have I5 := Aside0.mk (I4.out.alloc (.cells #[.int .u64 ox, .int .i64 oy, .bool ost] 28))
    have B5 := Aside0.mk (below_alloc B4.out (.cells #[.int .u64 ox, .int .i64 oy, .bool ost] 28))
    have c0 : (w4.alloc (.cells #[.int .u64 ox, .int .i64 oy, .bool ost] 28)).cell? ⟨w.heap.size, 0, none⟩ = some (.int .i64 3) := (blk_cell (blk_alloc X4.out (.cells #[.int .u64 ox, .int .i64 oy, .bool ost] 28)) 0).trans rfl
    have c1 : (w4.alloc (.cells #[.int .u64 ox, .int .i64 oy, .bool ost] 28)).cell? ⟨w.heap.size, 1, none⟩ = some (.int .i64 pk) := (blk_cell (blk_alloc X4.out (.cells #[.int .u64 ox, .int .i64 oy, .bool ost] 28)) 1).trans rfl
    have c2 : (w4.alloc (.cells #[.int .u64 ox, .int .i64 oy, .bool ost] 28)).cell? ⟨w.heap.size, 2, none⟩ = some (.int .i64 ps) := (blk_cell (blk_alloc X4.out (.cells #[.int .u64 ox, .int .i64 oy, .bool ost] 28)) 2).trans rfl
    have c3 : (w4.alloc (.cells #[.int .u64 ox, .int .i64 oy, .bool ost] 28)).cell? ⟨w.heap.size, 3, none⟩ = some (.int .i64 pp) := (blk_cell (blk_alloc X4.out (.cells #[.int .u64 ox, .int .i64 oy, .bool ost] 28)) 3).trans rfl
    have c4 : (w4.alloc (.cells #[.int .u64 ox, .int .i64 oy, .bool ost] 28)).cell? ⟨w.heap.size, 4, none⟩ = some (.int .i64 id) := (blk_cell (blk_alloc X4.out (.cells #[.int .u64 ox, .int .i64 oy, .bool ost] 28)) 4).trans rfl
    have c5 : (w4.alloc (.cells #[.int .u64 ox, .int .i64 oy, .bool ost] 28)).cell? ⟨w.heap.size, 5, none⟩ = some (.int .u64 ox) := (blk_cell (blk_alloc X4.out (.cells #[.int .u64 ox, .int .i64 oy, .bool ost] 28)) 5).trans rfl
    have c6 : (w4.alloc (.cells #[.int .u64 ox, .int .i64 oy, .bool ost] 28)).cell? ⟨w.heap.size, 6, none⟩ = some (.int .i64 oy) := (blk_cell (blk_alloc X4.out (.cells #[.int .u64 ox, .int .i64 oy, .bool ost] 28)) 6).trans rfl
    have c7 : (w4.alloc (.cells #[.int .u64 ox, .int .i64 oy, .bool ost] 28)).cell? ⟨w.heap.size, 7, none⟩ = some (.bool ost) := (blk_cell (blk_alloc X4.out (.cells #[.int .u64 ox, .int .i64 oy, .bool ost] 28)) 7).trans rfl
    have c8 : (w4.alloc (.cells #[.int .u64 ox, .int .i64 oy, .bool ost] 28)).cell? ⟨w.heap.size, 8, none⟩ = some (.int .u64 vx) := (blk_cell (blk_alloc X4.out (.cells #[.int .u64 ox, .int .i64 oy, .bool ost] 28)) 8).trans rfl
    have c9 : (w4.alloc (.cells #[.int .u64 ox, .int .i64 oy, .bool ost] 28)).cell? ⟨w.heap.size, 9, none⟩ = some (.int .i64 vy) := (blk_cell (blk_alloc X4.out (.cells #[.int .u64 ox, .int .i64 oy, .bool ost] 28)) 9).trans rfl
    have c10 : (w4.alloc (.cells #[.int .u64 ox, .int .i64 oy, .bool ost] 28)).cell? ⟨w.heap.size, 10, none⟩ = some (.bool vst) := (blk_cell (blk_alloc X4.out (.cells #[.int .u64 ox, .int .i64 oy, .bool ost] 28)) 10).trans rfl
    have o0 : (w4.alloc (.cells #[.int .u64 ox, .int .i64 oy, .bool ost] 28)).cell? ⟨w4.heap.size, 0, none⟩ = some (.int .u64 ox) := (blk_cell (blk_new w4 (.cells #[.int .u64 ox, .int .i64 oy, .bool ost] 28)) 0).trans rfl
    have o1 : (w4.alloc (.cells #[.int .u64 ox, .int .i64 oy, .bool ost] 28)).cell? ⟨w4.heap.size, 1, none⟩ = some (.int .i64 oy) := (blk_cell (blk_new w4 (.cells #[.int .u64 ox, .int .i64 oy, .bool ost] 28)) 1).trans rfl
    have o2 : (w4.alloc (.cells #[.int .u64 ox, .int .i64 oy, .bool ost] 28)).cell? ⟨w4.heap.size, 2, none⟩ = some (.bool ost) := (blk_cell (blk_new w4 (.cells #[.int .u64 ox, .int .i64 oy, .bool ost] 28)) 2).trans rfl
    go_wp2_with fail
    clear b0 b1 b2 b3 b4 b5 b6 b7 b8 b9 b10 p0 p1 p2 c0 c1 c2 c3 c4 c5 c6 c7 c8 c9 c10 o0 o1 o2
    generalize w4.alloc (.cells #[.int .u64 ox, .int .i64 oy, .bool ost] 28) = w5 at *
    generalize w4.heap.size = go at *
    have DX := Aside0.mk (blk_drew X5.out)
    have DP := Aside0.mk (blk_drew P5.out)
    have DO := Aside0.mk (blk_drew O5.out)
    have DI := Aside0.mk I5.out.drew
    have DB := Aside0.mk (below_drew B5.out)
    by_cases he : ox = cu
    · have te : (ox == cu) = true := beq_iff_eq.2 he
      have SR := Aside0.mk (show swapR A (ofK pk ps pp id) ox = true from decide_eq_true (CU.out.trans he.symm))
      have SA := Aside0.mk (show swapA A (ofK pk ps pp id) ox vx vy = putA { A with c3 := wrap64 (A.c3 + 1) } (ofK pk ps pp id) vx vy from if_pos (CU.out.trans he.symm))
      clear he
      refine start_ (n := 12) (S := fun w' => w'.cell? ⟨w.heap.size, 1, none⟩ = some (.int .i64 pk) ∧ w'.cell? ⟨w.heap.size, 2, none⟩ = some (.int .i64 ps) ∧ w'.cell? ⟨w.heap.size, 3, none⟩ = some (.int .i64 pp) ∧ w'.cell? ⟨w.heap.size, 4, none⟩ = some (.int .i64 id) ∧ w'.cell? ⟨w.heap.size, 8, none⟩ = some (.int .u64 vx) ∧ w'.cell? ⟨w.heap.size, 9, none⟩ = some (.int .i64 vy) ∧ w'.cell? ⟨w.heap.size, 10, none⟩ = some (.bool vst) ∧ w'.cell? ⟨go, 0, none⟩ = some (.int .u64 ox) ∧ w'.cell? ⟨go, 1, none⟩ = some (.int .i64 oy) ∧ w'.cell? ⟨go, 2, none⟩ = some (.bool ost)) (ds := []) #[false, false, false, false, false, false, false, false, false, false, false, false] (by kernel_rfl) rfl rfl ⟨(blk_cell DX.out 1).trans rfl, (blk_cell DX.out 2).trans rfl, (blk_cell DX.out 3).trans rfl, (blk_cell DX.out 4).trans rfl, (blk_cell DX.out 8).trans rfl, (blk_cell DX.out 9).trans rfl, (blk_cell DX.out 10).trans rfl, (blk_cell DO.out 0).trans rfl, (blk_cell DO.out 1).trans rfl, (blk_cell DO.out 2).trans rfl⟩ (fun hHeld => ?_)
      refine pure_ (i := 0) (N := some 72) (v := ?_) (a' := ?_) #[true, false, false, false, false, false, false, false, false, false, false, false] rfl rfl (by kernel_rfl) (fun _ _ _ h => h) (Or.inl ⟨by rfl, ?_⟩) ?_ ?_
      rotate_left
      · intro w'
        go_simp
        with_reducible rfl
      rotate_left
      · simp only [Act.put, List.setIfInBounds_toArray, List.set_cons_zero, List.set_cons_succ, i64_w, i32_w]
        rfl
      refine pure_ (i := 1) (N := some 73) (v := ?_) (a' := ?_) #[true, true, false, false, false, false, false, false, false, false, false, false] rfl rfl (by kernel_rfl) (fun _ _ _ h => h) (Or.inl ⟨by rfl, ?_⟩) ?_ ?_
      rotate_left
      · intro w'
        go_simp
        with_reducible rfl
      rotate_left
      · simp only [Act.put, List.setIfInBounds_toArray, List.set_cons_zero, List.set_cons_succ, i64_w, i32_w]
        rfl
      refine pure_ (i := 4) (N := some 76) (v := ?_) (a' := ?_) #[true, true, false, false, true, false, false, false, false, false, false, false] rfl rfl (by kernel_rfl) (fun _ _ _ h => h) (Or.inl ⟨by rfl, ?_⟩) ?_ ?_
      rotate_left
      · intro w'
        go_simp
        with_reducible rfl
      rotate_left
      · simp only [Act.put, List.setIfInBounds_toArray, List.set_cons_zero, List.set_cons_succ, i64_w, i32_w]
        rfl
      refine pure_ (i := 7) (N := some 79) (v := ?_) (a' := ?_) #[true, true, false, false, true, false, false, true, false, false, false, false] rfl rfl (by kernel_rfl) (fun _ _ _ h => h) (Or.inl ⟨by rfl, ?_⟩) ?_ ?_
      rotate_left
      · intro w'
        go_simp
        with_reducible rfl
      rotate_left
      · simp only [Act.put, List.setIfInBounds_toArray, List.set_cons_zero, List.set_cons_succ, i64_w, i32_w]
        rfl
      refine pure_ (i := 9) (N := some 81) (v := ?_) (a' := ?_) #[true, true, false, false, true, false, false, true, false, true, false, false] rfl rfl (by kernel_rfl) (fun _ _ _ h => h) (Or.inl ⟨by rfl, ?_⟩) ?_ ?_
      rotate_left
      · intro w'
        go_simp
        with_reducible rfl
      rotate_left
      · simp only [Act.put, List.setIfInBounds_toArray, List.set_cons_zero, List.set_cons_succ, i64_w, i32_w]
        rfl
      refine take_ (i := 2) (N := some 74) (v := ?_) (a' := ?_) #[true, true, true, false, true, false, false, true, false, true, false, false] rfl rfl (by kernel_rfl) (fun _ _ _ h => h) (Or.inl ⟨by rfl, ?_⟩) hHeld ?_ ?_
      rotate_left
      · rintro w' ⟨s0, s1, s2, s3, s4, s5, s6, s7, s8, s9⟩
        go_simp
        with_reducible rfl
      rotate_left
      · simp only [Act.put, List.setIfInBounds_toArray, List.set_cons_zero, List.set_cons_succ, i64_w, i32_w]
        rfl
      refine take_ (i := 3) (N := some 75) (v := ?_) (a' := ?_) #[true, true, true, true, true, false, false, true, false, true, false, false] rfl rfl (by kernel_rfl) (fun _ _ _ h => h) (Or.inl ⟨by rfl, ?_⟩) hHeld ?_ ?_
      rotate_left
      · rintro w' ⟨s0, s1, s2, s3, s4, s5, s6, s7, s8, s9⟩
        go_simp
        with_reducible rfl
      rotate_left
      · simp only [Act.put, List.setIfInBounds_toArray, List.set_cons_zero, List.set_cons_succ, i64_w, i32_w]
        rfl
      refine take_ (i := 5) (N := some 77) (v := ?_) (a' := ?_) #[true, true, true, true, true, true, false, true, false, true, false, false] rfl rfl (by kernel_rfl) (fun _ _ _ h => h) (Or.inl ⟨by rfl, ?_⟩) hHeld ?_ ?_
      rotate_left
      · rintro w' ⟨s0, s1, s2, s3, s4, s5, s6, s7, s8, s9⟩
        go_simp
        with_reducible rfl
      rotate_left
      · simp only [Act.put, List.setIfInBounds_toArray, List.set_cons_zero, List.set_cons_succ, i64_w, i32_w]
        rfl
      refine take_ (i := 8) (N := some 80) (v := ?_) (a' := ?_) #[true, true, true, true, true, true, false, true, true, true, false, false] rfl rfl (by kernel_rfl) (fun _ _ _ h => h) (Or.inl ⟨by rfl, ?_⟩) hHeld ?_ ?_
      rotate_left
      · rintro w' ⟨s0, s1, s2, s3, s4, s5, s6, s7, s8, s9⟩
        go_simp
        with_reducible rfl
      rotate_left
      · simp only [Act.put, List.setIfInBounds_toArray, List.set_cons_zero, List.set_cons_succ, i64_w, i32_w]
        rfl
      refine pure_ (i := 10) (N := some 82) (v := ?_) (a' := ?_) #[true, true, true, true, true, true, false, true, true, true, true, false] rfl rfl (by kernel_rfl) (fun _ _ _ h => h) (Or.inl ⟨by rfl, ?_⟩) ?_ ?_
      rotate_left
      · intro w'
        go_simp
        with_reducible rfl
      rotate_left
      · simp only [Act.put, List.setIfInBounds_toArray, List.set_cons_zero, List.set_cons_succ, i64_w, i32_w]
        rfl
      refine one_ (i := 6) (N := some 78) #[true, true, true, true, true, true, true, true, true, true, true, false] rfl rfl (by kernel_rfl) (by decide) (fun K hK => ?_)
      refine goes_ Try.func18 (by kernel_rfl) rfl #[.pointer (some ⟨gi, 0, none⟩), Value.agg #[.int .i64 pk, .int .i64 ps, .int .i64 pp, .int .i64 id], .agg #[.int .u64 ox, .int .i64 oy, .bool ost], .agg #[.int .u64 vx, .int .i64 vy, .bool vst]] (by rfl) rfl rfl (by simp only [List.map_toArray, List.map_cons, List.map_nil]; rfl) ?_
      with_reducible refine (iswap_U gi g1 g2 gs g3 A pk ps pp id ox oy vx vy ost vst w0 _ DI.out.I DB.out).mono ?_
      rintro e w6 ⟨rfl, h1_, h2_, h3_⟩
      refine ⟨_, rfl, ?_⟩
      rw [SR.out]
      have I6 := Aside0.mk (DI.out.iT h1_ h3_)
      have B6 := Aside0.mk h2_
      have X6 := Aside0.mk (DI.out.I.staysT h3_ DX.out (by decide))
      have P6 := Aside0.mk (DI.out.I.staysT h3_ DP.out (by decide))
      have O6 := Aside0.mk (DI.out.I.staysT h3_ DO.out (by decide))
      clear h1_ h2_ h3_
      refine hK.out _ _ ⟨(blk_cell X6.out 1).trans rfl, (blk_cell X6.out 2).trans rfl, (blk_cell X6.out 3).trans rfl, (blk_cell X6.out 4).trans rfl, (blk_cell X6.out 8).trans rfl, (blk_cell X6.out 9).trans rfl, (blk_cell X6.out 10).trans rfl, (blk_cell O6.out 0).trans rfl, (blk_cell O6.out 1).trans rfl, (blk_cell O6.out 2).trans rfl⟩ (fun hHeld => ?_)
      clear hK K
      refine norm_ (a' := ?_) ?_ ?_
      rotate_left
      · show Act.put _ (some 78) _ = _
        simp only [Act.put, List.setIfInBounds_toArray, List.set_cons_zero, List.set_cons_succ, i64_w, i32_w]
        rfl
      refine pure_ (i := 11) (N := some 83) (v := ?_) (a' := ?_) #[true, true, true, true, true, true, true, true, true, true, true, true] rfl rfl (by kernel_rfl) (fun _ _ _ h => h) (Or.inl ⟨by rfl, ?_⟩) ?_ ?_
      rotate_left
      · intro w'
        go_simp
        with_reducible rfl
      rotate_left
      · simp only [Act.put, List.setIfInBounds_toArray, List.set_cons_zero, List.set_cons_succ, i64_w, i32_w]
        rfl
      refine done_ (by kernel_rfl) ?_
      have b4 : w6.cell? ⟨w.heap.size, 4, none⟩ = some (.int .i64 id) := (blk_cell X6.out 4).trans rfl
      have b8 : w6.cell? ⟨w.heap.size, 8, none⟩ = some (.int .u64 vx) := (blk_cell X6.out 8).trans rfl
      have b9 : w6.cell? ⟨w.heap.size, 9, none⟩ = some (.int .i64 vy) := (blk_cell X6.out 9).trans rfl
      have p0 : w6.cell? ⟨(w.heap.size + 1), 0, none⟩ = some (.int .i64 pk) := (blk_cell P6.out 0).trans rfl
      have p1 : w6.cell? ⟨(w.heap.size + 1), 1, none⟩ = some (.int .i64 ps) := (blk_cell P6.out 1).trans rfl
      have p2 : w6.cell? ⟨(w.heap.size + 1), 2, none⟩ = some (.int .i64 pp) := (blk_cell P6.out 2).trans rfl
      have o0 : w6.cell? ⟨go, 0, none⟩ = some (.int .u64 ox) := (blk_cell O6.out 0).trans rfl
      go_wp2_with fail
      clear b4 b8 b9 p0 p1 p2 o0
      refine (rset_T pk ps pp id vx vy I6.out.R B6.out LW.out LL.out H9.out).mono ?_
      rintro e w7 ⟨rfl, h1_, h2_, h3_⟩
      have I7 := Aside0.mk (I6.out.uS h1_ h3_)
      have B7 := Aside0.mk h2_
      clear h1_ h2_ h3_
      go_wp2_with fail
      go_ret
      exact ⟨rfl, swapA A (ofK pk ps pp id) ox vx vy, { U with W := oset U.W (whereR pk ps pp id) vx, L := oset U.L (whereR pk ps pp id) (IntKind.u64.wrap vy) }, I7.out, (by rw [SA.out]; exact (HR.out.same (A' := { A with c3 := wrap64 (A.c3 + 1) }) rfl rfl rfl rfl).put2 H9.out vx vy HY.out), B7.out, lok_set HL.out _ _ _, by rw [HMM.out]; exact cok_swap HC.out HM.out _ _ _ _⟩
    · have te : (ox == cu) = false := beq_eq_false_iff_ne.2 he
      have SR := Aside0.mk (show swapR A (ofK pk ps pp id) ox = false from decide_eq_false (fun e => he (e.symm.trans CU.out)))
      have SA := Aside0.mk (show swapA A (ofK pk ps pp id) ox vx vy = { A with c3 := wrap64 (A.c3 + 1), c4 := wrap64 (A.c4 + 1) } from if_neg (fun e => he (e.symm.trans CU.out)))
      clear he
      refine start_ (n := 12) (S := fun w' => w'.cell? ⟨w.heap.size, 1, none⟩ = some (.int .i64 pk) ∧ w'.cell? ⟨w.heap.size, 2, none⟩ = some (.int .i64 ps) ∧ w'.cell? ⟨w.heap.size, 3, none⟩ = some (.int .i64 pp) ∧ w'.cell? ⟨w.heap.size, 4, none⟩ = some (.int .i64 id) ∧ w'.cell? ⟨w.heap.size, 8, none⟩ = some (.int .u64 vx) ∧ w'.cell? ⟨w.heap.size, 9, none⟩ = some (.int .i64 vy) ∧ w'.cell? ⟨w.heap.size, 10, none⟩ = some (.bool vst) ∧ w'.cell? ⟨go, 0, none⟩ = some (.int .u64 ox) ∧ w'.cell? ⟨go, 1, none⟩ = some (.int .i64 oy) ∧ w'.cell? ⟨go, 2, none⟩ = some (.bool ost)) (ds := []) #[false, false, false, false, false, false, false, false, false, false, false, false] (by kernel_rfl) rfl rfl ⟨(blk_cell DX.out 1).trans rfl, (blk_cell DX.out 2).trans rfl, (blk_cell DX.out 3).trans rfl, (blk_cell DX.out 4).trans rfl, (blk_cell DX.out 8).trans rfl, (blk_cell DX.out 9).trans rfl, (blk_cell DX.out 10).trans rfl, (blk_cell DO.out 0).trans rfl, (blk_cell DO.out 1).trans rfl, (blk_cell DO.out 2).trans rfl⟩ (fun hHeld => ?_)
      refine pure_ (i := 0) (N := some 72) (v := ?_) (a' := ?_) #[true, false, false, false, false, false, false, false, false, false, false, false] rfl rfl (by kernel_rfl) (fun _ _ _ h => h) (Or.inl ⟨by rfl, ?_⟩) ?_ ?_
      rotate_left
      · intro w'
        go_simp
        with_reducible rfl
      rotate_left
      · simp only [Act.put, List.setIfInBounds_toArray, List.set_cons_zero, List.set_cons_succ, i64_w, i32_w]
        rfl
      refine pure_ (i := 1) (N := some 73) (v := ?_) (a' := ?_) #[true, true, false, false, false, false, false, false, false, false, false, false] rfl rfl (by kernel_rfl) (fun _ _ _ h => h) (Or.inl ⟨by rfl, ?_⟩) ?_ ?_
      rotate_left
      · intro w'
        go_simp
        with_reducible rfl
      rotate_left
      · simp only [Act.put, List.setIfInBounds_toArray, List.set_cons_zero, List.set_cons_succ, i64_w, i32_w]
        rfl
      refine pure_ (i := 4) (N := some 76) (v := ?_) (a' := ?_) #[true, true, false, false, true, false, false, false, false, false, false, false] rfl rfl (by kernel_rfl) (fun _ _ _ h => h) (Or.inl ⟨by rfl, ?_⟩) ?_ ?_
      rotate_left
      · intro w'
        go_simp
        with_reducible rfl
      rotate_left
      · simp only [Act.put, List.setIfInBounds_toArray, List.set_cons_zero, List.set_cons_succ, i64_w, i32_w]
        rfl
      refine pure_ (i := 7) (N := some 79) (v := ?_) (a' := ?_) #[true, true, false, false, true, false, false, true, false, false, false, false] rfl rfl (by kernel_rfl) (fun _ _ _ h => h) (Or.inl ⟨by rfl, ?_⟩) ?_ ?_
      rotate_left
      · intro w'
        go_simp
        with_reducible rfl
      rotate_left
      · simp only [Act.put, List.setIfInBounds_toArray, List.set_cons_zero, List.set_cons_succ, i64_w, i32_w]
        rfl
      refine pure_ (i := 9) (N := some 81) (v := ?_) (a' := ?_) #[true, true, false, false, true, false, false, true, false, true, false, false] rfl rfl (by kernel_rfl) (fun _ _ _ h => h) (Or.inl ⟨by rfl, ?_⟩) ?_ ?_
      rotate_left
      · intro w'
        go_simp
        with_reducible rfl
      rotate_left
      · simp only [Act.put, List.setIfInBounds_toArray, List.set_cons_zero, List.set_cons_succ, i64_w, i32_w]
        rfl
      refine take_ (i := 2) (N := some 74) (v := ?_) (a' := ?_) #[true, true, true, false, true, false, false, true, false, true, false, false] rfl rfl (by kernel_rfl) (fun _ _ _ h => h) (Or.inl ⟨by rfl, ?_⟩) hHeld ?_ ?_
      rotate_left
      · rintro w' ⟨s0, s1, s2, s3, s4, s5, s6, s7, s8, s9⟩
        go_simp
        with_reducible rfl
      rotate_left
      · simp only [Act.put, List.setIfInBounds_toArray, List.set_cons_zero, List.set_cons_succ, i64_w, i32_w]
        rfl
      refine take_ (i := 3) (N := some 75) (v := ?_) (a' := ?_) #[true, true, true, true, true, false, false, true, false, true, false, false] rfl rfl (by kernel_rfl) (fun _ _ _ h => h) (Or.inl ⟨by rfl, ?_⟩) hHeld ?_ ?_
      rotate_left
      · rintro w' ⟨s0, s1, s2, s3, s4, s5, s6, s7, s8, s9⟩
        go_simp
        with_reducible rfl
      rotate_left
      · simp only [Act.put, List.setIfInBounds_toArray, List.set_cons_zero, List.set_cons_succ, i64_w, i32_w]
        rfl
      refine take_ (i := 5) (N := some 77) (v := ?_) (a' := ?_) #[true, true, true, true, true, true, false, true, false, true, false, false] rfl rfl (by kernel_rfl) (fun _ _ _ h => h) (Or.inl ⟨by rfl, ?_⟩) hHeld ?_ ?_
      rotate_left
      · rintro w' ⟨s0, s1, s2, s3, s4, s5, s6, s7, s8, s9⟩
        go_simp
        with_reducible rfl
      rotate_left
      · simp only [Act.put, List.setIfInBounds_toArray, List.set_cons_zero, List.set_cons_succ, i64_w, i32_w]
        rfl
      refine take_ (i := 8) (N := some 80) (v := ?_) (a' := ?_) #[true, true, true, true, true, true, false, true, true, true, false, false] rfl rfl (by kernel_rfl) (fun _ _ _ h => h) (Or.inl ⟨by rfl, ?_⟩) hHeld ?_ ?_
      rotate_left
      · rintro w' ⟨s0, s1, s2, s3, s4, s5, s6, s7, s8, s9⟩
        go_simp
        with_reducible rfl
      rotate_left
      · simp only [Act.put, List.setIfInBounds_toArray, List.set_cons_zero, List.set_cons_succ, i64_w, i32_w]
        rfl
      refine pure_ (i := 10) (N := some 82) (v := ?_) (a' := ?_) #[true, true, true, true, true, true, false, true, true, true, true, false] rfl rfl (by kernel_rfl) (fun _ _ _ h => h) (Or.inl ⟨by rfl, ?_⟩) ?_ ?_
      rotate_left
      · intro w'
        go_simp
        with_reducible rfl
      rotate_left
      · simp only [Act.put, List.setIfInBounds_toArray, List.set_cons_zero, List.set_cons_succ, i64_w, i32_w]
        rfl
      refine one_ (i := 6) (N := some 78) #[true, true, true, true, true, true, true, true, true, true, true, false] rfl rfl (by kernel_rfl) (by decide) (fun K hK => ?_)
      refine goes_ Try.func18 (by kernel_rfl) rfl #[.pointer (some ⟨gi, 0, none⟩), Value.agg #[.int .i64 pk, .int .i64 ps, .int .i64 pp, .int .i64 id], .agg #[.int .u64 ox, .int .i64 oy, .bool ost], .agg #[.int .u64 vx, .int .i64 vy, .bool vst]] (by rfl) rfl rfl (by simp only [List.map_toArray, List.map_cons, List.map_nil]; rfl) ?_
      with_reducible refine (iswap_U gi g1 g2 gs g3 A pk ps pp id ox oy vx vy ost vst w0 _ DI.out.I DB.out).mono ?_
      rintro e w6 ⟨rfl, h1_, h2_, h3_⟩
      refine ⟨_, rfl, ?_⟩
      rw [SR.out]
      have I6 := Aside0.mk (DI.out.iT h1_ h3_)
      have B6 := Aside0.mk h2_
      have X6 := Aside0.mk (DI.out.I.staysT h3_ DX.out (by decide))
      have P6 := Aside0.mk (DI.out.I.staysT h3_ DP.out (by decide))
      have O6 := Aside0.mk (DI.out.I.staysT h3_ DO.out (by decide))
      clear h1_ h2_ h3_
      refine hK.out _ _ ⟨(blk_cell X6.out 1).trans rfl, (blk_cell X6.out 2).trans rfl, (blk_cell X6.out 3).trans rfl, (blk_cell X6.out 4).trans rfl, (blk_cell X6.out 8).trans rfl, (blk_cell X6.out 9).trans rfl, (blk_cell X6.out 10).trans rfl, (blk_cell O6.out 0).trans rfl, (blk_cell O6.out 1).trans rfl, (blk_cell O6.out 2).trans rfl⟩ (fun hHeld => ?_)
      clear hK K
      refine norm_ (a' := ?_) ?_ ?_
      rotate_left
      · show Act.put _ (some 78) _ = _
        simp only [Act.put, List.setIfInBounds_toArray, List.set_cons_zero, List.set_cons_succ, i64_w, i32_w]
        rfl
      refine pure_ (i := 11) (N := some 83) (v := ?_) (a' := ?_) #[true, true, true, true, true, true, true, true, true, true, true, true] rfl rfl (by kernel_rfl) (fun _ _ _ h => h) (Or.inl ⟨by rfl, ?_⟩) ?_ ?_
      rotate_left
      · intro w'
        go_simp
        with_reducible rfl
      rotate_left
      · simp only [Act.put, List.setIfInBounds_toArray, List.set_cons_zero, List.set_cons_succ, i64_w, i32_w]
        rfl
      refine done_ (by kernel_rfl) ?_
      have b4 : w6.cell? ⟨w.heap.size, 4, none⟩ = some (.int .i64 id) := (blk_cell X6.out 4).trans rfl
      have b8 : w6.cell? ⟨w.heap.size, 8, none⟩ = some (.int .u64 vx) := (blk_cell X6.out 8).trans rfl
      have b9 : w6.cell? ⟨w.heap.size, 9, none⟩ = some (.int .i64 vy) := (blk_cell X6.out 9).trans rfl
      have p0 : w6.cell? ⟨(w.heap.size + 1), 0, none⟩ = some (.int .i64 pk) := (blk_cell P6.out 0).trans rfl
      have p1 : w6.cell? ⟨(w.heap.size + 1), 1, none⟩ = some (.int .i64 ps) := (blk_cell P6.out 1).trans rfl
      have p2 : w6.cell? ⟨(w.heap.size + 1), 2, none⟩ = some (.int .i64 pp) := (blk_cell P6.out 2).trans rfl
      have o0 : w6.cell? ⟨go, 0, none⟩ = some (.int .u64 ox) := (blk_cell O6.out 0).trans rfl
      go_wp2_with fail
      go_ret
      exact ⟨rfl, swapA A (ofK pk ps pp id) ox vx vy, U, I6.out, (by rw [SA.out]; exact HR.out.same rfl rfl rfl rfl), B6.out, lok_same HL.out, by rw [HMM.out]; exact cok_swap HC.out HM.out _ _ _ _⟩
  have u3 : (kd == 3) = false := beq_eq_false_iff_ne.mpr k3
  by_cases k4 : kd = 4
  · subst k4
    have HMM := Aside0.mk (HMM.out.trans (by rw [if_pos (by decide)] : _ = m + 1))
    have b0 : w4.cell? ⟨w.heap.size, 0, none⟩ = some (.int .i64 4) := (blk_cell X4.out 0).trans rfl
    have b1 : w4.cell? ⟨w.heap.size, 1, none⟩ = some (.int .i64 pk) := (blk_cell X4.out 1).trans rfl
    have b2 : w4.cell? ⟨w.heap.size, 2, none⟩ = some (.int .i64 ps) := (blk_cell X4.out 2).trans rfl
    have b3 : w4.cell? ⟨w.heap.size, 3, none⟩ = some (.int .i64 pp) := (blk_cell X4.out 3).trans rfl
    have b4 : w4.cell? ⟨w.heap.size, 4, none⟩ = some (.int .i64 id) := (blk_cell X4.out 4).trans rfl
    have b5 : w4.cell? ⟨w.heap.size, 5, none⟩ = some (.int .u64 ox) := (blk_cell X4.out 5).trans rfl
    have b6 : w4.cell? ⟨w.heap.size, 6, none⟩ = some (.int .i64 oy) := (blk_cell X4.out 6).trans rfl
    have b7 : w4.cell? ⟨w.heap.size, 7, none⟩ = some (.bool ost) := (blk_cell X4.out 7).trans rfl
    have b8 : w4.cell? ⟨w.heap.size, 8, none⟩ = some (.int .u64 vx) := (blk_cell X4.out 8).trans rfl
    have b9 : w4.cell? ⟨w.heap.size, 9, none⟩ = some (.int .i64 vy) := (blk_cell X4.out 9).trans rfl
    have b10 : w4.cell? ⟨w.heap.size, 10, none⟩ = some (.bool vst) := (blk_cell X4.out 10).trans rfl
    have p0 : w4.cell? ⟨(w.heap.size + 1), 0, none⟩ = some (.int .i64 pk) := (blk_cell P4.out 0).trans rfl
    have p1 : w4.cell? ⟨(w.heap.size + 1), 1, none⟩ = some (.int .i64 ps) := (blk_cell P4.out 1).trans rfl
    have p2 : w4.cell? ⟨(w.heap.size + 1), 2, none⟩ = some (.int .i64 pp) := (blk_cell P4.out 2).trans rfl
    have X5 := Aside0.mk (blk_alloc X4.out (.cells #[.int .u64 cu, .int .i64 oy, .bool ost] 28))
    have P5 := Aside0.mk (blk_alloc P4.out (.cells #[.int .u64 cu, .int .i64 oy, .bool ost] 28))
    have O5 := Aside0.mk (blk_new w4 (.cells #[.int .u64 cu, .int .i64 oy, .bool ost] 28))
    have I5 := Aside0.mk (I4.out.alloc (.cells #[.int .u64 cu, .int .i64 oy, .bool ost] 28))
    have B5 := Aside0.mk (below_alloc B4.out (.cells #[.int .u64 cu, .int .i64 oy, .bool ost] 28))
    have c0 : (w4.alloc (.cells #[.int .u64 ox, .int .i64 oy, .bool ost] 28)).cell? ⟨w.heap.size, 0, none⟩ = some (.int .i64 4) := (blk_cell (blk_alloc X4.out (.cells #[.int .u64 ox, .int .i64 oy, .bool ost] 28)) 0).trans rfl
    have c1 : (w4.alloc (.cells #[.int .u64 ox, .int .i64 oy, .bool ost] 28)).cell? ⟨w.heap.size, 1, none⟩ = some (.int .i64 pk) := (blk_cell (blk_alloc X4.out (.cells #[.int .u64 ox, .int .i64 oy, .bool ost] 28)) 1).trans rfl
    have c2 : (w4.alloc (.cells #[.int .u64 ox, .int .i64 oy, .bool ost] 28)).cell? ⟨w.heap.size, 2, none⟩ = some (.int .i64 ps) := (blk_cell (blk_alloc X4.out (.cells #[.int .u64 ox, .int .i64 oy, .bool ost] 28)) 2).trans rfl
    have c3 : (w4.alloc (.cells #[.int .u64 ox, .int .i64 oy, .bool ost] 28)).cell? ⟨w.heap.size, 3, none⟩ = some (.int .i64 pp) := (blk_cell (blk_alloc X4.out (.cells #[.int .u64 ox, .int .i64 oy, .bool ost] 28)) 3).trans rfl
    have c4 : (w4.alloc (.cells #[.int .u64 ox, .int .i64 oy, .bool ost] 28)).cell? ⟨w.heap.size, 4, none⟩ = some (.int .i64 id) := (blk_cell (blk_alloc X4.out (.cells #[.int .u64 ox, .int .i64 oy, .bool ost] 28)) 4).trans rfl
    have c5 : (w4.alloc (.cells #[.int .u64 ox, .int .i64 oy, .bool ost] 28)).cell? ⟨w.heap.size, 5, none⟩ = some (.int .u64 ox) := (blk_cell (blk_alloc X4.out (.cells #[.int .u64 ox, .int .i64 oy, .bool ost] 28)) 5).trans rfl
    have c6 : (w4.alloc (.cells #[.int .u64 ox, .int .i64 oy, .bool ost] 28)).cell? ⟨w.heap.size, 6, none⟩ = some (.int .i64 oy) := (blk_cell (blk_alloc X4.out (.cells #[.int .u64 ox, .int .i64 oy, .bool ost] 28)) 6).trans rfl
    have c7 : (w4.alloc (.cells #[.int .u64 ox, .int .i64 oy, .bool ost] 28)).cell? ⟨w.heap.size, 7, none⟩ = some (.bool ost) := (blk_cell (blk_alloc X4.out (.cells #[.int .u64 ox, .int .i64 oy, .bool ost] 28)) 7).trans rfl
    have c8 : (w4.alloc (.cells #[.int .u64 ox, .int .i64 oy, .bool ost] 28)).cell? ⟨w.heap.size, 8, none⟩ = some (.int .u64 vx) := (blk_cell (blk_alloc X4.out (.cells #[.int .u64 ox, .int .i64 oy, .bool ost] 28)) 8).trans rfl
    have c9 : (w4.alloc (.cells #[.int .u64 ox, .int .i64 oy, .bool ost] 28)).cell? ⟨w.heap.size, 9, none⟩ = some (.int .i64 vy) := (blk_cell (blk_alloc X4.out (.cells #[.int .u64 ox, .int .i64 oy, .bool ost] 28)) 9).trans rfl
    have c10 : (w4.alloc (.cells #[.int .u64 ox, .int .i64 oy, .bool ost] 28)).cell? ⟨w.heap.size, 10, none⟩ = some (.bool vst) := (blk_cell (blk_alloc X4.out (.cells #[.int .u64 ox, .int .i64 oy, .bool ost] 28)) 10).trans rfl
    have o0 : (w4.alloc (.cells #[.int .u64 ox, .int .i64 oy, .bool ost] 28)).cell? ⟨w4.heap.size, 0, none⟩ = some (.int .u64 ox) := (blk_cell (blk_new w4 (.cells #[.int .u64 ox, .int .i64 oy, .bool ost] 28)) 0).trans rfl
    have o1 : (w4.alloc (.cells #[.int .u64 ox, .int .i64 oy, .bool ost] 28)).cell? ⟨w4.heap.size, 1, none⟩ = some (.int .i64 oy) := (blk_cell (blk_new w4 (.cells #[.int .u64 ox, .int .i64 oy, .bool ost] 28)) 1).trans rfl
    have o2 : (w4.alloc (.cells #[.int .u64 ox, .int .i64 oy, .bool ost] 28)).cell? ⟨w4.heap.size, 2, none⟩ = some (.bool ost) := (blk_cell (blk_new w4 (.cells #[.int .u64 ox, .int .i64 oy, .bool ost] 28)) 2).trans rfl
    have of0 : (w4.alloc (.cells #[.int .u64 ox, .int .i64 oy, .bool ost] 28)).frozen? ⟨w4.heap.size, 0, none⟩ = false := blk_frozen (blk_new w4 (.cells #[.int .u64 ox, .int .i64 oy, .bool ost] 28)) 0
    go_wp2_with fail
    clear b0 b1 b2 b3 b4 b5 b6 b7 b8 b9 b10 p0 p1 p2 c0 c1 c2 c3 c4 c5 c6 c7 c8 c9 c10 o0 o1 o2 of0
    generalize w4.alloc (.cells #[.int .u64 cu, .int .i64 oy, .bool ost] 28) = w5 at *
    generalize w4.heap.size = go at *
    have DX := Aside0.mk (blk_drew X5.out)
    have DP := Aside0.mk (blk_drew P5.out)
    have DO := Aside0.mk (blk_drew O5.out)
    have DI := Aside0.mk I5.out.drew
    have DB := Aside0.mk (below_drew B5.out)
    have te : (cu == cu) = true := beq_self_eq_true cu
    have SR := Aside0.mk (show swapR A (ofK pk ps pp id) cu = true from decide_eq_true CU.out)
    have SA := Aside0.mk (show swapA A (ofK pk ps pp id) cu vx vy = putA { A with c3 := wrap64 (A.c3 + 1) } (ofK pk ps pp id) vx vy from if_pos CU.out)
    refine start_ (n := 12) (S := fun w' => w'.cell? ⟨w.heap.size, 1, none⟩ = some (.int .i64 pk) ∧ w'.cell? ⟨w.heap.size, 2, none⟩ = some (.int .i64 ps) ∧ w'.cell? ⟨w.heap.size, 3, none⟩ = some (.int .i64 pp) ∧ w'.cell? ⟨w.heap.size, 4, none⟩ = some (.int .i64 id) ∧ w'.cell? ⟨w.heap.size, 8, none⟩ = some (.int .u64 vx) ∧ w'.cell? ⟨w.heap.size, 9, none⟩ = some (.int .i64 vy) ∧ w'.cell? ⟨w.heap.size, 10, none⟩ = some (.bool vst) ∧ w'.cell? ⟨go, 0, none⟩ = some (.int .u64 cu) ∧ w'.cell? ⟨go, 1, none⟩ = some (.int .i64 oy) ∧ w'.cell? ⟨go, 2, none⟩ = some (.bool ost)) (ds := []) #[false, false, false, false, false, false, false, false, false, false, false, false] (by kernel_rfl) rfl rfl ⟨(blk_cell DX.out 1).trans rfl, (blk_cell DX.out 2).trans rfl, (blk_cell DX.out 3).trans rfl, (blk_cell DX.out 4).trans rfl, (blk_cell DX.out 8).trans rfl, (blk_cell DX.out 9).trans rfl, (blk_cell DX.out 10).trans rfl, (blk_cell DO.out 0).trans rfl, (blk_cell DO.out 1).trans rfl, (blk_cell DO.out 2).trans rfl⟩ (fun hHeld => ?_)
    refine pure_ (i := 0) (N := some 72) (v := ?_) (a' := ?_) #[true, false, false, false, false, false, false, false, false, false, false, false] rfl rfl (by kernel_rfl) (fun _ _ _ h => h) (Or.inl ⟨by rfl, ?_⟩) ?_ ?_
    rotate_left
    · intro w'
      go_simp
      with_reducible rfl
    rotate_left
    · simp only [Act.put, List.setIfInBounds_toArray, List.set_cons_zero, List.set_cons_succ, i64_w, i32_w]
      rfl
    refine pure_ (i := 1) (N := some 73) (v := ?_) (a' := ?_) #[true, true, false, false, false, false, false, false, false, false, false, false] rfl rfl (by kernel_rfl) (fun _ _ _ h => h) (Or.inl ⟨by rfl, ?_⟩) ?_ ?_
    rotate_left
    · intro w'
      go_simp
      with_reducible rfl
    rotate_left
    · simp only [Act.put, List.setIfInBounds_toArray, List.set_cons_zero, List.set_cons_succ, i64_w, i32_w]
      rfl
    refine pure_ (i := 4) (N := some 76) (v := ?_) (a' := ?_) #[true, true, false, false, true, false, false, false, false, false, false, false] rfl rfl (by kernel_rfl) (fun _ _ _ h => h) (Or.inl ⟨by rfl, ?_⟩) ?_ ?_
    rotate_left
    · intro w'
      go_simp
      with_reducible rfl
    rotate_left
    · simp only [Act.put, List.setIfInBounds_toArray, List.set_cons_zero, List.set_cons_succ, i64_w, i32_w]
      rfl
    refine pure_ (i := 7) (N := some 79) (v := ?_) (a' := ?_) #[true, true, false, false, true, false, false, true, false, false, false, false] rfl rfl (by kernel_rfl) (fun _ _ _ h => h) (Or.inl ⟨by rfl, ?_⟩) ?_ ?_
    rotate_left
    · intro w'
      go_simp
      with_reducible rfl
    rotate_left
    · simp only [Act.put, List.setIfInBounds_toArray, List.set_cons_zero, List.set_cons_succ, i64_w, i32_w]
      rfl
    refine pure_ (i := 9) (N := some 81) (v := ?_) (a' := ?_) #[true, true, false, false, true, false, false, true, false, true, false, false] rfl rfl (by kernel_rfl) (fun _ _ _ h => h) (Or.inl ⟨by rfl, ?_⟩) ?_ ?_
    rotate_left
    · intro w'
      go_simp
      with_reducible rfl
    rotate_left
    · simp only [Act.put, List.setIfInBounds_toArray, List.set_cons_zero, List.set_cons_succ, i64_w, i32_w]
      rfl
    refine take_ (i := 2) (N := some 74) (v := ?_) (a' := ?_) #[true, true, true, false, true, false, false, true, false, true, false, false] rfl rfl (by kernel_rfl) (fun _ _ _ h => h) (Or.inl ⟨by rfl, ?_⟩) hHeld ?_ ?_
    rotate_left
    · rintro w' ⟨s0, s1, s2, s3, s4, s5, s6, s7, s8, s9⟩
      go_simp
      with_reducible rfl
    rotate_left
    · simp only [Act.put, List.setIfInBounds_toArray, List.set_cons_zero, List.set_cons_succ, i64_w, i32_w]
      rfl
    refine take_ (i := 3) (N := some 75) (v := ?_) (a' := ?_) #[true, true, true, true, true, false, false, true, false, true, false, false] rfl rfl (by kernel_rfl) (fun _ _ _ h => h) (Or.inl ⟨by rfl, ?_⟩) hHeld ?_ ?_
    rotate_left
    · rintro w' ⟨s0, s1, s2, s3, s4, s5, s6, s7, s8, s9⟩
      go_simp
      with_reducible rfl
    rotate_left
    · simp only [Act.put, List.setIfInBounds_toArray, List.set_cons_zero, List.set_cons_succ, i64_w, i32_w]
      rfl
    refine take_ (i := 5) (N := some 77) (v := ?_) (a' := ?_) #[true, true, true, true, true, true, false, true, false, true, false, false] rfl rfl (by kernel_rfl) (fun _ _ _ h => h) (Or.inl ⟨by rfl, ?_⟩) hHeld ?_ ?_
    rotate_left
    · rintro w' ⟨s0, s1, s2, s3, s4, s5, s6, s7, s8, s9⟩
      go_simp
      with_reducible rfl
    rotate_left
    · simp only [Act.put, List.setIfInBounds_toArray, List.set_cons_zero, List.set_cons_succ, i64_w, i32_w]
      rfl
    refine take_ (i := 8) (N := some 80) (v := ?_) (a' := ?_) #[true, true, true, true, true, true, false, true, true, true, false, false] rfl rfl (by kernel_rfl) (fun _ _ _ h => h) (Or.inl ⟨by rfl, ?_⟩) hHeld ?_ ?_
    rotate_left
    · rintro w' ⟨s0, s1, s2, s3, s4, s5, s6, s7, s8, s9⟩
      go_simp
      with_reducible rfl
    rotate_left
    · simp only [Act.put, List.setIfInBounds_toArray, List.set_cons_zero, List.set_cons_succ, i64_w, i32_w]
      rfl
    refine pure_ (i := 10) (N := some 82) (v := ?_) (a' := ?_) #[true, true, true, true, true, true, false, true, true, true, true, false] rfl rfl (by kernel_rfl) (fun _ _ _ h => h) (Or.inl ⟨by rfl, ?_⟩) ?_ ?_
    rotate_left
    · intro w'
      go_simp
      with_reducible rfl
    rotate_left
    · simp only [Act.put, List.setIfInBounds_toArray, List.set_cons_zero, List.set_cons_succ, i64_w, i32_w]
      rfl
    refine one_ (i := 6) (N := some 78) #[true, true, true, true, true, true, true, true, true, true, true, false] rfl rfl (by kernel_rfl) (by decide) (fun K hK => ?_)
    refine goes_ Try.func18 (by kernel_rfl) rfl #[.pointer (some ⟨gi, 0, none⟩), Value.agg #[.int .i64 pk, .int .i64 ps, .int .i64 pp, .int .i64 id], .agg #[.int .u64 cu, .int .i64 oy, .bool ost], .agg #[.int .u64 vx, .int .i64 vy, .bool vst]] (by rfl) rfl rfl (by simp only [List.map_toArray, List.map_cons, List.map_nil]; rfl) ?_
    with_reducible refine (iswap_U gi g1 g2 gs g3 A pk ps pp id cu oy vx vy ost vst w0 _ DI.out.I DB.out).mono ?_
    rintro e w6 ⟨rfl, h1_, h2_, h3_⟩
    refine ⟨_, rfl, ?_⟩
    rw [SR.out]
    have I6 := Aside0.mk (DI.out.iT h1_ h3_)
    have B6 := Aside0.mk h2_
    have X6 := Aside0.mk (DI.out.I.staysT h3_ DX.out (by decide))
    have P6 := Aside0.mk (DI.out.I.staysT h3_ DP.out (by decide))
    have O6 := Aside0.mk (DI.out.I.staysT h3_ DO.out (by decide))
    clear h1_ h2_ h3_
    refine hK.out _ _ ⟨(blk_cell X6.out 1).trans rfl, (blk_cell X6.out 2).trans rfl, (blk_cell X6.out 3).trans rfl, (blk_cell X6.out 4).trans rfl, (blk_cell X6.out 8).trans rfl, (blk_cell X6.out 9).trans rfl, (blk_cell X6.out 10).trans rfl, (blk_cell O6.out 0).trans rfl, (blk_cell O6.out 1).trans rfl, (blk_cell O6.out 2).trans rfl⟩ (fun hHeld => ?_)
    clear hK K
    refine norm_ (a' := ?_) ?_ ?_
    rotate_left
    · show Act.put _ (some 78) _ = _
      simp only [Act.put, List.setIfInBounds_toArray, List.set_cons_zero, List.set_cons_succ, i64_w, i32_w]
      rfl
    refine pure_ (i := 11) (N := some 83) (v := ?_) (a' := ?_) #[true, true, true, true, true, true, true, true, true, true, true, true] rfl rfl (by kernel_rfl) (fun _ _ _ h => h) (Or.inl ⟨by rfl, ?_⟩) ?_ ?_
    rotate_left
    · intro w'
      go_simp
      with_reducible rfl
    rotate_left
    · simp only [Act.put, List.setIfInBounds_toArray, List.set_cons_zero, List.set_cons_succ, i64_w, i32_w]
      rfl
    refine done_ (by kernel_rfl) ?_
    have b4 : w6.cell? ⟨w.heap.size, 4, none⟩ = some (.int .i64 id) := (blk_cell X6.out 4).trans rfl
    have b8 : w6.cell? ⟨w.heap.size, 8, none⟩ = some (.int .u64 vx) := (blk_cell X6.out 8).trans rfl
    have b9 : w6.cell? ⟨w.heap.size, 9, none⟩ = some (.int .i64 vy) := (blk_cell X6.out 9).trans rfl
    have p0 : w6.cell? ⟨(w.heap.size + 1), 0, none⟩ = some (.int .i64 pk) := (blk_cell P6.out 0).trans rfl
    have p1 : w6.cell? ⟨(w.heap.size + 1), 1, none⟩ = some (.int .i64 ps) := (blk_cell P6.out 1).trans rfl
    have p2 : w6.cell? ⟨(w.heap.size + 1), 2, none⟩ = some (.int .i64 pp) := (blk_cell P6.out 2).trans rfl
    have o0 : w6.cell? ⟨go, 0, none⟩ = some (.int .u64 cu) := (blk_cell O6.out 0).trans rfl
    go_wp2_with fail
    clear b4 b8 b9 p0 p1 p2 o0
    refine (rset_T pk ps pp id vx vy I6.out.R B6.out LW.out LL.out H9.out).mono ?_
    rintro e w7 ⟨rfl, h1_, h2_, h3_⟩
    have I7 := Aside0.mk (I6.out.uS h1_ h3_)
    have B7 := Aside0.mk h2_
    clear h1_ h2_ h3_
    go_wp2_with fail
    go_ret
    exact ⟨rfl, swapA A (ofK pk ps pp id) cu vx vy, { U with W := oset U.W (whereR pk ps pp id) vx, L := oset U.L (whereR pk ps pp id) (IntKind.u64.wrap vy) }, I7.out, (by rw [SA.out]; exact (HR.out.same (A' := { A with c3 := wrap64 (A.c3 + 1) }) rfl rfl rfl rfl).put2 H9.out vx vy HY.out), B7.out, lok_set HL.out _ _ _, by rw [HMM.out]; exact cok_swap HC.out HM.out _ _ _ _⟩
  have u4 : (kd == 4) = false := beq_eq_false_iff_ne.mpr k4
  by_cases k5 : kd = 5
  · subst k5
    have HMM := Aside0.mk (HMM.out.trans (by rw [if_pos (by decide)] : _ = m + 1))
    have b0 : w4.cell? ⟨w.heap.size, 0, none⟩ = some (.int .i64 5) := (blk_cell X4.out 0).trans rfl
    go_wp2_with fail
    clear b0
    have DX := Aside0.mk (blk_drew X4.out)
    have DP := Aside0.mk (blk_drew P4.out)
    have DA := Aside0.mk (blk_drew A4.out)
    have DI := Aside0.mk I4.out.drew
    have DB := Aside0.mk (below_drew B4.out)
    refine start_ (n := 10) (S := fun w' => w'.cell? ⟨w.heap.size, 8, none⟩ = some (.int .u64 vx) ∧ w'.cell? ⟨ga, 0, none⟩ = some (.int .i64 a) ∧ w'.cell? ⟨ga, 1, none⟩ = some (.int .i64 b) ∧ w'.cell? ⟨ga, 2, none⟩ = some (.int .i64 c)) (ds := [9]) #[false, false, false, false, false, false, false, false, false, false] (by kernel_rfl) rfl rfl ⟨(blk_cell DX.out 8).trans rfl, (blk_cell DA.out 0).trans rfl, (blk_cell DA.out 1).trans rfl, (blk_cell DA.out 2).trans rfl⟩ (fun hHeld => ?_)
    refine pure_ (i := 0) (N := some 102) (v := ?_) (a' := ?_) #[true, false, false, false, false, false, false, false, false, false] rfl rfl (by kernel_rfl) (fun _ _ _ h => h) (Or.inl ⟨by rfl, ?_⟩) ?_ ?_
    rotate_left
    · intro w'
      go_simp
      with_reducible rfl
    rotate_left
    · simp only [Act.put, List.setIfInBounds_toArray, List.set_cons_zero, List.set_cons_succ, i64_w, i32_w]
      rfl
    refine pure_ (i := 1) (N := some 103) (v := ?_) (a' := ?_) #[true, true, false, false, false, false, false, false, false, false] rfl rfl (by kernel_rfl) (fun _ _ _ h => h) (Or.inl ⟨by rfl, ?_⟩) ?_ ?_
    rotate_left
    · intro w'
      go_simp
      with_reducible rfl
    rotate_left
    · simp only [Act.put, List.setIfInBounds_toArray, List.set_cons_zero, List.set_cons_succ, i64_w, i32_w]
      rfl
    refine pure_ (i := 2) (N := some 104) (v := ?_) (a' := ?_) #[true, true, true, false, false, false, false, false, false, false] rfl rfl (by kernel_rfl) (fun _ _ _ h => h) (Or.inl ⟨by rfl, ?_⟩) ?_ ?_
    rotate_left
    · intro w'
      go_simp
      with_reducible rfl
    rotate_left
    · simp only [Act.put, List.setIfInBounds_toArray, List.set_cons_zero, List.set_cons_succ, i64_w, i32_w]
      rfl
    refine pure_ (i := 4) (N := some 106) (v := ?_) (a' := ?_) #[true, true, true, false, true, false, false, false, false, false] rfl rfl (by kernel_rfl) (fun _ _ _ h => h) (Or.inl ⟨by rfl, ?_⟩) ?_ ?_
    rotate_left
    · intro w'
      go_simp
      with_reducible rfl
    rotate_left
    · simp only [Act.put, List.setIfInBounds_toArray, List.set_cons_zero, List.set_cons_succ, i64_w, i32_w]
      rfl
    refine pure_ (i := 5) (N := some 107) (v := ?_) (a' := ?_) #[true, true, true, false, true, true, false, false, false, false] rfl rfl (by kernel_rfl) (fun _ _ _ h => h) (Or.inl ⟨by rfl, ?_⟩) ?_ ?_
    rotate_left
    · intro w'
      go_simp
      with_reducible rfl
    rotate_left
    · simp only [Act.put, List.setIfInBounds_toArray, List.set_cons_zero, List.set_cons_succ, i64_w, i32_w]
      rfl
    refine pure_ (i := 6) (N := some 108) (v := ?_) (a' := ?_) #[true, true, true, false, true, true, true, false, false, false] rfl rfl (by kernel_rfl) (fun _ _ _ h => h) (Or.inl ⟨by rfl, ?_⟩) ?_ ?_
    rotate_left
    · intro w'
      go_simp
      with_reducible rfl
    rotate_left
    · simp only [Act.put, List.setIfInBounds_toArray, List.set_cons_zero, List.set_cons_succ, i64_w, i32_w]
      rfl
    refine take_ (i := 3) (N := some 105) (v := ?_) (a' := ?_) #[true, true, true, true, true, true, true, false, false, false] rfl rfl (by kernel_rfl) (fun _ _ _ h => h) (Or.inl ⟨by rfl, ?_⟩) hHeld ?_ ?_
    rotate_left
    · rintro w' ⟨s0, s1, s2, s3⟩
      go_simp
      with_reducible rfl
    rotate_left
    · simp only [Act.put, List.setIfInBounds_toArray, List.set_cons_zero, List.set_cons_succ, i64_w, i32_w]
      rfl
    refine take_ (i := 7) (N := some 109) (v := ?_) (a' := ?_) #[true, true, true, true, true, true, true, true, false, false] rfl rfl (by kernel_rfl) (fun _ _ _ h => h) (Or.inl ⟨by rfl, ?_⟩) hHeld ?_ ?_
    rotate_left
    · rintro w' ⟨s0, s1, s2, s3⟩
      go_simp
      with_reducible rfl
    rotate_left
    · simp only [Act.put, List.setIfInBounds_toArray, List.set_cons_zero, List.set_cons_succ, i64_w, i32_w]
      rfl
    refine pure_ (i := 8) (N := some 110) (v := ?_) (a' := ?_) #[true, true, true, true, true, true, true, true, true, false] rfl rfl (by kernel_rfl) (fun _ _ _ h => h) (Or.inl ⟨by rfl, ?_⟩) ?_ ?_
    rotate_left
    · intro w'
      go_simp
      with_reducible rfl
    rotate_left
    · simp only [Act.put, List.setIfInBounds_toArray, List.set_cons_zero, List.set_cons_succ, i64_w, i32_w]
      rfl
    refine last_ (i := 9) (N := some 111) #[true, true, true, true, true, true, true, true, true, true] rfl rfl (by kernel_rfl) (by decide) (fun K hK => ?_)
    refine goes_ Try.func85 (by kernel_rfl) rfl #[.pointer (some ⟨gu, 0, none⟩), Value.agg #[.int .i64 a, .int .i64 b, .int .i64 c], .int .u64 (IntKind.u64.wrap (cu + vx))] (by rfl) rfl rfl (by simp only [List.map_toArray, List.map_cons, List.map_nil]; rfl) ?_
    with_reducible refine (rsetW_T a b c (IntKind.u64.wrap (cu + vx)) DI.out.R DB.out (by decide) LW.out).mono ?_
    rintro e w5 ⟨rfl, h1_, h2_, h3_⟩
    refine ⟨_, rfl, ?_⟩
    have I5 := Aside0.mk (DI.out.uS h1_ h3_)
    have B5 := Aside0.mk h2_
    have X5 := Aside0.mk (refS_stays h3_ DX.out (by decide) (by decide))
    clear h1_ h2_ h3_
    refine hK.out _ _ ?_
    clear hK K
    refine norm_ (a' := ?_) ?_ ?_
    rotate_left
    · show Act.put _ (some 111) _ = _
      simp only [Act.put, List.setIfInBounds_toArray, List.set_cons_zero, List.set_cons_succ, i64_w, i32_w]
      rfl
    refine done_ (by kernel_rfl) ?_
    have b1 : w5.cell? ⟨w.heap.size, 1, none⟩ = some (.int .i64 pk) := (blk_cell X5.out 1).trans rfl
    have b2 : w5.cell? ⟨w.heap.size, 2, none⟩ = some (.int .i64 ps) := (blk_cell X5.out 2).trans rfl
    have b3 : w5.cell? ⟨w.heap.size, 3, none⟩ = some (.int .i64 pp) := (blk_cell X5.out 3).trans rfl
    have b4 : w5.cell? ⟨w.heap.size, 4, none⟩ = some (.int .i64 id) := (blk_cell X5.out 4).trans rfl
    have b8 : w5.cell? ⟨w.heap.size, 8, none⟩ = some (.int .u64 vx) := (blk_cell X5.out 8).trans rfl
    go_wp2_with fail
    clear b1 b2 b3 b4 b8
    refine (iadd_U gi g1 g2 gs g3 A pk ps pp id vx w0 _ I5.out.I B5.out).mono ?_
    rintro e w6 ⟨rfl, h1_, h2_, h3_⟩
    rw [CU.out]
    have I6 := Aside0.mk (I5.out.iT h1_ h3_)
    have B6 := Aside0.mk h2_
    clear h1_ h2_ h3_
    have te : (cu == cu) = true := beq_self_eq_true cu
    go_wp2_with fail
    go_ret
    exact ⟨rfl, addA A (ofK pk ps pp id) vx, { U with W := oset U.W (a, b, c) (IntKind.u64.wrap (cu + vx)) }, I6.out, (by rw [← HK.out, show addA A (ofK pk ps pp id) vx = { { A with c5 := wrap64 (A.c5 + 1) } with words := put A.words (ofK pk ps pp id) (IntKind.u64.wrap (cu + vx)) } by rw [← CU.out]; rfl]; exact (HR.out.same (A' := { A with c5 := wrap64 (A.c5 + 1) }) rfl rfl rfl rfl).word H9.out _), B6.out, lok_setW HL.out _ _, by rw [HMM.out]; exact cok_add HC.out HM.out _ _⟩
  have u5 : (kd == 5) = false := beq_eq_false_iff_ne.mpr k5
  have NK := Aside0.mk (show ¬ (1 ≤ kd ∧ kd ≤ 5) by omega)
  clear k1 k2 k3 k4 k5
  by_cases k6 : kd = 6
  · subst k6
    have HMM := Aside0.mk (HMM.out.trans (by rw [if_neg (by decide), Int.add_zero] : _ = m))
    have b0 : w4.cell? ⟨w.heap.size, 0, none⟩ = some (.int .i64 6) := (blk_cell X4.out 0).trans rfl
    go_wp2_with fail
    clear b0
    have DX := Aside0.mk (blk_drew X4.out)
    have DP := Aside0.mk (blk_drew P4.out)
    have DA := Aside0.mk (blk_drew A4.out)
    have DI := Aside0.mk I4.out.drew
    have DB := Aside0.mk (below_drew B4.out)
    have RE := Aside0.mk (show bornId A.row ps = bornId U.R ps by rw [HR.out.row])
    have LA := Aside0.mk (show A.row.length ≤ 100000 by rw [HR.out.row]; exact LB.out)
    have te : (bornId U.R ps == bornId U.R ps) = true := beq_self_eq_true _
    refine start_ (n := 12) (S := fun w' => w'.cell? ⟨(w.heap.size + 1), 1, none⟩ = some (.int .i64 ps)) (ds := [9]) #[false, false, false, false, false, false, false, false, false, false, false, false] (by kernel_rfl) rfl rfl ((blk_cell DP.out 1).trans rfl) (fun hHeld => ?_)
    refine pure_ (i := 0) (N := some 123) (v := ?_) (a' := ?_) #[true, false, false, false, false, false, false, false, false, false, false, false] rfl rfl (by kernel_rfl) (fun _ _ _ h => h) (Or.inl ⟨by rfl, ?_⟩) ?_ ?_
    rotate_left
    · intro w'
      go_simp
      with_reducible rfl
    rotate_left
    · simp only [Act.put, List.setIfInBounds_toArray, List.set_cons_zero, List.set_cons_succ, i64_w, i32_w]
      rfl
    refine pure_ (i := 1) (N := some 124) (v := ?_) (a' := ?_) #[true, true, false, false, false, false, false, false, false, false, false, false] rfl rfl (by kernel_rfl) (fun _ _ _ h => h) (Or.inl ⟨by rfl, ?_⟩) ?_ ?_
    rotate_left
    · intro w'
      go_simp
      with_reducible rfl
    rotate_left
    · simp only [Act.put, List.setIfInBounds_toArray, List.set_cons_zero, List.set_cons_succ, i64_w, i32_w]
      rfl
    refine pure_ (i := 4) (N := some 127) (v := ?_) (a' := ?_) #[true, true, false, false, true, false, false, false, false, false, false, false] rfl rfl (by kernel_rfl) (fun _ _ _ h => h) (Or.inl ⟨by rfl, ?_⟩) ?_ ?_
    rotate_left
    · intro w'
      go_simp
      with_reducible rfl
    rotate_left
    · simp only [Act.put, List.setIfInBounds_toArray, List.set_cons_zero, List.set_cons_succ, i64_w, i32_w]
      rfl
    refine pure_ (i := 5) (N := some 128) (v := ?_) (a' := ?_) #[true, true, false, false, true, true, false, false, false, false, false, false] rfl rfl (by kernel_rfl) (fun _ _ _ h => h) (Or.inl ⟨by rfl, ?_⟩) ?_ ?_
    rotate_left
    · intro w'
      go_simp
      with_reducible rfl
    rotate_left
    · simp only [Act.put, List.setIfInBounds_toArray, List.set_cons_zero, List.set_cons_succ, i64_w, i32_w]
      rfl
    refine pure_ (i := 6) (N := some 129) (v := ?_) (a' := ?_) #[true, true, false, false, true, true, true, false, false, false, false, false] rfl rfl (by kernel_rfl) (fun _ _ _ h => h) (Or.inl ⟨by rfl, ?_⟩) ?_ ?_
    rotate_left
    · intro w'
      go_simp
      with_reducible rfl
    rotate_left
    · simp only [Act.put, List.setIfInBounds_toArray, List.set_cons_zero, List.set_cons_succ, i64_w, i32_w]
      rfl
    refine pure_ (i := 7) (N := some 130) (v := ?_) (a' := ?_) #[true, true, false, false, true, true, true, true, false, false, false, false] rfl rfl (by kernel_rfl) (fun _ _ _ h => h) (Or.inl ⟨by rfl, ?_⟩) ?_ ?_
    rotate_left
    · intro w'
      go_simp
      with_reducible rfl
    rotate_left
    · simp only [Act.put, List.setIfInBounds_toArray, List.set_cons_zero, List.set_cons_succ, i64_w, i32_w]
      rfl
    refine take_ (i := 2) (N := some 125) (v := ?_) (a' := ?_) #[true, true, true, false, true, true, true, true, false, false, false, false] rfl rfl (by kernel_rfl) (fun _ _ _ h => h) (Or.inl ⟨by rfl, ?_⟩) hHeld ?_ ?_
    rotate_left
    · intro w' s0
      go_simp
      with_reducible rfl
    rotate_left
    · simp only [Act.put, List.setIfInBounds_toArray, List.set_cons_zero, List.set_cons_succ, i64_w, i32_w]
      rfl
    refine take_ (i := 8) (N := some 131) (v := ?_) (a' := ?_) #[true, true, true, false, true, true, true, true, true, false, false, false] rfl rfl (by kernel_rfl) (fun _ _ _ h => h) (Or.inl ⟨by rfl, ?_⟩) hHeld ?_ ?_
    rotate_left
    · intro w' s0
      go_simp
      with_reducible rfl
    rotate_left
    · simp only [Act.put, List.setIfInBounds_toArray, List.set_cons_zero, List.set_cons_succ, i64_w, i32_w]
      rfl
    refine one_ (i := 3) (N := some 126) #[true, true, true, true, true, true, true, true, true, false, false, false] rfl rfl (by kernel_rfl) (by decide) (fun K hK => ?_)
    refine goes_ Try.func20 (by kernel_rfl) rfl #[.pointer (some ⟨gi, 0, none⟩), .int .i64 ps] (by rfl) rfl rfl (by simp only [List.map_toArray, List.map_cons, List.map_nil]; rfl) ?_
    with_reducible refine (iborn_U gi g1 g2 gs g3 A ps w0 _ DI.out.I DB.out LA.out).mono ?_
    rintro e w5 ⟨rfl, h1_, h2_, h3_, h4_⟩
    refine ⟨_, rfl, ?_⟩
    rw [RE.out]
    have I5 := Aside0.mk (DI.out.iB h1_ h3_ h4_)
    have B5 := Aside0.mk h2_
    have P5 := Aside0.mk (DI.out.I.staysB h3_ DP.out (by decide) (by decide))
    clear h1_ h2_ h3_ h4_
    refine hK.out _ _ ((blk_cell P5.out 1).trans rfl) (fun hHeld => ?_)
    clear hK K
    refine norm_ (a' := ?_) ?_ ?_
    rotate_left
    · show Act.put _ (some 126) _ = _
      simp only [Act.put, List.setIfInBounds_toArray, List.set_cons_zero, List.set_cons_succ, i64_w, i32_w]
      rfl
    refine last_ (i := 9) (N := some 132) #[true, true, true, true, true, true, true, true, true, true, false, false] rfl rfl (by kernel_rfl) (by decide) (fun K hK => ?_)
    refine goes_ Try.func70 (by kernel_rfl) rfl #[.pointer (some ⟨gu, 2, none⟩), .int .i64 ps] (by rfl) rfl rfl (by simp only [List.map_toArray, List.map_cons, List.map_nil]; rfl) ?_
    with_reducible refine (rbornU_T ps I5.out.R B5.out (by decide) LB.out).mono ?_
    rintro e w6 ⟨rfl, h1_, h2_, h3_⟩
    refine ⟨_, rfl, ?_⟩
    have I6 := Aside0.mk (I5.out.uB h1_ h3_)
    have B6 := Aside0.mk h2_
    clear h1_ h2_ h3_
    refine hK.out _ _ ?_
    clear hK K
    refine norm_ (a' := ?_) ?_ ?_
    rotate_left
    · show Act.put _ (some 132) _ = _
      simp only [Act.put, List.setIfInBounds_toArray, List.set_cons_zero, List.set_cons_succ, i64_w, i32_w]
      rfl
    refine pure_ (i := 10) (N := some 133) (v := ?_) (a' := ?_) #[true, true, true, true, true, true, true, true, true, true, true, false] rfl rfl (by kernel_rfl) (fun _ _ _ h => h) (Or.inl ⟨by rfl, ?_⟩) ?_ ?_
    rotate_left
    · intro w'
      go_simp
      with_reducible rfl
    rotate_left
    · simp only [Act.put, List.setIfInBounds_toArray, List.set_cons_zero, List.set_cons_succ, i64_w, i32_w]
      rfl
    refine pure_ (i := 11) (N := some 6) (v := ?_) (a' := ?_) #[true, true, true, true, true, true, true, true, true, true, true, true] rfl rfl (by kernel_rfl) (fun _ _ _ h => h) (Or.inl ⟨by rfl, ?_⟩) ?_ ?_
    rotate_left
    · intro w'
      go_simp
      with_reducible rfl
    rotate_left
    · simp only [Act.put, List.setIfInBounds_toArray, List.set_cons_zero, List.set_cons_succ, i64_w, i32_w]
      rfl
    refine done_ (by kernel_rfl) ?_
    go_wp2_with fail
    go_ret
    exact ⟨rfl, bornA A ps, { U with R := bornRow U.R ps }, I6.out, HR.out.born ps, B6.out, lok_born HL.out ps, by rw [HMM.out]; exact HC.out⟩
  have u6 : (kd == 6) = false := beq_eq_false_iff_ne.mpr k6
  clear k6
  by_cases k7 : kd = 7
  · subst k7
    have HMM := Aside0.mk (HMM.out.trans (by rw [if_neg (by decide), Int.add_zero] : _ = m))
    have b0 : w4.cell? ⟨w.heap.size, 0, none⟩ = some (.int .i64 7) := (blk_cell X4.out 0).trans rfl
    go_wp2_with fail
    clear b0
    have DX := Aside0.mk (blk_drew X4.out)
    have DP := Aside0.mk (blk_drew P4.out)
    have DA := Aside0.mk (blk_drew A4.out)
    have DI := Aside0.mk I4.out.drew
    have DB := Aside0.mk (below_drew B4.out)
    obtain ⟨nw, hnw⟩ : ∃ z, nowR U.R ps = z := ⟨_, rfl⟩
    obtain ⟨⟨a2, b2, c2⟩, hk2⟩ : ∃ k, whereR pk ps pp nw = k := ⟨_, rfl⟩
    obtain ⟨pw, hpw⟩ : ∃ z, oget U.W (a2, b2, c2) = z := ⟨_, rfl⟩
    have PK := Aside0.mk (show peekR A pk ps pp = pw by unfold peekR; rw [HR.out.now ps, hnw, HR.out.words pk ps pp nw H9.out, hk2]; exact hpw)
    have NW := Aside0.mk hnw
    have PW := Aside0.mk hpw
    have K2 := Aside0.mk hk2
    clear hnw hk2 hpw
    have te : (pw == pw) = true := beq_self_eq_true pw
    refine start_ (n := 17) (S := fun w' => w'.cell? ⟨(w.heap.size + 1), 0, none⟩ = some (.int .i64 pk) ∧ w'.cell? ⟨(w.heap.size + 1), 1, none⟩ = some (.int .i64 ps) ∧ w'.cell? ⟨(w.heap.size + 1), 2, none⟩ = some (.int .i64 pp)) (ds := [14]) #[false, false, false, false, false, false, false, false, false, false, false, false, false, false, false, false, false] (by kernel_rfl) rfl rfl ⟨(blk_cell DP.out 0).trans rfl, (blk_cell DP.out 1).trans rfl, (blk_cell DP.out 2).trans rfl⟩ (fun hHeld => ?_)
    refine pure_ (i := 0) (N := some 136) (v := ?_) (a' := ?_) #[true, false, false, false, false, false, false, false, false, false, false, false, false, false, false, false, false] rfl rfl (by kernel_rfl) (fun _ _ _ h => h) (Or.inl ⟨by rfl, ?_⟩) ?_ ?_
    rotate_left
    · intro w'
      go_simp
      with_reducible rfl
    rotate_left
    · simp only [Act.put, List.setIfInBounds_toArray, List.set_cons_zero, List.set_cons_succ, i64_w, i32_w]
      rfl
    refine pure_ (i := 3) (N := some 139) (v := ?_) (a' := ?_) #[true, false, false, true, false, false, false, false, false, false, false, false, false, false, false, false, false] rfl rfl (by kernel_rfl) (fun _ _ _ h => h) (Or.inl ⟨by rfl, ?_⟩) ?_ ?_
    rotate_left
    · intro w'
      go_simp
      with_reducible rfl
    rotate_left
    · simp only [Act.put, List.setIfInBounds_toArray, List.set_cons_zero, List.set_cons_succ, i64_w, i32_w]
      rfl
    refine pure_ (i := 4) (N := some 140) (v := ?_) (a' := ?_) #[true, false, false, true, true, false, false, false, false, false, false, false, false, false, false, false, false] rfl rfl (by kernel_rfl) (fun _ _ _ h => h) (Or.inl ⟨by rfl, ?_⟩) ?_ ?_
    rotate_left
    · intro w'
      go_simp
      with_reducible rfl
    rotate_left
    · simp only [Act.put, List.setIfInBounds_toArray, List.set_cons_zero, List.set_cons_succ, i64_w, i32_w]
      rfl
    refine pure_ (i := 5) (N := some 141) (v := ?_) (a' := ?_) #[true, false, false, true, true, true, false, false, false, false, false, false, false, false, false, false, false] rfl rfl (by kernel_rfl) (fun _ _ _ h => h) (Or.inl ⟨by rfl, ?_⟩) ?_ ?_
    rotate_left
    · intro w'
      go_simp
      with_reducible rfl
    rotate_left
    · simp only [Act.put, List.setIfInBounds_toArray, List.set_cons_zero, List.set_cons_succ, i64_w, i32_w]
      rfl
    refine pure_ (i := 7) (N := some 143) (v := ?_) (a' := ?_) #[true, false, false, true, true, true, false, true, false, false, false, false, false, false, false, false, false] rfl rfl (by kernel_rfl) (fun _ _ _ h => h) (Or.inl ⟨by rfl, ?_⟩) ?_ ?_
    rotate_left
    · intro w'
      go_simp
      with_reducible rfl
    rotate_left
    · simp only [Act.put, List.setIfInBounds_toArray, List.set_cons_zero, List.set_cons_succ, i64_w, i32_w]
      rfl
    refine pure_ (i := 8) (N := some 144) (v := ?_) (a' := ?_) #[true, false, false, true, true, true, false, true, true, false, false, false, false, false, false, false, false] rfl rfl (by kernel_rfl) (fun _ _ _ h => h) (Or.inl ⟨by rfl, ?_⟩) ?_ ?_
    rotate_left
    · intro w'
      go_simp
      with_reducible rfl
    rotate_left
    · simp only [Act.put, List.setIfInBounds_toArray, List.set_cons_zero, List.set_cons_succ, i64_w, i32_w]
      rfl
    refine pure_ (i := 9) (N := some 145) (v := ?_) (a' := ?_) #[true, false, false, true, true, true, false, true, true, true, false, false, false, false, false, false, false] rfl rfl (by kernel_rfl) (fun _ _ _ h => h) (Or.inl ⟨by rfl, ?_⟩) ?_ ?_
    rotate_left
    · intro w'
      go_simp
      with_reducible rfl
    rotate_left
    · simp only [Act.put, List.setIfInBounds_toArray, List.set_cons_zero, List.set_cons_succ, i64_w, i32_w]
      rfl
    refine pure_ (i := 10) (N := some 146) (v := ?_) (a' := ?_) #[true, false, false, true, true, true, false, true, true, true, true, false, false, false, false, false, false] rfl rfl (by kernel_rfl) (fun _ _ _ h => h) (Or.inl ⟨by rfl, ?_⟩) ?_ ?_
    rotate_left
    · intro w'
      go_simp
      with_reducible rfl
    rotate_left
    · simp only [Act.put, List.setIfInBounds_toArray, List.set_cons_zero, List.set_cons_succ, i64_w, i32_w]
      rfl
    refine take_ (i := 1) (N := some 137) (v := ?_) (a' := ?_) #[true, true, false, true, true, true, false, true, true, true, true, false, false, false, false, false, false] rfl rfl (by kernel_rfl) (fun _ _ _ h => h) (Or.inl ⟨by rfl, ?_⟩) hHeld ?_ ?_
    rotate_left
    · rintro w' ⟨s0, s1, s2⟩
      go_simp
      with_reducible rfl
    rotate_left
    · simp only [Act.put, List.setIfInBounds_toArray, List.set_cons_zero, List.set_cons_succ, i64_w, i32_w]
      rfl
    refine take_ (i := 6) (N := some 142) (v := ?_) (a' := ?_) #[true, true, false, true, true, true, true, true, true, true, true, false, false, false, false, false, false] rfl rfl (by kernel_rfl) (fun _ _ _ h => h) (Or.inl ⟨by rfl, ?_⟩) hHeld ?_ ?_
    rotate_left
    · rintro w' ⟨s0, s1, s2⟩
      go_simp
      with_reducible rfl
    rotate_left
    · simp only [Act.put, List.setIfInBounds_toArray, List.set_cons_zero, List.set_cons_succ, i64_w, i32_w]
      rfl
    refine take_ (i := 11) (N := some 147) (v := ?_) (a' := ?_) #[true, true, false, true, true, true, true, true, true, true, true, true, false, false, false, false, false] rfl rfl (by kernel_rfl) (fun _ _ _ h => h) (Or.inl ⟨by rfl, ?_⟩) hHeld ?_ ?_
    rotate_left
    · rintro w' ⟨s0, s1, s2⟩
      go_simp
      with_reducible rfl
    rotate_left
    · simp only [Act.put, List.setIfInBounds_toArray, List.set_cons_zero, List.set_cons_succ, i64_w, i32_w]
      rfl
    refine one_ (i := 2) (N := some 138) #[true, true, true, true, true, true, true, true, true, true, true, true, false, false, false, false, false] rfl rfl (by kernel_rfl) (by decide) (fun K hK => ?_)
    refine goes_ Try.func21 (by kernel_rfl) rfl #[.pointer (some ⟨gi, 0, none⟩), Value.agg #[.int .i64 pk, .int .i64 ps, .int .i64 pp]] (by rfl) rfl rfl (by simp only [List.map_toArray, List.map_cons, List.map_nil]; rfl) ?_
    with_reducible refine (ipeek_T gi g1 g2 gs g3 A pk ps pp w0 _ DI.out.I).mono ?_
    rintro e w5 ⟨rfl, hb⟩
    refine ⟨_, rfl, ?_⟩
    rw [PK.out]
    have I5 := Aside0.mk (DI.out.below hb)
    have B5 := Aside0.mk (below_step DB.out hb)
    have P5 := Aside0.mk (blk_below DP.out hb)
    clear hb
    refine hK.out _ _ ⟨(blk_cell P5.out 0).trans rfl, (blk_cell P5.out 1).trans rfl, (blk_cell P5.out 2).trans rfl⟩ (fun hHeld => ?_)
    clear hK K
    refine norm_ (a' := ?_) ?_ ?_
    rotate_left
    · show Act.put _ (some 138) _ = _
      simp only [Act.put, List.setIfInBounds_toArray, List.set_cons_zero, List.set_cons_succ, i64_w, i32_w]
      rfl
    refine one_ (i := 12) (N := some 148) #[true, true, true, true, true, true, true, true, true, true, true, true, true, false, false, false, false] rfl rfl (by kernel_rfl) (by decide) (fun K hK => ?_)
    refine goes_ Try.func71 (by kernel_rfl) rfl #[.pointer (some ⟨gu, 2, none⟩), .int .i64 ps] (by rfl) rfl rfl (by simp only [List.map_toArray, List.map_cons, List.map_nil]; rfl) ?_
    with_reducible refine (rnowU_T ps I5.out.R LB.out).mono ?_
    rintro e w6 ⟨rfl, hb⟩
    refine ⟨_, rfl, ?_⟩
    rw [NW.out]
    have I6 := Aside0.mk (I5.out.below hb)
    have B6 := Aside0.mk (below_step B5.out hb)
    have P6 := Aside0.mk (blk_below P5.out hb)
    clear hb
    refine hK.out _ _ ⟨(blk_cell P6.out 0).trans rfl, (blk_cell P6.out 1).trans rfl, (blk_cell P6.out 2).trans rfl⟩ (fun hHeld => ?_)
    clear hK K
    refine norm_ (a' := ?_) ?_ ?_
    rotate_left
    · show Act.put _ (some 148) _ = _
      simp only [Act.put, List.setIfInBounds_toArray, List.set_cons_zero, List.set_cons_succ, i64_w, i32_w]
      rfl
    refine one_ (i := 13) (N := some 149) #[true, true, true, true, true, true, true, true, true, true, true, true, true, true, false, false, false] rfl rfl (by kernel_rfl) (by decide) (fun K hK => ?_)
    refine goes_ Try.func82 (by kernel_rfl) rfl #[Value.agg #[.int .i64 pk, .int .i64 ps, .int .i64 pp], .int .i64 nw] (by rfl) rfl rfl (by simp only [List.map_toArray, List.map_cons, List.map_nil]; rfl) ?_
    with_reducible refine (where_T pk ps pp nw a2 b2 c2 _ H9.out K2.out).mono ?_
    rintro e w7 ⟨rfl, hb⟩
    refine ⟨_, rfl, ?_⟩
    have I7 := Aside0.mk (I6.out.below hb)
    have B7 := Aside0.mk (below_step B6.out hb)
    have P7 := Aside0.mk (blk_below P6.out hb)
    clear hb
    refine hK.out _ _ ⟨(blk_cell P7.out 0).trans rfl, (blk_cell P7.out 1).trans rfl, (blk_cell P7.out 2).trans rfl⟩ (fun hHeld => ?_)
    clear hK K
    refine norm_ (a' := ?_) ?_ ?_
    rotate_left
    · show Act.put _ (some 149) _ = _
      simp only [Act.put, List.setIfInBounds_toArray, List.set_cons_zero, List.set_cons_succ, i64_w, i32_w]
      rfl
    refine last_ (i := 14) (N := some 150) #[true, true, true, true, true, true, true, true, true, true, true, true, true, true, true, false, false] rfl rfl (by kernel_rfl) (by decide) (fun K hK => ?_)
    refine goes_ Try.func83 (by kernel_rfl) rfl #[.pointer (some ⟨gu, 0, none⟩), .agg #[.int .i64 a2, .int .i64 b2, .int .i64 c2]] (by rfl) rfl rfl (by simp only [List.map_toArray, List.map_cons, List.map_nil]; rfl) ?_
    with_reducible refine (rgetW_T a2 b2 c2 I7.out.R LW.out).mono ?_
    rintro e w8 ⟨rfl, hb⟩
    refine ⟨_, rfl, ?_⟩
    rw [PW.out]
    have I8 := Aside0.mk (I7.out.below hb)
    have B8 := Aside0.mk (below_step B7.out hb)
    have P8 := Aside0.mk (blk_below P7.out hb)
    clear hb
    refine hK.out _ _ ?_
    clear hK K
    refine norm_ (a' := ?_) ?_ ?_
    rotate_left
    · show Act.put _ (some 150) _ = _
      simp only [Act.put, List.setIfInBounds_toArray, List.set_cons_zero, List.set_cons_succ, i64_w, i32_w]
      rfl
    refine pure_ (i := 15) (N := some 151) (v := ?_) (a' := ?_) #[true, true, true, true, true, true, true, true, true, true, true, true, true, true, true, true, false] rfl rfl (by kernel_rfl) (fun _ _ _ h => h) (Or.inl ⟨by rfl, ?_⟩) ?_ ?_
    rotate_left
    · intro w'
      go_simp
      with_reducible rfl
    rotate_left
    · simp only [Act.put, List.setIfInBounds_toArray, List.set_cons_zero, List.set_cons_succ, i64_w, i32_w]
      rfl
    refine pure_ (i := 16) (N := some 6) (v := ?_) (a' := ?_) #[true, true, true, true, true, true, true, true, true, true, true, true, true, true, true, true, true] rfl rfl (by kernel_rfl) (fun _ _ _ h => h) (Or.inl ⟨by rfl, ?_⟩) ?_ ?_
    rotate_left
    · intro w'
      go_simp
      with_reducible rfl
    rotate_left
    · simp only [Act.put, List.setIfInBounds_toArray, List.set_cons_zero, List.set_cons_succ, i64_w, i32_w]
      rfl
    refine done_ (by kernel_rfl) ?_
    go_wp2_with fail
    go_ret
    exact ⟨rfl, A, U, I8.out, HR.out, B8.out, lok_same HL.out, by rw [HMM.out]; exact HC.out⟩
  have u7 : (kd == 7) = false := beq_eq_false_iff_ne.mpr k7
  clear k7
  have HMM := Aside0.mk (HMM.out.trans (by rw [if_neg (fun h => NK.out (by omega)), Int.add_zero] : _ = m))
  have b0 : w4.cell? ⟨w.heap.size, 0, none⟩ = some (.int .i64 kd) := (blk_cell X4.out 0).trans rfl
  have p0 : w4.cell? ⟨(w.heap.size + 1), 0, none⟩ = some (.int .i64 pk) := (blk_cell P4.out 0).trans rfl
  have p1 : w4.cell? ⟨(w.heap.size + 1), 1, none⟩ = some (.int .i64 ps) := (blk_cell P4.out 1).trans rfl
  have p2 : w4.cell? ⟨(w.heap.size + 1), 2, none⟩ = some (.int .i64 pp) := (blk_cell P4.out 2).trans rfl
  go_wp2_with fail
  clear b0 p0 p1 p2
  refine (place_Of.calls 1 pp 5 1 pp w4 rfl).mono ?_
  rintro e w5 ⟨rfl, hb⟩
  have X5 := Aside0.mk (blk_alloc (blk_below X4.out hb) (.cells #[.int .i64 5, .int .i64 1, .int .i64 pp] 23))
  have P5 := Aside0.mk (blk_alloc (blk_below P4.out hb) (.cells #[.int .i64 5, .int .i64 1, .int .i64 pp] 23))
  have Q5 := Aside0.mk (blk_new w5 (.cells #[.int .i64 5, .int .i64 1, .int .i64 pp] 23))
  have I5 := Aside0.mk ((I4.out.below hb).alloc (.cells #[.int .i64 5, .int .i64 1, .int .i64 pp] 23))
  have B5 := Aside0.mk (below_alloc (below_step B4.out hb) (.cells #[.int .i64 5, .int .i64 1, .int .i64 pp] 23))
  clear hb X4 P4 A4 I4 B4
  have q0 : (w5.alloc (.cells #[.int .i64 5, .int .i64 1, .int .i64 pp] 23)).cell? ⟨w5.heap.size, 0, none⟩ = some (.int .i64 5) := (blk_cell Q5.out 0).trans rfl
  have q1 : (w5.alloc (.cells #[.int .i64 5, .int .i64 1, .int .i64 pp] 23)).cell? ⟨w5.heap.size, 1, none⟩ = some (.int .i64 1) := (blk_cell Q5.out 1).trans rfl
  have q2 : (w5.alloc (.cells #[.int .i64 5, .int .i64 1, .int .i64 pp] 23)).cell? ⟨w5.heap.size, 2, none⟩ = some (.int .i64 pp) := (blk_cell Q5.out 2).trans rfl
  go_wp2_with fail
  clear q0 q1 q2
  generalize w5.alloc (.cells #[.int .i64 5, .int .i64 1, .int .i64 pp] 23) = w6 at *
  generalize w5.heap.size = gq at *
  by_cases hP : pp ≥ 0 ∧ pp ≠ 1 ∧ pp ≠ 2
  · have F := Aside0.mk (show place_IsContent.f 5 1 pp = some true by rw [isC_f'', decide_eq_true hP])
    obtain ⟨⟨a2, b2, c2⟩, hk2⟩ : ∃ k, whereR 5 1 pp id = k := ⟨_, rfl⟩
    obtain ⟨pw, hpw⟩ : ∃ z, oget U.W (a2, b2, c2) = z := ⟨_, rfl⟩
    have PK := Aside0.mk (show contentR A id pp = pw by unfold contentR; rw [if_pos hP, ← hpw, ← hk2, ← HR.out.words 5 1 pp id (by decide), show ofK 5 1 pp id = (5, 0, pp, id) from if_pos ⟨rfl, hP⟩])
    have PW := Aside0.mk hpw
    have K2 := Aside0.mk hk2
    clear hk2 hpw hP
    have te : (pw == pw) = true := beq_self_eq_true pw
    refine (place_IsContent.calls 5 1 pp true w6 F.out).mono ?_
    rintro e w7 ⟨rfl, hb⟩
    have X7 := Aside0.mk (blk_below X5.out hb)
    have P7 := Aside0.mk (blk_below P5.out hb)
    have Q7 := Aside0.mk (blk_below Q5.out hb)
    have I7 := Aside0.mk (I5.out.below hb)
    have B7 := Aside0.mk (below_step B5.out hb)
    clear hb
    go_wp2_with fail
    have DX := Aside0.mk (blk_drew X7.out)
    have DP := Aside0.mk (blk_drew P7.out)
    have DQ := Aside0.mk (blk_drew Q7.out)
    have DI := Aside0.mk I7.out.drew
    have DB := Aside0.mk (below_drew B7.out)
    refine start_ (n := 18) (S := fun w' => w'.cell? ⟨w.heap.size, 4, none⟩ = some (.int .i64 id) ∧ w'.cell? ⟨(w.heap.size + 1), 2, none⟩ = some (.int .i64 pp) ∧ w'.cell? ⟨gq, 0, none⟩ = some (.int .i64 5) ∧ w'.cell? ⟨gq, 1, none⟩ = some (.int .i64 1) ∧ w'.cell? ⟨gq, 2, none⟩ = some (.int .i64 pp)) (ds := [15]) #[false, false, false, false, false, false, false, false, false, false, false, false, false, false, false, false, false, false] (by kernel_rfl) rfl rfl ⟨(blk_cell DX.out 4).trans rfl, (blk_cell DP.out 2).trans rfl, (blk_cell DQ.out 0).trans rfl, (blk_cell DQ.out 1).trans rfl, (blk_cell DQ.out 2).trans rfl⟩ (fun hHeld => ?_)
    refine pure_ (i := 0) (N := some 166) (v := ?_) (a' := ?_) #[true, false, false, false, false, false, false, false, false, false, false, false, false, false, false, false, false, false] rfl rfl (by kernel_rfl) (fun _ _ _ h => h) (Or.inl ⟨by rfl, ?_⟩) ?_ ?_
    rotate_left
    · intro w'
      go_simp
      with_reducible rfl
    rotate_left
    · simp only [Act.put, List.setIfInBounds_toArray, List.set_cons_zero, List.set_cons_succ, i64_w, i32_w]
      rfl
    refine pure_ (i := 1) (N := some 167) (v := ?_) (a' := ?_) #[true, true, false, false, false, false, false, false, false, false, false, false, false, false, false, false, false, false] rfl rfl (by kernel_rfl) (fun _ _ _ h => h) (Or.inl ⟨by rfl, ?_⟩) ?_ ?_
    rotate_left
    · intro w'
      go_simp
      with_reducible rfl
    rotate_left
    · simp only [Act.put, List.setIfInBounds_toArray, List.set_cons_zero, List.set_cons_succ, i64_w, i32_w]
      rfl
    refine pure_ (i := 2) (N := some 168) (v := ?_) (a' := ?_) #[true, true, true, false, false, false, false, false, false, false, false, false, false, false, false, false, false, false] rfl rfl (by kernel_rfl) (fun _ _ _ h => h) (Or.inl ⟨by rfl, ?_⟩) ?_ ?_
    rotate_left
    · intro w'
      go_simp
      with_reducible rfl
    rotate_left
    · simp only [Act.put, List.setIfInBounds_toArray, List.set_cons_zero, List.set_cons_succ, i64_w, i32_w]
      rfl
    refine pure_ (i := 4) (N := some 170) (v := ?_) (a' := ?_) #[true, true, true, false, true, false, false, false, false, false, false, false, false, false, false, false, false, false] rfl rfl (by kernel_rfl) (fun _ _ _ h => h) (Or.inl ⟨by rfl, ?_⟩) ?_ ?_
    rotate_left
    · intro w'
      go_simp
      with_reducible rfl
    rotate_left
    · simp only [Act.put, List.setIfInBounds_toArray, List.set_cons_zero, List.set_cons_succ, i64_w, i32_w]
      rfl
    refine pure_ (i := 7) (N := some 173) (v := ?_) (a' := ?_) #[true, true, true, false, true, false, false, true, false, false, false, false, false, false, false, false, false, false] rfl rfl (by kernel_rfl) (fun _ _ _ h => h) (Or.inl ⟨by rfl, ?_⟩) ?_ ?_
    rotate_left
    · intro w'
      go_simp
      with_reducible rfl
    rotate_left
    · simp only [Act.put, List.setIfInBounds_toArray, List.set_cons_zero, List.set_cons_succ, i64_w, i32_w]
      rfl
    refine pure_ (i := 8) (N := some 174) (v := ?_) (a' := ?_) #[true, true, true, false, true, false, false, true, true, false, false, false, false, false, false, false, false, false] rfl rfl (by kernel_rfl) (fun _ _ _ h => h) (Or.inl ⟨by rfl, ?_⟩) ?_ ?_
    rotate_left
    · intro w'
      go_simp
      with_reducible rfl
    rotate_left
    · simp only [Act.put, List.setIfInBounds_toArray, List.set_cons_zero, List.set_cons_succ, i64_w, i32_w]
      rfl
    refine pure_ (i := 9) (N := some 175) (v := ?_) (a' := ?_) #[true, true, true, false, true, false, false, true, true, true, false, false, false, false, false, false, false, false] rfl rfl (by kernel_rfl) (fun _ _ _ h => h) (Or.inl ⟨by rfl, ?_⟩) ?_ ?_
    rotate_left
    · intro w'
      go_simp
      with_reducible rfl
    rotate_left
    · simp only [Act.put, List.setIfInBounds_toArray, List.set_cons_zero, List.set_cons_succ, i64_w, i32_w]
      rfl
    refine pure_ (i := 11) (N := some 177) (v := ?_) (a' := ?_) #[true, true, true, false, true, false, false, true, true, true, false, true, false, false, false, false, false, false] rfl rfl (by kernel_rfl) (fun _ _ _ h => h) (Or.inl ⟨by rfl, ?_⟩) ?_ ?_
    rotate_left
    · intro w'
      go_simp
      with_reducible rfl
    rotate_left
    · simp only [Act.put, List.setIfInBounds_toArray, List.set_cons_zero, List.set_cons_succ, i64_w, i32_w]
      rfl
    refine pure_ (i := 12) (N := some 178) (v := ?_) (a' := ?_) #[true, true, true, false, true, false, false, true, true, true, false, true, true, false, false, false, false, false] rfl rfl (by kernel_rfl) (fun _ _ _ h => h) (Or.inl ⟨by rfl, ?_⟩) ?_ ?_
    rotate_left
    · intro w'
      go_simp
      with_reducible rfl
    rotate_left
    · simp only [Act.put, List.setIfInBounds_toArray, List.set_cons_zero, List.set_cons_succ, i64_w, i32_w]
      rfl
    refine take_ (i := 3) (N := some 169) (v := ?_) (a' := ?_) #[true, true, true, true, true, false, false, true, true, true, false, true, true, false, false, false, false, false] rfl rfl (by kernel_rfl) (fun _ _ _ h => h) (Or.inl ⟨by rfl, ?_⟩) hHeld ?_ ?_
    rotate_left
    · rintro w' ⟨s0, s1, s2, s3, s4⟩
      go_simp
      with_reducible rfl
    rotate_left
    · simp only [Act.put, List.setIfInBounds_toArray, List.set_cons_zero, List.set_cons_succ, i64_w, i32_w]
      rfl
    refine take_ (i := 5) (N := some 171) (v := ?_) (a' := ?_) #[true, true, true, true, true, true, false, true, true, true, false, true, true, false, false, false, false, false] rfl rfl (by kernel_rfl) (fun _ _ _ h => h) (Or.inl ⟨by rfl, ?_⟩) hHeld ?_ ?_
    rotate_left
    · rintro w' ⟨s0, s1, s2, s3, s4⟩
      go_simp
      with_reducible rfl
    rotate_left
    · simp only [Act.put, List.setIfInBounds_toArray, List.set_cons_zero, List.set_cons_succ, i64_w, i32_w]
      rfl
    refine take_ (i := 10) (N := some 176) (v := ?_) (a' := ?_) #[true, true, true, true, true, true, false, true, true, true, true, true, true, false, false, false, false, false] rfl rfl (by kernel_rfl) (fun _ _ _ h => h) (Or.inl ⟨by rfl, ?_⟩) hHeld ?_ ?_
    rotate_left
    · rintro w' ⟨s0, s1, s2, s3, s4⟩
      go_simp
      with_reducible rfl
    rotate_left
    · simp only [Act.put, List.setIfInBounds_toArray, List.set_cons_zero, List.set_cons_succ, i64_w, i32_w]
      rfl
    refine take_ (i := 13) (N := some 179) (v := ?_) (a' := ?_) #[true, true, true, true, true, true, false, true, true, true, true, true, true, true, false, false, false, false] rfl rfl (by kernel_rfl) (fun _ _ _ h => h) (Or.inl ⟨by rfl, ?_⟩) hHeld ?_ ?_
    rotate_left
    · rintro w' ⟨s0, s1, s2, s3, s4⟩
      go_simp
      with_reducible rfl
    rotate_left
    · simp only [Act.put, List.setIfInBounds_toArray, List.set_cons_zero, List.set_cons_succ, i64_w, i32_w]
      rfl
    refine one_ (i := 6) (N := some 172) #[true, true, true, true, true, true, true, true, true, true, true, true, true, true, false, false, false, false] rfl rfl (by kernel_rfl) (by decide) (fun K hK => ?_)
    refine goes_ Try.func24 (by kernel_rfl) rfl #[.pointer (some ⟨gi, 0, none⟩), .int .i64 id, .int .i64 pp] (by rfl) rfl rfl (by simp only [List.map_toArray, List.map_cons, List.map_nil]; rfl) ?_
    with_reducible refine (icontent_T gi g1 g2 gs g3 A id pp w0 _ DI.out.I).mono ?_
    rintro e w8 ⟨rfl, hb⟩
    refine ⟨_, rfl, ?_⟩
    rw [PK.out]
    have I8 := Aside0.mk (DI.out.below hb)
    have B8 := Aside0.mk (below_step DB.out hb)
    have X8 := Aside0.mk (blk_below DX.out hb)
    have P8 := Aside0.mk (blk_below DP.out hb)
    have Q8 := Aside0.mk (blk_below DQ.out hb)
    clear hb
    refine hK.out _ _ ⟨(blk_cell X8.out 4).trans rfl, (blk_cell P8.out 2).trans rfl, (blk_cell Q8.out 0).trans rfl, (blk_cell Q8.out 1).trans rfl, (blk_cell Q8.out 2).trans rfl⟩ (fun hHeld => ?_)
    clear hK K
    refine norm_ (a' := ?_) ?_ ?_
    rotate_left
    · show Act.put _ (some 172) _ = _
      simp only [Act.put, List.setIfInBounds_toArray, List.set_cons_zero, List.set_cons_succ, i64_w, i32_w]
      rfl
    refine one_ (i := 14) (N := some 180) #[true, true, true, true, true, true, true, true, true, true, true, true, true, true, true, false, false, false] rfl rfl (by kernel_rfl) (by decide) (fun K hK => ?_)
    refine goes_ Try.func82 (by kernel_rfl) rfl #[.agg #[.int .i64 5, .int .i64 1, .int .i64 pp], .int .i64 id] (by rfl) rfl rfl (by simp only [List.map_toArray, List.map_cons, List.map_nil]; rfl) ?_
    with_reducible refine (where_T 5 1 pp id a2 b2 c2 _ (by decide) K2.out).mono ?_
    rintro e w9 ⟨rfl, hb⟩
    refine ⟨_, rfl, ?_⟩
    have I9 := Aside0.mk (I8.out.below hb)
    have B9 := Aside0.mk (below_step B8.out hb)
    have X9 := Aside0.mk (blk_below X8.out hb)
    have P9 := Aside0.mk (blk_below P8.out hb)
    have Q9 := Aside0.mk (blk_below Q8.out hb)
    clear hb
    refine hK.out _ _ ⟨(blk_cell X9.out 4).trans rfl, (blk_cell P9.out 2).trans rfl, (blk_cell Q9.out 0).trans rfl, (blk_cell Q9.out 1).trans rfl, (blk_cell Q9.out 2).trans rfl⟩ (fun hHeld => ?_)
    clear hK K
    refine norm_ (a' := ?_) ?_ ?_
    rotate_left
    · show Act.put _ (some 180) _ = _
      simp only [Act.put, List.setIfInBounds_toArray, List.set_cons_zero, List.set_cons_succ, i64_w, i32_w]
      rfl
    refine last_ (i := 15) (N := some 181) #[true, true, true, true, true, true, true, true, true, true, true, true, true, true, true, true, false, false] rfl rfl (by kernel_rfl) (by decide) (fun K hK => ?_)
    refine goes_ Try.func83 (by kernel_rfl) rfl #[.pointer (some ⟨gu, 0, none⟩), .agg #[.int .i64 a2, .int .i64 b2, .int .i64 c2]] (by rfl) rfl rfl (by simp only [List.map_toArray, List.map_cons, List.map_nil]; rfl) ?_
    with_reducible refine (rgetW_T a2 b2 c2 I9.out.R LW.out).mono ?_
    rintro e w10 ⟨rfl, hb⟩
    refine ⟨_, rfl, ?_⟩
    rw [PW.out]
    have I10 := Aside0.mk (I9.out.below hb)
    have B10 := Aside0.mk (below_step B9.out hb)
    have X10 := Aside0.mk (blk_below X9.out hb)
    have P10 := Aside0.mk (blk_below P9.out hb)
    have Q10 := Aside0.mk (blk_below Q9.out hb)
    clear hb
    refine hK.out _ _ ?_
    clear hK K
    refine norm_ (a' := ?_) ?_ ?_
    rotate_left
    · show Act.put _ (some 181) _ = _
      simp only [Act.put, List.setIfInBounds_toArray, List.set_cons_zero, List.set_cons_succ, i64_w, i32_w]
      rfl
    refine pure_ (i := 16) (N := some 182) (v := ?_) (a' := ?_) #[true, true, true, true, true, true, true, true, true, true, true, true, true, true, true, true, true, false] rfl rfl (by kernel_rfl) (fun _ _ _ h => h) (Or.inl ⟨by rfl, ?_⟩) ?_ ?_
    rotate_left
    · intro w'
      go_simp
      with_reducible rfl
    rotate_left
    · simp only [Act.put, List.setIfInBounds_toArray, List.set_cons_zero, List.set_cons_succ, i64_w, i32_w]
      rfl
    refine pure_ (i := 17) (N := some 6) (v := ?_) (a' := ?_) #[true, true, true, true, true, true, true, true, true, true, true, true, true, true, true, true, true, true] rfl rfl (by kernel_rfl) (fun _ _ _ h => h) (Or.inl ⟨by rfl, ?_⟩) ?_ ?_
    rotate_left
    · intro w'
      go_simp
      with_reducible rfl
    rotate_left
    · simp only [Act.put, List.setIfInBounds_toArray, List.set_cons_zero, List.set_cons_succ, i64_w, i32_w]
      rfl
    refine done_ (by kernel_rfl) ?_
    go_wp2_with fail
    go_ret
    exact ⟨rfl, A, U, I10.out, HR.out, B10.out, lok_same HL.out, by rw [HMM.out]; exact HC.out⟩
  · have F := Aside0.mk (show place_IsContent.f 5 1 pp = some false by rw [isC_f'', decide_eq_false hP])
    have PK := Aside0.mk (show contentR A id pp = 0 from if_neg hP)
    clear hP
    refine (place_IsContent.calls 5 1 pp false w6 F.out).mono ?_
    rintro e w7 ⟨rfl, hb⟩
    have X7 := Aside0.mk (blk_below X5.out hb)
    have P7 := Aside0.mk (blk_below P5.out hb)
    have I7 := Aside0.mk (I5.out.below hb)
    have B7 := Aside0.mk (below_step B5.out hb)
    clear hb
    have b4 : w7.cell? ⟨w.heap.size, 4, none⟩ = some (.int .i64 id) := (blk_cell X7.out 4).trans rfl
    have p2 : w7.cell? ⟨(w.heap.size + 1), 2, none⟩ = some (.int .i64 pp) := (blk_cell P7.out 2).trans rfl
    go_wp2_with fail
    clear b4 p2
    refine (icontent_T gi g1 g2 gs g3 A id pp w0 _ I7.out.I).mono ?_
    rintro e w8 ⟨rfl, hb⟩
    rw [PK.out]
    have I8 := Aside0.mk (I7.out.below hb)
    have B8 := Aside0.mk (below_step B7.out hb)
    clear hb
    go_wp2_with fail
    go_ret
    exact ⟨rfl, A, U, I8.out, HR.out, B8.out, lok_same HL.out, by rw [HMM.out]; exact HC.out⟩
end Go.Proofs.Ytlpnggapndokeaa.PIdealKeeps

