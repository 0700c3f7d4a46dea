/-
A pair put; what an operation does.
-/
import Derived.Test.YtcphmelmieedfabSpecC
namespace Go.Proofs.Ytcphmelmieedfab.PSpecExact
open Go Go.RowKit Go.Proofs.YtcphmelmieedfabW.PrintWords Go.Proofs.YtcphmelmieedfabW.PrintLast Go.Proofs.YtcphmelmieedfabW.PrintMore
attribute [local go_sem] max2_int min2_int max_two min_two max_three min_three max_four min_four
set_option linter.unusedVariables false
set_option linter.unusedSimpArgs false
theorem blk_new4 (w : World) (o1 o2 o3 o4 : Obj) : ((((w.alloc o1).alloc o2).alloc o3).alloc o4).heap[w.heap.size + 1 + 1 + 1]? = some o4 := by have := blk_new (((w.alloc o1).alloc o2).alloc o3) o4; simpa using this
theorem blk_new5 (w : World) (o1 o2 o3 o4 o5 : Obj) : (((((w.alloc o1).alloc o2).alloc o3).alloc o4).alloc o5).heap[w.heap.size + 1 + 1 + 1 + 1]? = some o5 := by have := blk_new ((((w.alloc o1).alloc o2).alloc o3).alloc o4) o5; simpa using this
theorem results_cell3s {fn : Func} (h : fn.results = #[.cell 8 29, .cell 9 35, .tmp 10]) (tmps : Array Value) (w : World) (g g2 : Nat) (l : List S26) (e : Int) (d : Bool) (x : Int) (hp : tmps.getD 8 undef = .pointer (some ⟨g, 0, none⟩)) (hg : w.heap[g]? = some (.cells (SV l) 29 (0, 0)))
    (hp2 : tmps.getD 9 undef = .pointer (some ⟨g2, 0, none⟩)) (hg2 : w.heap[g2]? = some (.cells #[.int .i64 e, .bool d, .int .u64 x] 35 (0, 0))) {v : Value} (hq : tmps.getD 10 undef = v) : (results fn tmps).run Try.prog w = .ok (.tuple #[.agg (SV l), .agg #[.int .i64 e, .bool d, .int .u64 x], v]) w :=
  results_cell3 (P := Try.prog) h tmps w g g2 29 35 (SV l) #[.int .i64 e, .bool d, .int .u64 x] (0, 0) (0, 0) _ _ hp hg Try.underlying29 rfl (info29 l) hp2 hg2 Try.underlying35 rfl (by kernel_rfl) hq
set_option maxHeartbeats 8000000 in
set_option maxRecDepth 100000 in
theorem putNo_T (l : List S26) (p : S26) (e : Int) (d : Bool) (x : Int) (w : World) (hl : l.length ≤ 16) :
    Calls Try.prog 21 #[.agg (SV l), .agg #[.int .u64 p.f0, .int .u64 p.f1], .bool false, .agg #[.int .i64 e, .bool d, .int .u64 x]] w fun e_ w' => e_ = .returned (.tuple #[.agg (SV l), .agg #[.int .i64 e, .bool d, .int .u64 x], .int .i64 0]) ∧ Below w.heap.size w w' := by
  have hu29 := Try.underlying29
  have hu26 := Try.underlying26
  have hu35 := Try.underlying35
  have HL := Aside0.mk hl
  clear hl
  have BK := Aside0.mk (blk_alloc (blk_alloc (blk_alloc (blk_alloc (blk_new w (.cells (SV l) 29)) (.cells #[.int .u64 p.f0, .int .u64 p.f1] 26)) (.cells #[.int .i64 e, .bool d, .int .u64 x] 35)) (.cells #[.int .i64 0, .int .u64 0, .int .u64 0, .int .u64 0, .int .u64 0, .int .u64 0, .int .u64 0, .int .u64 0, .int .u64 0, .int .u64 0, .int .u64 0, .int .u64 0, .int .u64 0, .int .u64 0, .int .u64 0, .int .u64 0, .int .u64 0, .int .u64 0, .int .u64 0, .int .u64 0, .int .u64 0, .int .u64 0, .int .u64 0, .int .u64 0, .int .u64 0, .int .u64 0, .int .u64 0, .int .u64 0, .int .u64 0, .int .u64 0, .int .u64 0, .int .u64 0, .int .u64 0] 29)) (.cells #[.int .i64 0, .bool false, .int .u64 0] 35))
  have BP := Aside0.mk (blk_alloc (blk_alloc (blk_alloc (blk_new2 w (.cells (SV l) 29) (.cells #[.int .u64 p.f0, .int .u64 p.f1] 26)) (.cells #[.int .i64 e, .bool d, .int .u64 x] 35)) (.cells #[.int .i64 0, .int .u64 0, .int .u64 0, .int .u64 0, .int .u64 0, .int .u64 0, .int .u64 0, .int .u64 0, .int .u64 0, .int .u64 0, .int .u64 0, .int .u64 0, .int .u64 0, .int .u64 0, .int .u64 0, .int .u64 0, .int .u64 0, .int .u64 0, .int .u64 0, .int .u64 0, .int .u64 0, .int .u64 0, .int .u64 0, .int .u64 0, .int .u64 0, .int .u64 0, .int .u64 0, .int .u64 0, .int .u64 0, .int .u64 0, .int .u64 0, .int .u64 0, .int .u64 0] 29)) (.cells #[.int .i64 0, .bool false, .int .u64 0] 35))
  have BA := Aside0.mk (blk_alloc (blk_alloc (blk_new3 w (.cells (SV l) 29) (.cells #[.int .u64 p.f0, .int .u64 p.f1] 26) (.cells #[.int .i64 e, .bool d, .int .u64 x] 35)) (.cells #[.int .i64 0, .int .u64 0, .int .u64 0, .int .u64 0, .int .u64 0, .int .u64 0, .int .u64 0, .int .u64 0, .int .u64 0, .int .u64 0, .int .u64 0, .int .u64 0, .int .u64 0, .int .u64 0, .int .u64 0, .int .u64 0, .int .u64 0, .int .u64 0, .int .u64 0, .int .u64 0, .int .u64 0, .int .u64 0, .int .u64 0, .int .u64 0, .int .u64 0, .int .u64 0, .int .u64 0, .int .u64 0, .int .u64 0, .int .u64 0, .int .u64 0, .int .u64 0, .int .u64 0] 29)) (.cells #[.int .i64 0, .bool false, .int .u64 0] 35))
  have BZ := Aside0.mk (blk_alloc (blk_new4 w (.cells (SV l) 29) (.cells #[.int .u64 p.f0, .int .u64 p.f1] 26) (.cells #[.int .i64 e, .bool d, .int .u64 x] 35) (.cells #[.int .i64 0, .int .u64 0, .int .u64 0, .int .u64 0, .int .u64 0, .int .u64 0, .int .u64 0, .int .u64 0, .int .u64 0, .int .u64 0, .int .u64 0, .int .u64 0, .int .u64 0, .int .u64 0, .int .u64 0, .int .u64 0, .int .u64 0, .int .u64 0, .int .u64 0, .int .u64 0, .int .u64 0, .int .u64 0, .int .u64 0, .int .u64 0, .int .u64 0, .int .u64 0, .int .u64 0, .int .u64 0, .int .u64 0, .int .u64 0, .int .u64 0, .int .u64 0, .int .u64 0] 29)) (.cells #[.int .i64 0, .bool false, .int .u64 0] 35))
  have BY := Aside0.mk (blk_new5 w (.cells (SV l) 29) (.cells #[.int .u64 p.f0, .int .u64 p.f1] 26) (.cells #[.int .i64 e, .bool d, .int .u64 x] 35) (.cells #[.int .i64 0, .int .u64 0, .int .u64 0, .int .u64 0, .int .u64 0, .int .u64 0, .int .u64 0, .int .u64 0, .int .u64 0, .int .u64 0, .int .u64 0, .int .u64 0, .int .u64 0, .int .u64 0, .int .u64 0, .int .u64 0, .int .u64 0, .int .u64 0, .int .u64 0, .int .u64 0, .int .u64 0, .int .u64 0, .int .u64 0, .int .u64 0, .int .u64 0, .int .u64 0, .int .u64 0, .int .u64 0, .int .u64 0, .int .u64 0, .int .u64 0, .int .u64 0, .int .u64 0] 29) (.cells #[.int .i64 0, .bool false, .int .u64 0] 35))
  have B1 := Aside0.mk (below_alloc (below_alloc (below_alloc (below_alloc (below_alloc (Below.refl w.heap.size w) (.cells (SV l) 29)) (.cells #[.int .u64 p.f0, .int .u64 p.f1] 26)) (.cells #[.int .i64 e, .bool d, .int .u64 x] 35)) (.cells #[.int .i64 0, .int .u64 0, .int .u64 0, .int .u64 0, .int .u64 0, .int .u64 0, .int .u64 0, .int .u64 0, .int .u64 0, .int .u64 0, .int .u64 0, .int .u64 0, .int .u64 0, .int .u64 0, .int .u64 0, .int .u64 0, .int .u64 0, .int .u64 0, .int .u64 0, .int .u64 0, .int .u64 0, .int .u64 0, .int .u64 0, .int .u64 0, .int .u64 0, .int .u64 0, .int .u64 0, .int .u64 0, .int .u64 0, .int .u64 0, .int .u64 0, .int .u64 0, .int .u64 0] 29)) (.cells #[.int .i64 0, .bool false, .int .u64 0] 35))
  have SZ := Aside0.mk (show (((((w.alloc (.cells (SV l) 29)).alloc (.cells #[.int .u64 p.f0, .int .u64 p.f1] 26)).alloc (.cells #[.int .i64 e, .bool d, .int .u64 x] 35)).alloc (.cells #[.int .i64 0, .int .u64 0, .int .u64 0, .int .u64 0, .int .u64 0, .int .u64 0, .int .u64 0, .int .u64 0, .int .u64 0, .int .u64 0, .int .u64 0, .int .u64 0, .int .u64 0, .int .u64 0, .int .u64 0, .int .u64 0, .int .u64 0, .int .u64 0, .int .u64 0, .int .u64 0, .int .u64 0, .int .u64 0, .int .u64 0, .int .u64 0, .int .u64 0, .int .u64 0, .int .u64 0, .int .u64 0, .int .u64 0, .int .u64 0, .int .u64 0, .int .u64 0, .int .u64 0] 29)).alloc (.cells #[.int .i64 0, .bool false, .int .u64 0] 35)).heap.size = w.heap.size + 5 by simp)
  go_enter Try.func21, Try.ntmps21
  go_wp2_with fail
  generalize (((((w.alloc (.cells (SV l) 29)).alloc (.cells #[.int .u64 p.f0, .int .u64 p.f1] 26)).alloc (.cells #[.int .i64 e, .bool d, .int .u64 x] 35)).alloc (.cells #[.int .i64 0, .int .u64 0, .int .u64 0, .int .u64 0, .int .u64 0, .int .u64 0, .int .u64 0, .int .u64 0, .int .u64 0, .int .u64 0, .int .u64 0, .int .u64 0, .int .u64 0, .int .u64 0, .int .u64 0, .int .u64 0, .int .u64 0, .int .u64 0, .int .u64 0, .int .u64 0, .int .u64 0, .int .u64 0, .int .u64 0, .int .u64 0, .int .u64 0, .int .u64 0, .int .u64 0, .int .u64 0, .int .u64 0, .int .u64 0, .int .u64 0, .int .u64 0, .int .u64 0] 29)).alloc (.cells #[.int .i64 0, .bool false, .int .u64 0] 35)) = w1 at *
  have NK := Aside0.mk (show w.heap.size ≠ w.heap.size + 1 + 1 + 1 by omega)
  refine start_ (n := 5) (S := fun w' => w'.heap[w.heap.size]? = some (.cells (SV l) 29 (0, 0)) ∧ w'.heap[w.heap.size + 1 + 1]? = some (.cells #[.int .i64 e, .bool d, .int .u64 x] 35 (0, 0))) (ds := [3]) (lb 5 0) (by kernel_rfl) rfl rfl ⟨BK.out, BA.out⟩ (fun hHeld => ?_)
  refine take_ (i := 0) (N := some 15) (v := ?_) (a' := ?_) #[true, false, false, false, false] rfl rfl (by kernel_rfl) (fun _ _ _ h => h) (Or.inl ⟨by rfl, ?_⟩) hHeld ?_ ?_
  rotate_left
  · rintro w' ⟨s0, s1⟩
    refine exec_load_row 29 (.tmp 4) ?_ _ ?_ 29 (SV l) (0, 0) _ s0 Try.underlying29 rfl (info29 _) <;> rfl
  rotate_left
  · simp only [Act.put, List.setIfInBounds_toArray, List.set_cons_zero, List.set_cons_succ, i64_w, i32_w]
    rfl
  refine take_ (i := 1) (N := some 16) (v := ?_) (a' := ?_) #[true, true, false, false, false] rfl rfl (by kernel_rfl) (fun _ _ _ h => h) (Or.inl ⟨by rfl, ?_⟩) hHeld ?_ ?_
  rotate_left
  · rintro w' ⟨s0, s1⟩
    refine exec_load_row 35 (.tmp 7) ?_ _ ?_ 35 #[.int .i64 e, .bool d, .int .u64 x] (0, 0) _ s1 Try.underlying35 rfl (by kernel_rfl) <;> rfl
  rotate_left
  · simp only [Act.put, List.setIfInBounds_toArray, List.set_cons_zero, List.set_cons_succ, i64_w, i32_w]
    rfl
  refine one_ (i := 2) (N := none) (lb 5 7) rfl rfl (by kernel_rfl) (by decide) (fun K hK => ?_)
  refine skip_whole (w := w) (B := w.heap.size) 29 (.tmp 8) (.tmp 15) (by rfl) rfl rfl (g := w.heap.size + 1 + 1 + 1) (cs := SV l) ?_ (.agg (SV l)) ?_ rfl (stot _) (SV_one _) (blk_drew BZ.out) (by rw [SV_size]; rfl) (by omega) (below_drew B1.out) ?_
  · rfl
  · rfl
  intro w4 h1 h2 h3 h4
  have BZ4 := Aside0.mk h1
  have B4 := Aside0.mk h2
  have BY4 := Aside0.mk ((h3 (w.heap.size + 1 + 1 + 1 + 1) (by omega)).trans (blk_drew BY.out))
  have K4 := Aside0.mk ((h3 _ NK.out).trans (blk_drew BK.out))
  have BA4 := Aside0.mk ((h3 (w.heap.size + 1 + 1) (by omega)).trans (blk_drew BA.out))
  clear h1 h2 h3 h4
  refine hK.out _ _ ⟨K4.out, BA4.out⟩ (fun hHeld => ?_)
  clear hK K
  refine last_ (i := 3) (N := none) (lb 5 15) rfl rfl (by kernel_rfl) (by decide) (fun K hK => ?_)
  refine skip_whole (w := w) (B := w.heap.size) 35 (.tmp 9) (.tmp 16) (by rfl) rfl rfl (g := w.heap.size + 1 + 1 + 1 + 1) (cs := #[.int .i64 e, .bool d, .int .u64 x]) ?_ (.agg (#[.int .i64 e, .bool d, .int .u64 x])) ?_ rfl (by kernel_rfl) (by simp [Value.oneCell']) (BY4.out) (rfl) (by omega) (B4.out) ?_
  · rfl
  · rfl
  intro w5 h1 h2 h3 h4
  have BZ5 := Aside0.mk ((h3 (w.heap.size + 1 + 1 + 1) (by omega)).trans BZ4.out)
  have BY5 := Aside0.mk h1
  have B5 := Aside0.mk h2
  clear h1 h2 h3 h4
  refine hK.out _ _ ?_
  clear hK K
  refine pS (v := ?_) (a' := ?_) 4 (some 10) (lb 5 31) rfl rfl (by kernel_rfl) (fun _ _ _ h => h) (by rfl) ?_ ?_ ?_; rotate_left; (intro w'; go_simp; with_reducible rfl); rotate_left; (simp only [Act.put, List.setIfInBounds_toArray, List.set_cons_zero, List.set_cons_succ, i64_w, i32_w]; rfl)
  refine done_ (by kernel_rfl) ?_
  go_wp2_with fail
  exact bodyPost_ret (results_cell3s rfl _ _ (w.heap.size + 1 + 1 + 1) (w.heap.size + 1 + 1 + 1 + 1) l e d x rfl BZ5.out rfl BY5.out rfl) rfl ⟨rfl, B5.out⟩
set_option maxHeartbeats 8000000 in
set_option maxRecDepth 100000 in
theorem putOk_T (l : List S26) (p : S26) (e : Int) (d : Bool) (x : Int) (w : World) (hl : l.length ≤ 16) (m : List S26) (hm : withV l p = (m, 0)) :
    Calls Try.prog 21 #[.agg (SV l), .agg #[.int .u64 p.f0, .int .u64 p.f1], .bool true, .agg #[.int .i64 e, .bool d, .int .u64 x]] w fun e_ w' => e_ = .returned (.tuple #[.agg (SV m), .agg #[.int .i64 e, .bool d, .int .u64 x], .int .i64 0]) ∧ Below w.heap.size w w' := by
  have hu29 := Try.underlying29
  have hu26 := Try.underlying26
  have hu35 := Try.underlying35
  have HL := Aside0.mk hl
  clear hl
  have HM := Aside0.mk hm
  clear hm
  have BK := Aside0.mk (blk_alloc (blk_alloc (blk_alloc (blk_alloc (blk_new w (.cells (SV l) 29)) (.cells #[.int .u64 p.f0, .int .u64 p.f1] 26)) (.cells #[.int .i64 e, .bool d, .int .u64 x] 35)) (.cells #[.int .i64 0, .int .u64 0, .int .u64 0, .int .u64 0, .int .u64 0, .int .u64 0, .int .u64 0, .int .u64 0, .int .u64 0, .int .u64 0, .int .u64 0, .int .u64 0, .int .u64 0, .int .u64 0, .int .u64 0, .int .u64 0, .int .u64 0, .int .u64 0, .int .u64 0, .int .u64 0, .int .u64 0, .int .u64 0, .int .u64 0, .int .u64 0, .int .u64 0, .int .u64 0, .int .u64 0, .int .u64 0, .int .u64 0, .int .u64 0, .int .u64 0, .int .u64 0, .int .u64 0] 29)) (.cells #[.int .i64 0, .bool false, .int .u64 0] 35))
  have BP := Aside0.mk (blk_alloc (blk_alloc (blk_alloc (blk_new2 w (.cells (SV l) 29) (.cells #[.int .u64 p.f0, .int .u64 p.f1] 26)) (.cells #[.int .i64 e, .bool d, .int .u64 x] 35)) (.cells #[.int .i64 0, .int .u64 0, .int .u64 0, .int .u64 0, .int .u64 0, .int .u64 0, .int .u64 0, .int .u64 0, .int .u64 0, .int .u64 0, .int .u64 0, .int .u64 0, .int .u64 0, .int .u64 0, .int .u64 0, .int .u64 0, .int .u64 0, .int .u64 0, .int .u64 0, .int .u64 0, .int .u64 0, .int .u64 0, .int .u64 0, .int .u64 0, .int .u64 0, .int .u64 0, .int .u64 0, .int .u64 0, .int .u64 0, .int .u64 0, .int .u64 0, .int .u64 0, .int .u64 0] 29)) (.cells #[.int .i64 0, .bool false, .int .u64 0] 35))
  have BA := Aside0.mk (blk_alloc (blk_alloc (blk_new3 w (.cells (SV l) 29) (.cells #[.int .u64 p.f0, .int .u64 p.f1] 26) (.cells #[.int .i64 e, .bool d, .int .u64 x] 35)) (.cells #[.int .i64 0, .int .u64 0, .int .u64 0, .int .u64 0, .int .u64 0, .int .u64 0, .int .u64 0, .int .u64 0, .int .u64 0, .int .u64 0, .int .u64 0, .int .u64 0, .int .u64 0, .int .u64 0, .int .u64 0, .int .u64 0, .int .u64 0, .int .u64 0, .int .u64 0, .int .u64 0, .int .u64 0, .int .u64 0, .int .u64 0, .int .u64 0, .int .u64 0, .int .u64 0, .int .u64 0, .int .u64 0, .int .u64 0, .int .u64 0, .int .u64 0, .int .u64 0, .int .u64 0] 29)) (.cells #[.int .i64 0, .bool false, .int .u64 0] 35))
  have BZ := Aside0.mk (blk_alloc (blk_new4 w (.cells (SV l) 29) (.cells #[.int .u64 p.f0, .int .u64 p.f1] 26) (.cells #[.int .i64 e, .bool d, .int .u64 x] 35) (.cells #[.int .i64 0, .int .u64 0, .int .u64 0, .int .u64 0, .int .u64 0, .int .u64 0, .int .u64 0, .int .u64 0, .int .u64 0, .int .u64 0, .int .u64 0, .int .u64 0, .int .u64 0, .int .u64 0, .int .u64 0, .int .u64 0, .int .u64 0, .int .u64 0, .int .u64 0, .int .u64 0, .int .u64 0, .int .u64 0, .int .u64 0, .int .u64 0, .int .u64 0, .int .u64 0, .int .u64 0, .int .u64 0, .int .u64 0, .int .u64 0, .int .u64 0, .int .u64 0, .int .u64 0] 29)) (.cells #[.int .i64 0, .bool false, .int .u64 0] 35))
  have BY := Aside0.mk (blk_new5 w (.cells (SV l) 29) (.cells #[.int .u64 p.f0, .int .u64 p.f1] 26) (.cells #[.int .i64 e, .bool d, .int .u64 x] 35) (.cells #[.int .i64 0, .int .u64 0, .int .u64 0, .int .u64 0, .int .u64 0, .int .u64 0, .int .u64 0, .int .u64 0, .int .u64 0, .int .u64 0, .int .u64 0, .int .u64 0, .int .u64 0, .int .u64 0, .int .u64 0, .int .u64 0, .int .u64 0, .int .u64 0, .int .u64 0, .int .u64 0, .int .u64 0, .int .u64 0, .int .u64 0, .int .u64 0, .int .u64 0, .int .u64 0, .int .u64 0, .int .u64 0, .int .u64 0, .int .u64 0, .int .u64 0, .int .u64 0, .int .u64 0] 29) (.cells #[.int .i64 0, .bool false, .int .u64 0] 35))
  have B1 := Aside0.mk (below_alloc (below_alloc (below_alloc (below_alloc (below_alloc (Below.refl w.heap.size w) (.cells (SV l) 29)) (.cells #[.int .u64 p.f0, .int .u64 p.f1] 26)) (.cells #[.int .i64 e, .bool d, .int .u64 x] 35)) (.cells #[.int .i64 0, .int .u64 0, .int .u64 0, .int .u64 0, .int .u64 0, .int .u64 0, .int .u64 0, .int .u64 0, .int .u64 0, .int .u64 0, .int .u64 0, .int .u64 0, .int .u64 0, .int .u64 0, .int .u64 0, .int .u64 0, .int .u64 0, .int .u64 0, .int .u64 0, .int .u64 0, .int .u64 0, .int .u64 0, .int .u64 0, .int .u64 0, .int .u64 0, .int .u64 0, .int .u64 0, .int .u64 0, .int .u64 0, .int .u64 0, .int .u64 0, .int .u64 0, .int .u64 0] 29)) (.cells #[.int .i64 0, .bool false, .int .u64 0] 35))
  have SZ := Aside0.mk (show (((((w.alloc (.cells (SV l) 29)).alloc (.cells #[.int .u64 p.f0, .int .u64 p.f1] 26)).alloc (.cells #[.int .i64 e, .bool d, .int .u64 x] 35)).alloc (.cells #[.int .i64 0, .int .u64 0, .int .u64 0, .int .u64 0, .int .u64 0, .int .u64 0, .int .u64 0, .int .u64 0, .int .u64 0, .int .u64 0, .int .u64 0, .int .u64 0, .int .u64 0, .int .u64 0, .int .u64 0, .int .u64 0, .int .u64 0, .int .u64 0, .int .u64 0, .int .u64 0, .int .u64 0, .int .u64 0, .int .u64 0, .int .u64 0, .int .u64 0, .int .u64 0, .int .u64 0, .int .u64 0, .int .u64 0, .int .u64 0, .int .u64 0, .int .u64 0, .int .u64 0] 29)).alloc (.cells #[.int .i64 0, .bool false, .int .u64 0] 35)).heap.size = w.heap.size + 5 by simp)
  go_enter Try.func21, Try.ntmps21
  go_wp2_with (first
    | (refine wpList_load_row rfl 29 (.tmp 4) rfl w.heap.size rfl 29 (SV l) (0, 0) _ BK.out Try.underlying29 rfl (info29 l) ?_)
    | (refine wpList_load_row rfl 26 (.tmp 5) rfl (w.heap.size + 1) rfl 26 #[.int .u64 p.f0, .int .u64 p.f1] (0, 0) _ BP.out Try.underlying26 rfl (by kernel_rfl) ?_))
  generalize (((((w.alloc (.cells (SV l) 29)).alloc (.cells #[.int .u64 p.f0, .int .u64 p.f1] 26)).alloc (.cells #[.int .i64 e, .bool d, .int .u64 x] 35)).alloc (.cells #[.int .i64 0, .int .u64 0, .int .u64 0, .int .u64 0, .int .u64 0, .int .u64 0, .int .u64 0, .int .u64 0, .int .u64 0, .int .u64 0, .int .u64 0, .int .u64 0, .int .u64 0, .int .u64 0, .int .u64 0, .int .u64 0, .int .u64 0, .int .u64 0, .int .u64 0, .int .u64 0, .int .u64 0, .int .u64 0, .int .u64 0, .int .u64 0, .int .u64 0, .int .u64 0, .int .u64 0, .int .u64 0, .int .u64 0, .int .u64 0, .int .u64 0, .int .u64 0, .int .u64 0] 29)).alloc (.cells #[.int .i64 0, .bool false, .int .u64 0] 35)) = w1 at *
  refine (with_T l p _ HL.out).mono ?_
  rintro e w2 ⟨rfl, hb⟩
  have BA2 := Aside0.mk (blk_below BA.out hb)
  have BZ2 := Aside0.mk (blk_below BZ.out hb)
  have BY2 := Aside0.mk (blk_below BY.out hb)
  have B2 := Aside0.mk (below_step B1.out hb)
  clear BK BP BA BZ BY
  rw [HM.out]
  have BN := Aside0.mk (blk_new w2 (.cells #[.int .i64 0, .int .u64 0, .int .u64 0, .int .u64 0, .int .u64 0, .int .u64 0, .int .u64 0, .int .u64 0, .int .u64 0, .int .u64 0, .int .u64 0, .int .u64 0, .int .u64 0, .int .u64 0, .int .u64 0, .int .u64 0, .int .u64 0, .int .u64 0, .int .u64 0, .int .u64 0, .int .u64 0, .int .u64 0, .int .u64 0, .int .u64 0, .int .u64 0, .int .u64 0, .int .u64 0, .int .u64 0, .int .u64 0, .int .u64 0, .int .u64 0, .int .u64 0, .int .u64 0] 29))
  have BA3 := Aside0.mk (blk_alloc BA2.out (.cells #[.int .i64 0, .int .u64 0, .int .u64 0, .int .u64 0, .int .u64 0, .int .u64 0, .int .u64 0, .int .u64 0, .int .u64 0, .int .u64 0, .int .u64 0, .int .u64 0, .int .u64 0, .int .u64 0, .int .u64 0, .int .u64 0, .int .u64 0, .int .u64 0, .int .u64 0, .int .u64 0, .int .u64 0, .int .u64 0, .int .u64 0, .int .u64 0, .int .u64 0, .int .u64 0, .int .u64 0, .int .u64 0, .int .u64 0, .int .u64 0, .int .u64 0, .int .u64 0, .int .u64 0] 29))
  have BZ3 := Aside0.mk (blk_alloc BZ2.out (.cells #[.int .i64 0, .int .u64 0, .int .u64 0, .int .u64 0, .int .u64 0, .int .u64 0, .int .u64 0, .int .u64 0, .int .u64 0, .int .u64 0, .int .u64 0, .int .u64 0, .int .u64 0, .int .u64 0, .int .u64 0, .int .u64 0, .int .u64 0, .int .u64 0, .int .u64 0, .int .u64 0, .int .u64 0, .int .u64 0, .int .u64 0, .int .u64 0, .int .u64 0, .int .u64 0, .int .u64 0, .int .u64 0, .int .u64 0, .int .u64 0, .int .u64 0, .int .u64 0, .int .u64 0] 29))
  have BY3 := Aside0.mk (blk_alloc BY2.out (.cells #[.int .i64 0, .int .u64 0, .int .u64 0, .int .u64 0, .int .u64 0, .int .u64 0, .int .u64 0, .int .u64 0, .int .u64 0, .int .u64 0, .int .u64 0, .int .u64 0, .int .u64 0, .int .u64 0, .int .u64 0, .int .u64 0, .int .u64 0, .int .u64 0, .int .u64 0, .int .u64 0, .int .u64 0, .int .u64 0, .int .u64 0, .int .u64 0, .int .u64 0, .int .u64 0, .int .u64 0, .int .u64 0, .int .u64 0, .int .u64 0, .int .u64 0, .int .u64 0, .int .u64 0] 29))
  have B3 := Aside0.mk (below_alloc B2.out (.cells #[.int .i64 0, .int .u64 0, .int .u64 0, .int .u64 0, .int .u64 0, .int .u64 0, .int .u64 0, .int .u64 0, .int .u64 0, .int .u64 0, .int .u64 0, .int .u64 0, .int .u64 0, .int .u64 0, .int .u64 0, .int .u64 0, .int .u64 0, .int .u64 0, .int .u64 0, .int .u64 0, .int .u64 0, .int .u64 0, .int .u64 0, .int .u64 0, .int .u64 0, .int .u64 0, .int .u64 0, .int .u64 0, .int .u64 0, .int .u64 0, .int .u64 0, .int .u64 0, .int .u64 0] 29))
  have SZ2 := Aside0.mk (show w.heap.size + 5 ≤ w2.heap.size by have := hb.size; have := SZ.out; omega)
  clear hb
  go_wp2_with (first
    | (refine store_whole (w := w) (B := w.heap.size) rfl rfl 29 (.tmp 11) (.tmp 21) rfl (g := w2.heap.size) (cs := SV m) rfl _ rfl rfl (stot _) (SV_one _) BN.out (by rw [SV_size]; rfl) (by have := SZ2.out; omega) B3.out ?_; intro w3 h1 h2 h3 h4; have BN4 := Aside0.mk h1; have B4 := Aside0.mk h2; have BA4 := Aside0.mk ((h3 _ (by have := SZ2.out; omega)).trans BA3.out); have BZ4 := Aside0.mk ((h3 _ (by have := SZ2.out; omega)).trans BZ3.out); have BY4 := Aside0.mk ((h3 _ (by have := SZ2.out; omega)).trans BY3.out); clear h1 h2 h3 h4))
  have NK := Aside0.mk (show w2.heap.size ≠ w.heap.size + 1 + 1 + 1 by have := SZ2.out; omega)
  have BK := BN4
  have BA := BA4
  have BZ := BZ4
  have BY := BY4
  have B1 := B4
  clear BN4 BA4 BZ4 BY4 B4
  refine start_ (n := 5) (S := fun w' => w'.heap[w2.heap.size]? = some (.cells (SV m) 29 (0, 0)) ∧ w'.heap[w.heap.size + 1 + 1]? = some (.cells #[.int .i64 e, .bool d, .int .u64 x] 35 (0, 0))) (ds := [3]) (lb 5 0) (by kernel_rfl) rfl rfl ⟨BK.out, BA.out⟩ (fun hHeld => ?_)
  refine take_ (i := 0) (N := some 28) (v := ?_) (a' := ?_) #[true, false, false, false, false] rfl rfl (by kernel_rfl) (fun _ _ _ h => h) (Or.inl ⟨by rfl, ?_⟩) hHeld ?_ ?_
  rotate_left
  · rintro w' ⟨s0, s1⟩
    refine exec_load_row 29 (.tmp 11) ?_ _ ?_ 29 (SV m) (0, 0) _ s0 Try.underlying29 rfl (info29 _) <;> rfl
  rotate_left
  · simp only [Act.put, List.setIfInBounds_toArray, List.set_cons_zero, List.set_cons_succ, i64_w, i32_w]
    rfl
  refine take_ (i := 1) (N := some 29) (v := ?_) (a' := ?_) #[true, true, false, false, false] rfl rfl (by kernel_rfl) (fun _ _ _ h => h) (Or.inl ⟨by rfl, ?_⟩) hHeld ?_ ?_
  rotate_left
  · rintro w' ⟨s0, s1⟩
    refine exec_load_row 35 (.tmp 7) ?_ _ ?_ 35 #[.int .i64 e, .bool d, .int .u64 x] (0, 0) _ s1 Try.underlying35 rfl (by kernel_rfl) <;> rfl
  rotate_left
  · simp only [Act.put, List.setIfInBounds_toArray, List.set_cons_zero, List.set_cons_succ, i64_w, i32_w]
    rfl
  refine one_ (i := 2) (N := none) (lb 5 7) rfl rfl (by kernel_rfl) (by decide) (fun K hK => ?_)
  refine skip_whole (w := w) (B := w.heap.size) 29 (.tmp 8) (.tmp 28) (by rfl) rfl rfl (g := w.heap.size + 1 + 1 + 1) (cs := SV m) ?_ (.agg (SV m)) ?_ rfl (stot _) (SV_one _) (blk_drew BZ.out) (by rw [SV_size]; rfl) (by omega) (below_drew B1.out) ?_
  · rfl
  · rfl
  intro w4 h1 h2 h3 h4
  have BZ4 := Aside0.mk h1
  have B4 := Aside0.mk h2
  have BY4 := Aside0.mk ((h3 (w.heap.size + 1 + 1 + 1 + 1) (by omega)).trans (blk_drew BY.out))
  have K4 := Aside0.mk ((h3 _ NK.out).trans (blk_drew BK.out))
  have BA4 := Aside0.mk ((h3 (w.heap.size + 1 + 1) (by omega)).trans (blk_drew BA.out))
  clear h1 h2 h3 h4
  refine hK.out _ _ ⟨K4.out, BA4.out⟩ (fun hHeld => ?_)
  clear hK K
  refine last_ (i := 3) (N := none) (lb 5 15) rfl rfl (by kernel_rfl) (by decide) (fun K hK => ?_)
  refine skip_whole (w := w) (B := w.heap.size) 35 (.tmp 9) (.tmp 29) (by rfl) rfl rfl (g := w.heap.size + 1 + 1 + 1 + 1) (cs := #[.int .i64 e, .bool d, .int .u64 x]) ?_ (.agg (#[.int .i64 e, .bool d, .int .u64 x])) ?_ rfl (by kernel_rfl) (by simp [Value.oneCell']) (BY4.out) (rfl) (by omega) (B4.out) ?_
  · rfl
  · rfl
  intro w5 h1 h2 h3 h4
  have BZ5 := Aside0.mk ((h3 (w.heap.size + 1 + 1 + 1) (by omega)).trans BZ4.out)
  have BY5 := Aside0.mk h1
  have B5 := Aside0.mk h2
  clear h1 h2 h3 h4
  refine hK.out _ _ ?_
  clear hK K
  refine pS (v := ?_) (a' := ?_) 4 (some 10) (lb 5 31) rfl rfl (by kernel_rfl) (fun _ _ _ h => h) (by rfl) ?_ ?_ ?_; rotate_left; (intro w'; go_simp; with_reducible rfl); rotate_left; (simp only [Act.put, List.setIfInBounds_toArray, List.set_cons_zero, List.set_cons_succ, i64_w, i32_w]; rfl)
  refine done_ (by kernel_rfl) ?_
  go_wp2_with fail
  exact bodyPost_ret (results_cell3s rfl _ _ (w.heap.size + 1 + 1 + 1) (w.heap.size + 1 + 1 + 1 + 1) m e d x rfl BZ5.out rfl BY5.out rfl) rfl ⟨rfl, B5.out⟩
set_option maxHeartbeats 8000000 in
set_option maxRecDepth 100000 in
theorem putErr_T (l : List S26) (p : S26) (e : Int) (d : Bool) (x : Int) (w : World) (hl : l.length ≤ 16) (m : List S26) (c : Int) (hm : withV l p = (m, c)) (hc : c ≠ 0) :
    Calls Try.prog 21 #[.agg (SV l), .agg #[.int .u64 p.f0, .int .u64 p.f1], .bool true, .agg #[.int .i64 e, .bool d, .int .u64 x]] w fun e_ w' => e_ = .returned (.tuple #[.agg (SV []), .agg #[.int .i64 0, .bool false, .int .u64 0], .int .i64 c]) ∧ Below w.heap.size w w' := by
  have hu29 := Try.underlying29
  have hu26 := Try.underlying26
  have hu35 := Try.underlying35
  have HL := Aside0.mk hl
  clear hl
  have HM := Aside0.mk hm
  have tc := eq_false hc
  have tc2 : (c == 0) = false := beq_eq_false_iff_ne.2 hc
  clear hm hc
  have BK := Aside0.mk (blk_alloc (blk_alloc (blk_alloc (blk_alloc (blk_new w (.cells (SV l) 29)) (.cells #[.int .u64 p.f0, .int .u64 p.f1] 26)) (.cells #[.int .i64 e, .bool d, .int .u64 x] 35)) (.cells #[.int .i64 0, .int .u64 0, .int .u64 0, .int .u64 0, .int .u64 0, .int .u64 0, .int .u64 0, .int .u64 0, .int .u64 0, .int .u64 0, .int .u64 0, .int .u64 0, .int .u64 0, .int .u64 0, .int .u64 0, .int .u64 0, .int .u64 0, .int .u64 0, .int .u64 0, .int .u64 0, .int .u64 0, .int .u64 0, .int .u64 0, .int .u64 0, .int .u64 0, .int .u64 0, .int .u64 0, .int .u64 0, .int .u64 0, .int .u64 0, .int .u64 0, .int .u64 0, .int .u64 0] 29)) (.cells #[.int .i64 0, .bool false, .int .u64 0] 35))
  have BP := Aside0.mk (blk_alloc (blk_alloc (blk_alloc (blk_new2 w (.cells (SV l) 29) (.cells #[.int .u64 p.f0, .int .u64 p.f1] 26)) (.cells #[.int .i64 e, .bool d, .int .u64 x] 35)) (.cells #[.int .i64 0, .int .u64 0, .int .u64 0, .int .u64 0, .int .u64 0, .int .u64 0, .int .u64 0, .int .u64 0, .int .u64 0, .int .u64 0, .int .u64 0, .int .u64 0, .int .u64 0, .int .u64 0, .int .u64 0, .int .u64 0, .int .u64 0, .int .u64 0, .int .u64 0, .int .u64 0, .int .u64 0, .int .u64 0, .int .u64 0, .int .u64 0, .int .u64 0, .int .u64 0, .int .u64 0, .int .u64 0, .int .u64 0, .int .u64 0, .int .u64 0, .int .u64 0, .int .u64 0] 29)) (.cells #[.int .i64 0, .bool false, .int .u64 0] 35))
  have BA := Aside0.mk (blk_alloc (blk_alloc (blk_new3 w (.cells (SV l) 29) (.cells #[.int .u64 p.f0, .int .u64 p.f1] 26) (.cells #[.int .i64 e, .bool d, .int .u64 x] 35)) (.cells #[.int .i64 0, .int .u64 0, .int .u64 0, .int .u64 0, .int .u64 0, .int .u64 0, .int .u64 0, .int .u64 0, .int .u64 0, .int .u64 0, .int .u64 0, .int .u64 0, .int .u64 0, .int .u64 0, .int .u64 0, .int .u64 0, .int .u64 0, .int .u64 0, .int .u64 0, .int .u64 0, .int .u64 0, .int .u64 0, .int .u64 0, .int .u64 0, .int .u64 0, .int .u64 0, .int .u64 0, .int .u64 0, .int .u64 0, .int .u64 0, .int .u64 0, .int .u64 0, .int .u64 0] 29)) (.cells #[.int .i64 0, .bool false, .int .u64 0] 35))
  have BZ := Aside0.mk (blk_alloc (blk_new4 w (.cells (SV l) 29) (.cells #[.int .u64 p.f0, .int .u64 p.f1] 26) (.cells #[.int .i64 e, .bool d, .int .u64 x] 35) (.cells #[.int .i64 0, .int .u64 0, .int .u64 0, .int .u64 0, .int .u64 0, .int .u64 0, .int .u64 0, .int .u64 0, .int .u64 0, .int .u64 0, .int .u64 0, .int .u64 0, .int .u64 0, .int .u64 0, .int .u64 0, .int .u64 0, .int .u64 0, .int .u64 0, .int .u64 0, .int .u64 0, .int .u64 0, .int .u64 0, .int .u64 0, .int .u64 0, .int .u64 0, .int .u64 0, .int .u64 0, .int .u64 0, .int .u64 0, .int .u64 0, .int .u64 0, .int .u64 0, .int .u64 0] 29)) (.cells #[.int .i64 0, .bool false, .int .u64 0] 35))
  have BY := Aside0.mk (blk_new5 w (.cells (SV l) 29) (.cells #[.int .u64 p.f0, .int .u64 p.f1] 26) (.cells #[.int .i64 e, .bool d, .int .u64 x] 35) (.cells #[.int .i64 0, .int .u64 0, .int .u64 0, .int .u64 0, .int .u64 0, .int .u64 0, .int .u64 0, .int .u64 0, .int .u64 0, .int .u64 0, .int .u64 0, .int .u64 0, .int .u64 0, .int .u64 0, .int .u64 0, .int .u64 0, .int .u64 0, .int .u64 0, .int .u64 0, .int .u64 0, .int .u64 0, .int .u64 0, .int .u64 0, .int .u64 0, .int .u64 0, .int .u64 0, .int .u64 0, .int .u64 0, .int .u64 0, .int .u64 0, .int .u64 0, .int .u64 0, .int .u64 0] 29) (.cells #[.int .i64 0, .bool false, .int .u64 0] 35))
  have B1 := Aside0.mk (below_alloc (below_alloc (below_alloc (below_alloc (below_alloc (Below.refl w.heap.size w) (.cells (SV l) 29)) (.cells #[.int .u64 p.f0, .int .u64 p.f1] 26)) (.cells #[.int .i64 e, .bool d, .int .u64 x] 35)) (.cells #[.int .i64 0, .int .u64 0, .int .u64 0, .int .u64 0, .int .u64 0, .int .u64 0, .int .u64 0, .int .u64 0, .int .u64 0, .int .u64 0, .int .u64 0, .int .u64 0, .int .u64 0, .int .u64 0, .int .u64 0, .int .u64 0, .int .u64 0, .int .u64 0, .int .u64 0, .int .u64 0, .int .u64 0, .int .u64 0, .int .u64 0, .int .u64 0, .int .u64 0, .int .u64 0, .int .u64 0, .int .u64 0, .int .u64 0, .int .u64 0, .int .u64 0, .int .u64 0, .int .u64 0] 29)) (.cells #[.int .i64 0, .bool false, .int .u64 0] 35))
  have SZ := Aside0.mk (show (((((w.alloc (.cells (SV l) 29)).alloc (.cells #[.int .u64 p.f0, .int .u64 p.f1] 26)).alloc (.cells #[.int .i64 e, .bool d, .int .u64 x] 35)).alloc (.cells #[.int .i64 0, .int .u64 0, .int .u64 0, .int .u64 0, .int .u64 0, .int .u64 0, .int .u64 0, .int .u64 0, .int .u64 0, .int .u64 0, .int .u64 0, .int .u64 0, .int .u64 0, .int .u64 0, .int .u64 0, .int .u64 0, .int .u64 0, .int .u64 0, .int .u64 0, .int .u64 0, .int .u64 0, .int .u64 0, .int .u64 0, .int .u64 0, .int .u64 0, .int .u64 0, .int .u64 0, .int .u64 0, .int .u64 0, .int .u64 0, .int .u64 0, .int .u64 0, .int .u64 0] 29)).alloc (.cells #[.int .i64 0, .bool false, .int .u64 0] 35)).heap.size = w.heap.size + 5 by simp)
  go_enter Try.func21, Try.ntmps21
  go_wp2_with (first
    | (refine wpList_load_row rfl 29 (.tmp 4) rfl w.heap.size rfl 29 (SV l) (0, 0) _ BK.out Try.underlying29 rfl (info29 l) ?_)
    | (refine wpList_load_row rfl 26 (.tmp 5) rfl (w.heap.size + 1) rfl 26 #[.int .u64 p.f0, .int .u64 p.f1] (0, 0) _ BP.out Try.underlying26 rfl (by kernel_rfl) ?_))
  generalize (((((w.alloc (.cells (SV l) 29)).alloc (.cells #[.int .u64 p.f0, .int .u64 p.f1] 26)).alloc (.cells #[.int .i64 e, .bool d, .int .u64 x] 35)).alloc (.cells #[.int .i64 0, .int .u64 0, .int .u64 0, .int .u64 0, .int .u64 0, .int .u64 0, .int .u64 0, .int .u64 0, .int .u64 0, .int .u64 0, .int .u64 0, .int .u64 0, .int .u64 0, .int .u64 0, .int .u64 0, .int .u64 0, .int .u64 0, .int .u64 0, .int .u64 0, .int .u64 0, .int .u64 0, .int .u64 0, .int .u64 0, .int .u64 0, .int .u64 0, .int .u64 0, .int .u64 0, .int .u64 0, .int .u64 0, .int .u64 0, .int .u64 0, .int .u64 0, .int .u64 0] 29)).alloc (.cells #[.int .i64 0, .bool false, .int .u64 0] 35)) = w1 at *
  refine (with_T l p _ HL.out).mono ?_
  rintro e w2 ⟨rfl, hb⟩
  have BA2 := Aside0.mk (blk_below BA.out hb)
  have BZ2 := Aside0.mk (blk_below BZ.out hb)
  have BY2 := Aside0.mk (blk_below BY.out hb)
  have B2 := Aside0.mk (below_step B1.out hb)
  clear BK BP BA BZ BY
  rw [HM.out]
  have BN := Aside0.mk (blk_new w2 (.cells #[.int .i64 0, .int .u64 0, .int .u64 0, .int .u64 0, .int .u64 0, .int .u64 0, .int .u64 0, .int .u64 0, .int .u64 0, .int .u64 0, .int .u64 0, .int .u64 0, .int .u64 0, .int .u64 0, .int .u64 0, .int .u64 0, .int .u64 0, .int .u64 0, .int .u64 0, .int .u64 0, .int .u64 0, .int .u64 0, .int .u64 0, .int .u64 0, .int .u64 0, .int .u64 0, .int .u64 0, .int .u64 0, .int .u64 0, .int .u64 0, .int .u64 0, .int .u64 0, .int .u64 0] 29))
  have BA3 := Aside0.mk (blk_alloc BA2.out (.cells #[.int .i64 0, .int .u64 0, .int .u64 0, .int .u64 0, .int .u64 0, .int .u64 0, .int .u64 0, .int .u64 0, .int .u64 0, .int .u64 0, .int .u64 0, .int .u64 0, .int .u64 0, .int .u64 0, .int .u64 0, .int .u64 0, .int .u64 0, .int .u64 0, .int .u64 0, .int .u64 0, .int .u64 0, .int .u64 0, .int .u64 0, .int .u64 0, .int .u64 0, .int .u64 0, .int .u64 0, .int .u64 0, .int .u64 0, .int .u64 0, .int .u64 0, .int .u64 0, .int .u64 0] 29))
  have BZ3 := Aside0.mk (blk_alloc BZ2.out (.cells #[.int .i64 0, .int .u64 0, .int .u64 0, .int .u64 0, .int .u64 0, .int .u64 0, .int .u64 0, .int .u64 0, .int .u64 0, .int .u64 0, .int .u64 0, .int .u64 0, .int .u64 0, .int .u64 0, .int .u64 0, .int .u64 0, .int .u64 0, .int .u64 0, .int .u64 0, .int .u64 0, .int .u64 0, .int .u64 0, .int .u64 0, .int .u64 0, .int .u64 0, .int .u64 0, .int .u64 0, .int .u64 0, .int .u64 0, .int .u64 0, .int .u64 0, .int .u64 0, .int .u64 0] 29))
  have BY3 := Aside0.mk (blk_alloc BY2.out (.cells #[.int .i64 0, .int .u64 0, .int .u64 0, .int .u64 0, .int .u64 0, .int .u64 0, .int .u64 0, .int .u64 0, .int .u64 0, .int .u64 0, .int .u64 0, .int .u64 0, .int .u64 0, .int .u64 0, .int .u64 0, .int .u64 0, .int .u64 0, .int .u64 0, .int .u64 0, .int .u64 0, .int .u64 0, .int .u64 0, .int .u64 0, .int .u64 0, .int .u64 0, .int .u64 0, .int .u64 0, .int .u64 0, .int .u64 0, .int .u64 0, .int .u64 0, .int .u64 0, .int .u64 0] 29))
  have B3 := Aside0.mk (below_alloc B2.out (.cells #[.int .i64 0, .int .u64 0, .int .u64 0, .int .u64 0, .int .u64 0, .int .u64 0, .int .u64 0, .int .u64 0, .int .u64 0, .int .u64 0, .int .u64 0, .int .u64 0, .int .u64 0, .int .u64 0, .int .u64 0, .int .u64 0, .int .u64 0, .int .u64 0, .int .u64 0, .int .u64 0, .int .u64 0, .int .u64 0, .int .u64 0, .int .u64 0, .int .u64 0, .int .u64 0, .int .u64 0, .int .u64 0, .int .u64 0, .int .u64 0, .int .u64 0, .int .u64 0, .int .u64 0] 29))
  have SZ2 := Aside0.mk (show w.heap.size + 5 ≤ w2.heap.size by have := hb.size; have := SZ.out; omega)
  clear hb
  go_wp2_with (first
    | (refine store_whole (w := w) (B := w.heap.size) rfl rfl 29 (.tmp 11) (.tmp 21) rfl (g := w2.heap.size) (cs := SV m) rfl _ rfl rfl (stot _) (SV_one _) BN.out (by rw [SV_size]; rfl) (by have := SZ2.out; omega) B3.out ?_; intro w3 h1 h2 h3 h4; have BN4 := Aside0.mk h1; have B4 := Aside0.mk h2; have BA4 := Aside0.mk ((h3 _ (by have := SZ2.out; omega)).trans BA3.out); have BZ4 := Aside0.mk ((h3 _ (by have := SZ2.out; omega)).trans BZ3.out); have BY4 := Aside0.mk ((h3 _ (by have := SZ2.out; omega)).trans BY3.out); clear h1 h2 h3 h4)
    | (refine store_whole (w := w) (B := w.heap.size) rfl rfl 29 (.tmp 8) (.tmp 25) rfl (g := w.heap.size + 1 + 1 + 1) (cs := SV []) rfl _ rfl rfl (stot _) (SV_one _) BZ4.out (by rw [SV_size]; rfl) (by omega) B4.out ?_; intro w5 h1 h2 h3 h4; have BZ5 := Aside0.mk h1; have B5 := Aside0.mk h2; have BY5 := Aside0.mk ((h3 _ (by omega)).trans BY4.out); clear h1 h2 h3 h4)
    | (refine store_whole (w := w) (B := w.heap.size) rfl rfl 35 (.tmp 9) (.tmp 26) rfl (g := w.heap.size + 1 + 1 + 1 + 1) (cs := #[.int .i64 0, .bool false, .int .u64 0]) rfl _ rfl rfl (by kernel_rfl) (by simp [Value.oneCell']) BY5.out rfl (by omega) B5.out ?_; intro w6 h1 h2 h3 h4; have BY6 := Aside0.mk h1; have B6 := Aside0.mk h2; have BZ6 := Aside0.mk ((h3 _ (by omega)).trans BZ5.out); clear h1 h2 h3 h4))
  exact bodyPost_ret (results_cell3s rfl _ _ (w.heap.size + 1 + 1 + 1) (w.heap.size + 1 + 1 + 1 + 1) [] 0 false 0 rfl BZ6.out rfl BY6.out rfl) rfl ⟨rfl, B6.out⟩
/-- An answer of three parts, in its cells. -/
@[reducible] def A3 (a : Int × Bool × Int) : Array Value := #[.int .i64 a.1, .bool a.2.1, .int .u64 a.2.2]
def putV (l : List S26) (p : S26) (b : Bool) (a : Int × Bool × Int) : List S26 × (Int × Bool × Int) × Int :=
  if b = true then (if (withV l p).2 = 0 then ((withV l p).1, a, 0) else ([], (0, false, 0), (withV l p).2)) else (l, a, 0)
theorem put_T (l : List S26) (p : S26) (b : Bool) (e : Int) (d : Bool) (x : Int) (w : World) (hl : l.length ≤ 16) :
    Calls Try.prog 21 #[.agg (SV l), .agg #[.int .u64 p.f0, .int .u64 p.f1], .bool b, .agg #[.int .i64 e, .bool d, .int .u64 x]] w fun e_ w' => e_ = .returned (.tuple #[.agg (SV (putV l p b (e, d, x)).1), .agg (A3 (putV l p b (e, d, x)).2.1), .int .i64 (putV l p b (e, d, x)).2.2]) ∧ Below w.heap.size w w' := by
  unfold putV
  cases b with
  | false => rw [if_neg (by decide)]; exact putNo_T l p e d x w hl
  | true =>
    rw [if_pos rfl]
    by_cases hc : (withV l p).2 = 0
    · rw [if_pos hc]; exact putOk_T l p e d x w hl _ (by rw [← hc])
    · rw [if_neg hc]; exact putErr_T l p e d x w hl (withV l p).1 _ rfl hc
end Go.Proofs.Ytcphmelmieedfab.PSpecExact

namespace Go.Proofs.Ytcphmelmieedfab.PSpecExact
open Go Go.RowKit Go.Proofs.YtcphmelmieedfabW.PrintWords Go.Proofs.YtcphmelmieedfabW.PrintLast Go.Proofs.YtcphmelmieedfabW.PrintMore
attribute [local go_sem] max2_int min2_int max_two min_two max_three min_three max_four min_four
set_option linter.unusedVariables false
set_option linter.unusedSimpArgs false
theorem results_cell3s2 {fn : Func} (h : fn.results = #[.cell 4 29, .cell 5 35, .tmp 6]) (tmps : Array Value) (w : World) (g g2 : Nat) (l : List S26) (a : Int × Bool × Int) (hp : tmps.getD 4 undef = .pointer (some ⟨g, 0, none⟩)) (hg : w.heap[g]? = some (.cells (SV l) 29 (0, 0)))
    (hp2 : tmps.getD 5 undef = .pointer (some ⟨g2, 0, none⟩)) (hg2 : w.heap[g2]? = some (.cells (A3 a) 35 (0, 0))) {v : Value} (hq : tmps.getD 6 undef = v) : (results fn tmps).run Try.prog w = .ok (.tuple #[.agg (SV l), .agg (A3 a), v]) w :=
  results_cell3 (P := Try.prog) h tmps w g g2 29 35 (SV l) (A3 a) (0, 0) (0, 0) _ _ hp hg Try.underlying29 rfl (info29 l) hp2 hg2 Try.underlying35 rfl (by kernel_rfl) hq
set_option maxHeartbeats 8000000 in
set_option maxRecDepth 100000 in
theorem do1_T (l : List S26) (k v z : Int) (w : World) (hl : l.length ≤ 16) :
    Calls Try.prog 9 #[.agg (SV l), .agg #[.int .i64 1, .int .u64 k, .int .u64 v, .int .i64 z]] w fun e w' => e = .returned (.tuple #[.agg (SV (putV l ⟨k, 0⟩ (!isF k l) (0, !isF k l, 0)).1), .agg (A3 ((putV l ⟨k, 0⟩ (!isF k l) (0, !isF k l, 0)).2.1)), .int .i64 (putV l ⟨k, 0⟩ (!isF k l) (0, !isF k l, 0)).2.2]) ∧ Below w.heap.size w w' := by
  have hu29 := Try.underlying29
  have hu39 := Try.underlying39
  have hu35 := Try.underlying35
  have HL := Aside0.mk hl
  clear hl
  have BK := Aside0.mk (blk_alloc (blk_alloc (blk_alloc (blk_new w (.cells (SV l) 29)) (.cells #[.int .i64 1, .int .u64 k, .int .u64 v, .int .i64 z] 39)) (.cells #[.int .i64 0, .int .u64 0, .int .u64 0, .int .u64 0, .int .u64 0, .int .u64 0, .int .u64 0, .int .u64 0, .int .u64 0, .int .u64 0, .int .u64 0, .int .u64 0, .int .u64 0, .int .u64 0, .int .u64 0, .int .u64 0, .int .u64 0, .int .u64 0, .int .u64 0, .int .u64 0, .int .u64 0, .int .u64 0, .int .u64 0, .int .u64 0, .int .u64 0, .int .u64 0, .int .u64 0, .int .u64 0, .int .u64 0, .int .u64 0, .int .u64 0, .int .u64 0, .int .u64 0] 29)) (.cells #[.int .i64 0, .bool false, .int .u64 0] 35))
  have BO := Aside0.mk (blk_alloc (blk_alloc (blk_new2 w (.cells (SV l) 29) (.cells #[.int .i64 1, .int .u64 k, .int .u64 v, .int .i64 z] 39)) (.cells #[.int .i64 0, .int .u64 0, .int .u64 0, .int .u64 0, .int .u64 0, .int .u64 0, .int .u64 0, .int .u64 0, .int .u64 0, .int .u64 0, .int .u64 0, .int .u64 0, .int .u64 0, .int .u64 0, .int .u64 0, .int .u64 0, .int .u64 0, .int .u64 0, .int .u64 0, .int .u64 0, .int .u64 0, .int .u64 0, .int .u64 0, .int .u64 0, .int .u64 0, .int .u64 0, .int .u64 0, .int .u64 0, .int .u64 0, .int .u64 0, .int .u64 0, .int .u64 0, .int .u64 0] 29)) (.cells #[.int .i64 0, .bool false, .int .u64 0] 35))
  have BZ := Aside0.mk (blk_alloc (blk_new3 w (.cells (SV l) 29) (.cells #[.int .i64 1, .int .u64 k, .int .u64 v, .int .i64 z] 39) (.cells #[.int .i64 0, .int .u64 0, .int .u64 0, .int .u64 0, .int .u64 0, .int .u64 0, .int .u64 0, .int .u64 0, .int .u64 0, .int .u64 0, .int .u64 0, .int .u64 0, .int .u64 0, .int .u64 0, .int .u64 0, .int .u64 0, .int .u64 0, .int .u64 0, .int .u64 0, .int .u64 0, .int .u64 0, .int .u64 0, .int .u64 0, .int .u64 0, .int .u64 0, .int .u64 0, .int .u64 0, .int .u64 0, .int .u64 0, .int .u64 0, .int .u64 0, .int .u64 0, .int .u64 0] 29)) (.cells #[.int .i64 0, .bool false, .int .u64 0] 35))
  have BY := Aside0.mk (blk_new4 w (.cells (SV l) 29) (.cells #[.int .i64 1, .int .u64 k, .int .u64 v, .int .i64 z] 39) (.cells #[.int .i64 0, .int .u64 0, .int .u64 0, .int .u64 0, .int .u64 0, .int .u64 0, .int .u64 0, .int .u64 0, .int .u64 0, .int .u64 0, .int .u64 0, .int .u64 0, .int .u64 0, .int .u64 0, .int .u64 0, .int .u64 0, .int .u64 0, .int .u64 0, .int .u64 0, .int .u64 0, .int .u64 0, .int .u64 0, .int .u64 0, .int .u64 0, .int .u64 0, .int .u64 0, .int .u64 0, .int .u64 0, .int .u64 0, .int .u64 0, .int .u64 0, .int .u64 0, .int .u64 0] 29) (.cells #[.int .i64 0, .bool false, .int .u64 0] 35))
  have B1 := Aside0.mk (below_alloc (below_alloc (below_alloc (below_alloc (Below.refl w.heap.size w) (.cells (SV l) 29)) (.cells #[.int .i64 1, .int .u64 k, .int .u64 v, .int .i64 z] 39)) (.cells #[.int .i64 0, .int .u64 0, .int .u64 0, .int .u64 0, .int .u64 0, .int .u64 0, .int .u64 0, .int .u64 0, .int .u64 0, .int .u64 0, .int .u64 0, .int .u64 0, .int .u64 0, .int .u64 0, .int .u64 0, .int .u64 0, .int .u64 0, .int .u64 0, .int .u64 0, .int .u64 0, .int .u64 0, .int .u64 0, .int .u64 0, .int .u64 0, .int .u64 0, .int .u64 0, .int .u64 0, .int .u64 0, .int .u64 0, .int .u64 0, .int .u64 0, .int .u64 0, .int .u64 0] 29)) (.cells #[.int .i64 0, .bool false, .int .u64 0] 35))
  go_enter Try.func9, Try.ntmps9
  go_wp2_with (refine wpList_load_row rfl 29 (.tmp 2) rfl w.heap.size rfl 29 (SV l) (0, 0) _ BK.out Try.underlying29 rfl (info29 l) ?_)
  generalize ((((w.alloc (.cells (SV l) 29)).alloc (.cells #[.int .i64 1, .int .u64 k, .int .u64 v, .int .i64 z] 39)).alloc (.cells #[.int .i64 0, .int .u64 0, .int .u64 0, .int .u64 0, .int .u64 0, .int .u64 0, .int .u64 0, .int .u64 0, .int .u64 0, .int .u64 0, .int .u64 0, .int .u64 0, .int .u64 0, .int .u64 0, .int .u64 0, .int .u64 0, .int .u64 0, .int .u64 0, .int .u64 0, .int .u64 0, .int .u64 0, .int .u64 0, .int .u64 0, .int .u64 0, .int .u64 0, .int .u64 0, .int .u64 0, .int .u64 0, .int .u64 0, .int .u64 0, .int .u64 0, .int .u64 0, .int .u64 0] 29)).alloc (.cells #[.int .i64 0, .bool false, .int .u64 0] 35)) = w1 at *
  refine (get_T l k _ HL.out).mono ?_
  rintro e w2 ⟨rfl, hb⟩
  have BK2 := Aside0.mk (blk_below BK.out hb)
  have BO2 := Aside0.mk (blk_below BO.out hb)
  have BZ2 := Aside0.mk (blk_below BZ.out hb)
  have BY2 := Aside0.mk (blk_below BY.out hb)
  have B2 := Aside0.mk (below_step B1.out hb)
  clear BK BO BZ BY B1 hb
  have o0 : w2.cell? ⟨w.heap.size + 1, 0, none⟩ = some (.int .i64 1) := (blk_cell BO2.out 0).trans rfl
  have o1 : w2.cell? ⟨w.heap.size + 1, 1, none⟩ = some (.int .u64 k) := (blk_cell BO2.out 1).trans rfl
  have o2 : w2.cell? ⟨w.heap.size + 1, 2, none⟩ = some (.int .u64 v) := (blk_cell BO2.out 2).trans rfl
  go_wp2_with (first
    | (refine wpList_load_row rfl 29 (.tmp 2) rfl w.heap.size rfl 29 (SV l) (0, 0) _ BK2.out Try.underlying29 rfl (info29 l) ?_))
  refine (put_T l ⟨k, 0⟩ (!isF k l) 0 (!isF k l) 0 _ HL.out).mono ?_
  rintro e w3 ⟨rfl, hb⟩
  have BZ3 := Aside0.mk (blk_below BZ2.out hb)
  have BY3 := Aside0.mk (blk_below BY2.out hb)
  have B3 := Aside0.mk (below_step B2.out hb)
  clear hb o0 o1 o2
  go_wp2_with (first
    | (refine store_whole (w := w) (B := w.heap.size) rfl rfl 29 (.tmp 4) (.tmp 30) rfl (g := w.heap.size + 1 + 1) (cs := SV (putV l ⟨k, 0⟩ (!isF k l) (0, !isF k l, 0)).1) rfl _ rfl rfl (stot _) (SV_one _) BZ3.out (by rw [SV_size]; rfl) (by omega) B3.out ?_; intro w5 h1 h2 h3 h4; have BZ5 := Aside0.mk h1; have B5 := Aside0.mk h2; have BY5 := Aside0.mk ((h3 _ (by omega)).trans BY3.out); clear h1 h2 h3 h4)
    | (refine store_whole (w := w) (B := w.heap.size) rfl rfl 35 (.tmp 5) (.tmp 31) rfl (g := w.heap.size + 1 + 1 + 1) (cs := A3 ((putV l ⟨k, 0⟩ (!isF k l) (0, !isF k l, 0)).2.1)) rfl _ rfl rfl (by kernel_rfl) (by simp [A3, Value.oneCell']) BY5.out rfl (by omega) B5.out ?_; intro w6 h1 h2 h3 h4; have BY6 := Aside0.mk h1; have B6 := Aside0.mk h2; have BZ6 := Aside0.mk ((h3 _ (by omega)).trans BZ5.out); clear h1 h2 h3 h4))
  exact bodyPost_ret (results_cell3s2 rfl _ _ (w.heap.size + 1 + 1) (w.heap.size + 1 + 1 + 1) (putV l ⟨k, 0⟩ (!isF k l) (0, !isF k l, 0)).1 ((putV l ⟨k, 0⟩ (!isF k l) (0, !isF k l, 0)).2.1) rfl BZ6.out rfl BY6.out rfl) rfl ⟨rfl, B6.out⟩
set_option maxHeartbeats 8000000 in
set_option maxRecDepth 100000 in
theorem do4_T (l : List S26) (k v z : Int) (w : World) (hl : l.length ≤ 16) :
    Calls Try.prog 9 #[.agg (SV l), .agg #[.int .i64 4, .int .u64 k, .int .u64 v, .int .i64 z]] w fun e w' => e = .returned (.tuple #[.agg (SV (putV l ⟨k, v⟩ true (0, isF k l, getV l k)).1), .agg (A3 ((putV l ⟨k, v⟩ true (0, isF k l, getV l k)).2.1)), .int .i64 (putV l ⟨k, v⟩ true (0, isF k l, getV l k)).2.2]) ∧ Below w.heap.size w w' := by
  have hu29 := Try.underlying29
  have hu39 := Try.underlying39
  have hu35 := Try.underlying35
  have HL := Aside0.mk hl
  clear hl
  have BK := Aside0.mk (blk_alloc (blk_alloc (blk_alloc (blk_new w (.cells (SV l) 29)) (.cells #[.int .i64 4, .int .u64 k, .int .u64 v, .int .i64 z] 39)) (.cells #[.int .i64 0, .int .u64 0, .int .u64 0, .int .u64 0, .int .u64 0, .int .u64 0, .int .u64 0, .int .u64 0, .int .u64 0, .int .u64 0, .int .u64 0, .int .u64 0, .int .u64 0, .int .u64 0, .int .u64 0, .int .u64 0, .int .u64 0, .int .u64 0, .int .u64 0, .int .u64 0, .int .u64 0, .int .u64 0, .int .u64 0, .int .u64 0, .int .u64 0, .int .u64 0, .int .u64 0, .int .u64 0, .int .u64 0, .int .u64 0, .int .u64 0, .int .u64 0, .int .u64 0] 29)) (.cells #[.int .i64 0, .bool false, .int .u64 0] 35))
  have BO := Aside0.mk (blk_alloc (blk_alloc (blk_new2 w (.cells (SV l) 29) (.cells #[.int .i64 4, .int .u64 k, .int .u64 v, .int .i64 z] 39)) (.cells #[.int .i64 0, .int .u64 0, .int .u64 0, .int .u64 0, .int .u64 0, .int .u64 0, .int .u64 0, .int .u64 0, .int .u64 0, .int .u64 0, .int .u64 0, .int .u64 0, .int .u64 0, .int .u64 0, .int .u64 0, .int .u64 0, .int .u64 0, .int .u64 0, .int .u64 0, .int .u64 0, .int .u64 0, .int .u64 0, .int .u64 0, .int .u64 0, .int .u64 0, .int .u64 0, .int .u64 0, .int .u64 0, .int .u64 0, .int .u64 0, .int .u64 0, .int .u64 0, .int .u64 0] 29)) (.cells #[.int .i64 0, .bool false, .int .u64 0] 35))
  have BZ := Aside0.mk (blk_alloc (blk_new3 w (.cells (SV l) 29) (.cells #[.int .i64 4, .int .u64 k, .int .u64 v, .int .i64 z] 39) (.cells #[.int .i64 0, .int .u64 0, .int .u64 0, .int .u64 0, .int .u64 0, .int .u64 0, .int .u64 0, .int .u64 0, .int .u64 0, .int .u64 0, .int .u64 0, .int .u64 0, .int .u64 0, .int .u64 0, .int .u64 0, .int .u64 0, .int .u64 0, .int .u64 0, .int .u64 0, .int .u64 0, .int .u64 0, .int .u64 0, .int .u64 0, .int .u64 0, .int .u64 0, .int .u64 0, .int .u64 0, .int .u64 0, .int .u64 0, .int .u64 0, .int .u64 0, .int .u64 0, .int .u64 0] 29)) (.cells #[.int .i64 0, .bool false, .int .u64 0] 35))
  have BY := Aside0.mk (blk_new4 w (.cells (SV l) 29) (.cells #[.int .i64 4, .int .u64 k, .int .u64 v, .int .i64 z] 39) (.cells #[.int .i64 0, .int .u64 0, .int .u64 0, .int .u64 0, .int .u64 0, .int .u64 0, .int .u64 0, .int .u64 0, .int .u64 0, .int .u64 0, .int .u64 0, .int .u64 0, .int .u64 0, .int .u64 0, .int .u64 0, .int .u64 0, .int .u64 0, .int .u64 0, .int .u64 0, .int .u64 0, .int .u64 0, .int .u64 0, .int .u64 0, .int .u64 0, .int .u64 0, .int .u64 0, .int .u64 0, .int .u64 0, .int .u64 0, .int .u64 0, .int .u64 0, .int .u64 0, .int .u64 0] 29) (.cells #[.int .i64 0, .bool false, .int .u64 0] 35))
  have B1 := Aside0.mk (below_alloc (below_alloc (below_alloc (below_alloc (Below.refl w.heap.size w) (.cells (SV l) 29)) (.cells #[.int .i64 4, .int .u64 k, .int .u64 v, .int .i64 z] 39)) (.cells #[.int .i64 0, .int .u64 0, .int .u64 0, .int .u64 0, .int .u64 0, .int .u64 0, .int .u64 0, .int .u64 0, .int .u64 0, .int .u64 0, .int .u64 0, .int .u64 0, .int .u64 0, .int .u64 0, .int .u64 0, .int .u64 0, .int .u64 0, .int .u64 0, .int .u64 0, .int .u64 0, .int .u64 0, .int .u64 0, .int .u64 0, .int .u64 0, .int .u64 0, .int .u64 0, .int .u64 0, .int .u64 0, .int .u64 0, .int .u64 0, .int .u64 0, .int .u64 0, .int .u64 0] 29)) (.cells #[.int .i64 0, .bool false, .int .u64 0] 35))
  go_enter Try.func9, Try.ntmps9
  go_wp2_with (refine wpList_load_row rfl 29 (.tmp 2) rfl w.heap.size rfl 29 (SV l) (0, 0) _ BK.out Try.underlying29 rfl (info29 l) ?_)
  generalize ((((w.alloc (.cells (SV l) 29)).alloc (.cells #[.int .i64 4, .int .u64 k, .int .u64 v, .int .i64 z] 39)).alloc (.cells #[.int .i64 0, .int .u64 0, .int .u64 0, .int .u64 0, .int .u64 0, .int .u64 0, .int .u64 0, .int .u64 0, .int .u64 0, .int .u64 0, .int .u64 0, .int .u64 0, .int .u64 0, .int .u64 0, .int .u64 0, .int .u64 0, .int .u64 0, .int .u64 0, .int .u64 0, .int .u64 0, .int .u64 0, .int .u64 0, .int .u64 0, .int .u64 0, .int .u64 0, .int .u64 0, .int .u64 0, .int .u64 0, .int .u64 0, .int .u64 0, .int .u64 0, .int .u64 0, .int .u64 0] 29)).alloc (.cells #[.int .i64 0, .bool false, .int .u64 0] 35)) = w1 at *
  refine (get_T l k _ HL.out).mono ?_
  rintro e w2 ⟨rfl, hb⟩
  have BK2 := Aside0.mk (blk_below BK.out hb)
  have BO2 := Aside0.mk (blk_below BO.out hb)
  have BZ2 := Aside0.mk (blk_below BZ.out hb)
  have BY2 := Aside0.mk (blk_below BY.out hb)
  have B2 := Aside0.mk (below_step B1.out hb)
  clear BK BO BZ BY B1 hb
  have o0 : w2.cell? ⟨w.heap.size + 1, 0, none⟩ = some (.int .i64 4) := (blk_cell BO2.out 0).trans rfl
  have o1 : w2.cell? ⟨w.heap.size + 1, 1, none⟩ = some (.int .u64 k) := (blk_cell BO2.out 1).trans rfl
  have o2 : w2.cell? ⟨w.heap.size + 1, 2, none⟩ = some (.int .u64 v) := (blk_cell BO2.out 2).trans rfl
  go_wp2_with (first
    | (refine wpList_load_row rfl 29 (.tmp 2) rfl w.heap.size rfl 29 (SV l) (0, 0) _ BK2.out Try.underlying29 rfl (info29 l) ?_))
  refine (put_T l ⟨k, v⟩ true 0 (isF k l) (getV l k) _ HL.out).mono ?_
  rintro e w3 ⟨rfl, hb⟩
  have BZ3 := Aside0.mk (blk_below BZ2.out hb)
  have BY3 := Aside0.mk (blk_below BY2.out hb)
  have B3 := Aside0.mk (below_step B2.out hb)
  clear hb o0 o1 o2
  go_wp2_with (first
    | (refine store_whole (w := w) (B := w.heap.size) rfl rfl 29 (.tmp 4) (.tmp 45) rfl (g := w.heap.size + 1 + 1) (cs := SV (putV l ⟨k, v⟩ true (0, isF k l, getV l k)).1) rfl _ rfl rfl (stot _) (SV_one _) BZ3.out (by rw [SV_size]; rfl) (by omega) B3.out ?_; intro w5 h1 h2 h3 h4; have BZ5 := Aside0.mk h1; have B5 := Aside0.mk h2; have BY5 := Aside0.mk ((h3 _ (by omega)).trans BY3.out); clear h1 h2 h3 h4)
    | (refine store_whole (w := w) (B := w.heap.size) rfl rfl 35 (.tmp 5) (.tmp 46) rfl (g := w.heap.size + 1 + 1 + 1) (cs := A3 ((putV l ⟨k, v⟩ true (0, isF k l, getV l k)).2.1)) rfl _ rfl rfl (by kernel_rfl) (by simp [A3, Value.oneCell']) BY5.out rfl (by omega) B5.out ?_; intro w6 h1 h2 h3 h4; have BY6 := Aside0.mk h1; have B6 := Aside0.mk h2; have BZ6 := Aside0.mk ((h3 _ (by omega)).trans BZ5.out); clear h1 h2 h3 h4))
  exact bodyPost_ret (results_cell3s2 rfl _ _ (w.heap.size + 1 + 1) (w.heap.size + 1 + 1 + 1) (putV l ⟨k, v⟩ true (0, isF k l, getV l k)).1 ((putV l ⟨k, v⟩ true (0, isF k l, getV l k)).2.1) rfl BZ6.out rfl BY6.out rfl) rfl ⟨rfl, B6.out⟩
set_option maxHeartbeats 8000000 in
set_option maxRecDepth 100000 in
theorem do5_T (l : List S26) (k v z : Int) (w : World) (hl : l.length ≤ 16) :
    Calls Try.prog 9 #[.agg (SV l), .agg #[.int .i64 5, .int .u64 k, .int .u64 v, .int .i64 z]] w fun e w' => e = .returned (.tuple #[.agg (SV (putV l ⟨k, v⟩ (!isF k l) (0, !isF k l, getV l k)).1), .agg (A3 ((putV l ⟨k, v⟩ (!isF k l) (0, !isF k l, getV l k)).2.1)), .int .i64 (putV l ⟨k, v⟩ (!isF k l) (0, !isF k l, getV l k)).2.2]) ∧ Below w.heap.size w w' := by
  have hu29 := Try.underlying29
  have hu39 := Try.underlying39
  have hu35 := Try.underlying35
  have HL := Aside0.mk hl
  clear hl
  have BK := Aside0.mk (blk_alloc (blk_alloc (blk_alloc (blk_new w (.cells (SV l) 29)) (.cells #[.int .i64 5, .int .u64 k, .int .u64 v, .int .i64 z] 39)) (.cells #[.int .i64 0, .int .u64 0, .int .u64 0, .int .u64 0, .int .u64 0, .int .u64 0, .int .u64 0, .int .u64 0, .int .u64 0, .int .u64 0, .int .u64 0, .int .u64 0, .int .u64 0, .int .u64 0, .int .u64 0, .int .u64 0, .int .u64 0, .int .u64 0, .int .u64 0, .int .u64 0, .int .u64 0, .int .u64 0, .int .u64 0, .int .u64 0, .int .u64 0, .int .u64 0, .int .u64 0, .int .u64 0, .int .u64 0, .int .u64 0, .int .u64 0, .int .u64 0, .int .u64 0] 29)) (.cells #[.int .i64 0, .bool false, .int .u64 0] 35))
  have BO := Aside0.mk (blk_alloc (blk_alloc (blk_new2 w (.cells (SV l) 29) (.cells #[.int .i64 5, .int .u64 k, .int .u64 v, .int .i64 z] 39)) (.cells #[.int .i64 0, .int .u64 0, .int .u64 0, .int .u64 0, .int .u64 0, .int .u64 0, .int .u64 0, .int .u64 0, .int .u64 0, .int .u64 0, .int .u64 0, .int .u64 0, .int .u64 0, .int .u64 0, .int .u64 0, .int .u64 0, .int .u64 0, .int .u64 0, .int .u64 0, .int .u64 0, .int .u64 0, .int .u64 0, .int .u64 0, .int .u64 0, .int .u64 0, .int .u64 0, .int .u64 0, .int .u64 0, .int .u64 0, .int .u64 0, .int .u64 0, .int .u64 0, .int .u64 0] 29)) (.cells #[.int .i64 0, .bool false, .int .u64 0] 35))
  have BZ := Aside0.mk (blk_alloc (blk_new3 w (.cells (SV l) 29) (.cells #[.int .i64 5, .int .u64 k, .int .u64 v, .int .i64 z] 39) (.cells #[.int .i64 0, .int .u64 0, .int .u64 0, .int .u64 0, .int .u64 0, .int .u64 0, .int .u64 0, .int .u64 0, .int .u64 0, .int .u64 0, .int .u64 0, .int .u64 0, .int .u64 0, .int .u64 0, .int .u64 0, .int .u64 0, .int .u64 0, .int .u64 0, .int .u64 0, .int .u64 0, .int .u64 0, .int .u64 0, .int .u64 0, .int .u64 0, .int .u64 0, .int .u64 0, .int .u64 0, .int .u64 0, .int .u64 0, .int .u64 0, .int .u64 0, .int .u64 0, .int .u64 0] 29)) (.cells #[.int .i64 0, .bool false, .int .u64 0] 35))
  have BY := Aside0.mk (blk_new4 w (.cells (SV l) 29) (.cells #[.int .i64 5, .int .u64 k, .int .u64 v, .int .i64 z] 39) (.cells #[.int .i64 0, .int .u64 0, .int .u64 0, .int .u64 0, .int .u64 0, .int .u64 0, .int .u64 0, .int .u64 0, .int .u64 0, .int .u64 0, .int .u64 0, .int .u64 0, .int .u64 0, .int .u64 0, .int .u64 0, .int .u64 0, .int .u64 0, .int .u64 0, .int .u64 0, .int .u64 0, .int .u64 0, .int .u64 0, .int .u64 0, .int .u64 0, .int .u64 0, .int .u64 0, .int .u64 0, .int .u64 0, .int .u64 0, .int .u64 0, .int .u64 0, .int .u64 0, .int .u64 0] 29) (.cells #[.int .i64 0, .bool false, .int .u64 0] 35))
  have B1 := Aside0.mk (below_alloc (below_alloc (below_alloc (below_alloc (Below.refl w.heap.size w) (.cells (SV l) 29)) (.cells #[.int .i64 5, .int .u64 k, .int .u64 v, .int .i64 z] 39)) (.cells #[.int .i64 0, .int .u64 0, .int .u64 0, .int .u64 0, .int .u64 0, .int .u64 0, .int .u64 0, .int .u64 0, .int .u64 0, .int .u64 0, .int .u64 0, .int .u64 0, .int .u64 0, .int .u64 0, .int .u64 0, .int .u64 0, .int .u64 0, .int .u64 0, .int .u64 0, .int .u64 0, .int .u64 0, .int .u64 0, .int .u64 0, .int .u64 0, .int .u64 0, .int .u64 0, .int .u64 0, .int .u64 0, .int .u64 0, .int .u64 0, .int .u64 0, .int .u64 0, .int .u64 0] 29)) (.cells #[.int .i64 0, .bool false, .int .u64 0] 35))
  go_enter Try.func9, Try.ntmps9
  go_wp2_with (refine wpList_load_row rfl 29 (.tmp 2) rfl w.heap.size rfl 29 (SV l) (0, 0) _ BK.out Try.underlying29 rfl (info29 l) ?_)
  generalize ((((w.alloc (.cells (SV l) 29)).alloc (.cells #[.int .i64 5, .int .u64 k, .int .u64 v, .int .i64 z] 39)).alloc (.cells #[.int .i64 0, .int .u64 0, .int .u64 0, .int .u64 0, .int .u64 0, .int .u64 0, .int .u64 0, .int .u64 0, .int .u64 0, .int .u64 0, .int .u64 0, .int .u64 0, .int .u64 0, .int .u64 0, .int .u64 0, .int .u64 0, .int .u64 0, .int .u64 0, .int .u64 0, .int .u64 0, .int .u64 0, .int .u64 0, .int .u64 0, .int .u64 0, .int .u64 0, .int .u64 0, .int .u64 0, .int .u64 0, .int .u64 0, .int .u64 0, .int .u64 0, .int .u64 0, .int .u64 0] 29)).alloc (.cells #[.int .i64 0, .bool false, .int .u64 0] 35)) = w1 at *
  refine (get_T l k _ HL.out).mono ?_
  rintro e w2 ⟨rfl, hb⟩
  have BK2 := Aside0.mk (blk_below BK.out hb)
  have BO2 := Aside0.mk (blk_below BO.out hb)
  have BZ2 := Aside0.mk (blk_below BZ.out hb)
  have BY2 := Aside0.mk (blk_below BY.out hb)
  have B2 := Aside0.mk (below_step B1.out hb)
  clear BK BO BZ BY B1 hb
  have o0 : w2.cell? ⟨w.heap.size + 1, 0, none⟩ = some (.int .i64 5) := (blk_cell BO2.out 0).trans rfl
  have o1 : w2.cell? ⟨w.heap.size + 1, 1, none⟩ = some (.int .u64 k) := (blk_cell BO2.out 1).trans rfl
  have o2 : w2.cell? ⟨w.heap.size + 1, 2, none⟩ = some (.int .u64 v) := (blk_cell BO2.out 2).trans rfl
  go_wp2_with (first
    | (refine wpList_load_row rfl 29 (.tmp 2) rfl w.heap.size rfl 29 (SV l) (0, 0) _ BK2.out Try.underlying29 rfl (info29 l) ?_))
  refine (put_T l ⟨k, v⟩ (!isF k l) 0 (!isF k l) (getV l k) _ HL.out).mono ?_
  rintro e w3 ⟨rfl, hb⟩
  have BZ3 := Aside0.mk (blk_below BZ2.out hb)
  have BY3 := Aside0.mk (blk_below BY2.out hb)
  have B3 := Aside0.mk (below_step B2.out hb)
  clear hb o0 o1 o2
  go_wp2_with (first
    | (refine store_whole (w := w) (B := w.heap.size) rfl rfl 29 (.tmp 4) (.tmp 63) rfl (g := w.heap.size + 1 + 1) (cs := SV (putV l ⟨k, v⟩ (!isF k l) (0, !isF k l, getV l k)).1) rfl _ rfl rfl (stot _) (SV_one _) BZ3.out (by rw [SV_size]; rfl) (by omega) B3.out ?_; intro w5 h1 h2 h3 h4; have BZ5 := Aside0.mk h1; have B5 := Aside0.mk h2; have BY5 := Aside0.mk ((h3 _ (by omega)).trans BY3.out); clear h1 h2 h3 h4)
    | (refine store_whole (w := w) (B := w.heap.size) rfl rfl 35 (.tmp 5) (.tmp 64) rfl (g := w.heap.size + 1 + 1 + 1) (cs := A3 ((putV l ⟨k, v⟩ (!isF k l) (0, !isF k l, getV l k)).2.1)) rfl _ rfl rfl (by kernel_rfl) (by simp [A3, Value.oneCell']) BY5.out rfl (by omega) B5.out ?_; intro w6 h1 h2 h3 h4; have BY6 := Aside0.mk h1; have B6 := Aside0.mk h2; have BZ6 := Aside0.mk ((h3 _ (by omega)).trans BZ5.out); clear h1 h2 h3 h4))
  exact bodyPost_ret (results_cell3s2 rfl _ _ (w.heap.size + 1 + 1) (w.heap.size + 1 + 1 + 1) (putV l ⟨k, v⟩ (!isF k l) (0, !isF k l, getV l k)).1 ((putV l ⟨k, v⟩ (!isF k l) (0, !isF k l, getV l k)).2.1) rfl BZ6.out rfl BY6.out rfl) rfl ⟨rfl, B6.out⟩
set_option maxHeartbeats 8000000 in
set_option maxRecDepth 100000 in
theorem do2_T (l : List S26) (k v z : Int) (w : World) (hl : l.length ≤ 16) :
    Calls Try.prog 9 #[.agg (SV l), .agg #[.int .i64 2, .int .u64 k, .int .u64 v, .int .i64 z]] w fun e w' => e = .returned (.tuple #[.agg (SV (withoutV l k)), .agg (A3 ((0, isF k l, 0))), .int .i64 0]) ∧ Below w.heap.size w w' := by
  have hu29 := Try.underlying29
  have hu39 := Try.underlying39
  have hu35 := Try.underlying35
  have HL := Aside0.mk hl
  clear hl
  have BK := Aside0.mk (blk_alloc (blk_alloc (blk_alloc (blk_new w (.cells (SV l) 29)) (.cells #[.int .i64 2, .int .u64 k, .int .u64 v, .int .i64 z] 39)) (.cells #[.int .i64 0, .int .u64 0, .int .u64 0, .int .u64 0, .int .u64 0, .int .u64 0, .int .u64 0, .int .u64 0, .int .u64 0, .int .u64 0, .int .u64 0, .int .u64 0, .int .u64 0, .int .u64 0, .int .u64 0, .int .u64 0, .int .u64 0, .int .u64 0, .int .u64 0, .int .u64 0, .int .u64 0, .int .u64 0, .int .u64 0, .int .u64 0, .int .u64 0, .int .u64 0, .int .u64 0, .int .u64 0, .int .u64 0, .int .u64 0, .int .u64 0, .int .u64 0, .int .u64 0] 29)) (.cells #[.int .i64 0, .bool false, .int .u64 0] 35))
  have BO := Aside0.mk (blk_alloc (blk_alloc (blk_new2 w (.cells (SV l) 29) (.cells #[.int .i64 2, .int .u64 k, .int .u64 v, .int .i64 z] 39)) (.cells #[.int .i64 0, .int .u64 0, .int .u64 0, .int .u64 0, .int .u64 0, .int .u64 0, .int .u64 0, .int .u64 0, .int .u64 0, .int .u64 0, .int .u64 0, .int .u64 0, .int .u64 0, .int .u64 0, .int .u64 0, .int .u64 0, .int .u64 0, .int .u64 0, .int .u64 0, .int .u64 0, .int .u64 0, .int .u64 0, .int .u64 0, .int .u64 0, .int .u64 0, .int .u64 0, .int .u64 0, .int .u64 0, .int .u64 0, .int .u64 0, .int .u64 0, .int .u64 0, .int .u64 0] 29)) (.cells #[.int .i64 0, .bool false, .int .u64 0] 35))
  have BZ := Aside0.mk (blk_alloc (blk_new3 w (.cells (SV l) 29) (.cells #[.int .i64 2, .int .u64 k, .int .u64 v, .int .i64 z] 39) (.cells #[.int .i64 0, .int .u64 0, .int .u64 0, .int .u64 0, .int .u64 0, .int .u64 0, .int .u64 0, .int .u64 0, .int .u64 0, .int .u64 0, .int .u64 0, .int .u64 0, .int .u64 0, .int .u64 0, .int .u64 0, .int .u64 0, .int .u64 0, .int .u64 0, .int .u64 0, .int .u64 0, .int .u64 0, .int .u64 0, .int .u64 0, .int .u64 0, .int .u64 0, .int .u64 0, .int .u64 0, .int .u64 0, .int .u64 0, .int .u64 0, .int .u64 0, .int .u64 0, .int .u64 0] 29)) (.cells #[.int .i64 0, .bool false, .int .u64 0] 35))
  have BY := Aside0.mk (blk_new4 w (.cells (SV l) 29) (.cells #[.int .i64 2, .int .u64 k, .int .u64 v, .int .i64 z] 39) (.cells #[.int .i64 0, .int .u64 0, .int .u64 0, .int .u64 0, .int .u64 0, .int .u64 0, .int .u64 0, .int .u64 0, .int .u64 0, .int .u64 0, .int .u64 0, .int .u64 0, .int .u64 0, .int .u64 0, .int .u64 0, .int .u64 0, .int .u64 0, .int .u64 0, .int .u64 0, .int .u64 0, .int .u64 0, .int .u64 0, .int .u64 0, .int .u64 0, .int .u64 0, .int .u64 0, .int .u64 0, .int .u64 0, .int .u64 0, .int .u64 0, .int .u64 0, .int .u64 0, .int .u64 0] 29) (.cells #[.int .i64 0, .bool false, .int .u64 0] 35))
  have B1 := Aside0.mk (below_alloc (below_alloc (below_alloc (below_alloc (Below.refl w.heap.size w) (.cells (SV l) 29)) (.cells #[.int .i64 2, .int .u64 k, .int .u64 v, .int .i64 z] 39)) (.cells #[.int .i64 0, .int .u64 0, .int .u64 0, .int .u64 0, .int .u64 0, .int .u64 0, .int .u64 0, .int .u64 0, .int .u64 0, .int .u64 0, .int .u64 0, .int .u64 0, .int .u64 0, .int .u64 0, .int .u64 0, .int .u64 0, .int .u64 0, .int .u64 0, .int .u64 0, .int .u64 0, .int .u64 0, .int .u64 0, .int .u64 0, .int .u64 0, .int .u64 0, .int .u64 0, .int .u64 0, .int .u64 0, .int .u64 0, .int .u64 0, .int .u64 0, .int .u64 0, .int .u64 0] 29)) (.cells #[.int .i64 0, .bool false, .int .u64 0] 35))
  go_enter Try.func9, Try.ntmps9
  go_wp2_with (refine wpList_load_row rfl 29 (.tmp 2) rfl w.heap.size rfl 29 (SV l) (0, 0) _ BK.out Try.underlying29 rfl (info29 l) ?_)
  generalize ((((w.alloc (.cells (SV l) 29)).alloc (.cells #[.int .i64 2, .int .u64 k, .int .u64 v, .int .i64 z] 39)).alloc (.cells #[.int .i64 0, .int .u64 0, .int .u64 0, .int .u64 0, .int .u64 0, .int .u64 0, .int .u64 0, .int .u64 0, .int .u64 0, .int .u64 0, .int .u64 0, .int .u64 0, .int .u64 0, .int .u64 0, .int .u64 0, .int .u64 0, .int .u64 0, .int .u64 0, .int .u64 0, .int .u64 0, .int .u64 0, .int .u64 0, .int .u64 0, .int .u64 0, .int .u64 0, .int .u64 0, .int .u64 0, .int .u64 0, .int .u64 0, .int .u64 0, .int .u64 0, .int .u64 0, .int .u64 0] 29)).alloc (.cells #[.int .i64 0, .bool false, .int .u64 0] 35)) = w1 at *
  refine (get_T l k _ HL.out).mono ?_
  rintro e w2 ⟨rfl, hb⟩
  have BK2 := Aside0.mk (blk_below BK.out hb)
  have BO2 := Aside0.mk (blk_below BO.out hb)
  have BZ2 := Aside0.mk (blk_below BZ.out hb)
  have BY2 := Aside0.mk (blk_below BY.out hb)
  have B2 := Aside0.mk (below_step B1.out hb)
  clear BK BO BZ BY B1 hb
  have o0 : w2.cell? ⟨w.heap.size + 1, 0, none⟩ = some (.int .i64 2) := (blk_cell BO2.out 0).trans rfl
  have o1 : w2.cell? ⟨w.heap.size + 1, 1, none⟩ = some (.int .u64 k) := (blk_cell BO2.out 1).trans rfl
  have o2 : w2.cell? ⟨w.heap.size + 1, 2, none⟩ = some (.int .u64 v) := (blk_cell BO2.out 2).trans rfl
  go_wp2_with (first
    | (refine wpList_load_row rfl 29 (.tmp 2) rfl w.heap.size rfl 29 (SV l) (0, 0) _ BK2.out Try.underlying29 rfl (info29 l) ?_))
  refine (without_T l k _ HL.out).mono ?_
  rintro e w3 ⟨rfl, hb⟩
  have BZ3 := Aside0.mk (blk_below BZ2.out hb)
  have BY3 := Aside0.mk (blk_below BY2.out hb)
  have B3 := Aside0.mk (below_step B2.out hb)
  clear hb o0 o1 o2
  go_wp2_with (first
    | (refine store_whole (w := w) (B := w.heap.size) rfl rfl 29 (.tmp 4) (.tmp 71) rfl (g := w.heap.size + 1 + 1) (cs := SV (withoutV l k)) rfl _ rfl rfl (stot _) (SV_one _) BZ3.out (by rw [SV_size]; rfl) (by omega) B3.out ?_; intro w5 h1 h2 h3 h4; have BZ5 := Aside0.mk h1; have B5 := Aside0.mk h2; have BY5 := Aside0.mk ((h3 _ (by omega)).trans BY3.out); clear h1 h2 h3 h4)
    | (refine store_whole (w := w) (B := w.heap.size) rfl rfl 35 (.tmp 5) (.tmp 73) rfl (g := w.heap.size + 1 + 1 + 1) (cs := A3 ((0, isF k l, 0))) rfl _ rfl rfl (by kernel_rfl) (by simp [A3, Value.oneCell']) BY5.out rfl (by omega) B5.out ?_; intro w6 h1 h2 h3 h4; have BY6 := Aside0.mk h1; have B6 := Aside0.mk h2; have BZ6 := Aside0.mk ((h3 _ (by omega)).trans BZ5.out); clear h1 h2 h3 h4))
  exact bodyPost_ret (results_cell3s2 rfl _ _ (w.heap.size + 1 + 1) (w.heap.size + 1 + 1 + 1) (withoutV l k) ((0, isF k l, 0)) rfl BZ6.out rfl BY6.out rfl) rfl ⟨rfl, B6.out⟩
set_option maxHeartbeats 8000000 in
set_option maxRecDepth 100000 in
theorem do6_T (l : List S26) (k v z : Int) (w : World) (hl : l.length ≤ 16) :
    Calls Try.prog 9 #[.agg (SV l), .agg #[.int .i64 6, .int .u64 k, .int .u64 v, .int .i64 z]] w fun e w' => e = .returned (.tuple #[.agg (SV (withoutV l k)), .agg (A3 ((0, isF k l, getV l k))), .int .i64 0]) ∧ Below w.heap.size w w' := by
  have hu29 := Try.underlying29
  have hu39 := Try.underlying39
  have hu35 := Try.underlying35
  have HL := Aside0.mk hl
  clear hl
  have BK := Aside0.mk (blk_alloc (blk_alloc (blk_alloc (blk_new w (.cells (SV l) 29)) (.cells #[.int .i64 6, .int .u64 k, .int .u64 v, .int .i64 z] 39)) (.cells #[.int .i64 0, .int .u64 0, .int .u64 0, .int .u64 0, .int .u64 0, .int .u64 0, .int .u64 0, .int .u64 0, .int .u64 0, .int .u64 0, .int .u64 0, .int .u64 0, .int .u64 0, .int .u64 0, .int .u64 0, .int .u64 0, .int .u64 0, .int .u64 0, .int .u64 0, .int .u64 0, .int .u64 0, .int .u64 0, .int .u64 0, .int .u64 0, .int .u64 0, .int .u64 0, .int .u64 0, .int .u64 0, .int .u64 0, .int .u64 0, .int .u64 0, .int .u64 0, .int .u64 0] 29)) (.cells #[.int .i64 0, .bool false, .int .u64 0] 35))
  have BO := Aside0.mk (blk_alloc (blk_alloc (blk_new2 w (.cells (SV l) 29) (.cells #[.int .i64 6, .int .u64 k, .int .u64 v, .int .i64 z] 39)) (.cells #[.int .i64 0, .int .u64 0, .int .u64 0, .int .u64 0, .int .u64 0, .int .u64 0, .int .u64 0, .int .u64 0, .int .u64 0, .int .u64 0, .int .u64 0, .int .u64 0, .int .u64 0, .int .u64 0, .int .u64 0, .int .u64 0, .int .u64 0, .int .u64 0, .int .u64 0, .int .u64 0, .int .u64 0, .int .u64 0, .int .u64 0, .int .u64 0, .int .u64 0, .int .u64 0, .int .u64 0, .int .u64 0, .int .u64 0, .int .u64 0, .int .u64 0, .int .u64 0, .int .u64 0] 29)) (.cells #[.int .i64 0, .bool false, .int .u64 0] 35))
  have BZ := Aside0.mk (blk_alloc (blk_new3 w (.cells (SV l) 29) (.cells #[.int .i64 6, .int .u64 k, .int .u64 v, .int .i64 z] 39) (.cells #[.int .i64 0, .int .u64 0, .int .u64 0, .int .u64 0, .int .u64 0, .int .u64 0, .int .u64 0, .int .u64 0, .int .u64 0, .int .u64 0, .int .u64 0, .int .u64 0, .int .u64 0, .int .u64 0, .int .u64 0, .int .u64 0, .int .u64 0, .int .u64 0, .int .u64 0, .int .u64 0, .int .u64 0, .int .u64 0, .int .u64 0, .int .u64 0, .int .u64 0, .int .u64 0, .int .u64 0, .int .u64 0, .int .u64 0, .int .u64 0, .int .u64 0, .int .u64 0, .int .u64 0] 29)) (.cells #[.int .i64 0, .bool false, .int .u64 0] 35))
  have BY := Aside0.mk (blk_new4 w (.cells (SV l) 29) (.cells #[.int .i64 6, .int .u64 k, .int .u64 v, .int .i64 z] 39) (.cells #[.int .i64 0, .int .u64 0, .int .u64 0, .int .u64 0, .int .u64 0, .int .u64 0, .int .u64 0, .int .u64 0, .int .u64 0, .int .u64 0, .int .u64 0, .int .u64 0, .int .u64 0, .int .u64 0, .int .u64 0, .int .u64 0, .int .u64 0, .int .u64 0, .int .u64 0, .int .u64 0, .int .u64 0, .int .u64 0, .int .u64 0, .int .u64 0, .int .u64 0, .int .u64 0, .int .u64 0, .int .u64 0, .int .u64 0, .int .u64 0, .int .u64 0, .int .u64 0, .int .u64 0] 29) (.cells #[.int .i64 0, .bool false, .int .u64 0] 35))
  have B1 := Aside0.mk (below_alloc (below_alloc (below_alloc (below_alloc (Below.refl w.heap.size w) (.cells (SV l) 29)) (.cells #[.int .i64 6, .int .u64 k, .int .u64 v, .int .i64 z] 39)) (.cells #[.int .i64 0, .int .u64 0, .int .u64 0, .int .u64 0, .int .u64 0, .int .u64 0, .int .u64 0, .int .u64 0, .int .u64 0, .int .u64 0, .int .u64 0, .int .u64 0, .int .u64 0, .int .u64 0, .int .u64 0, .int .u64 0, .int .u64 0, .int .u64 0, .int .u64 0, .int .u64 0, .int .u64 0, .int .u64 0, .int .u64 0, .int .u64 0, .int .u64 0, .int .u64 0, .int .u64 0, .int .u64 0, .int .u64 0, .int .u64 0, .int .u64 0, .int .u64 0, .int .u64 0] 29)) (.cells #[.int .i64 0, .bool false, .int .u64 0] 35))
  go_enter Try.func9, Try.ntmps9
  go_wp2_with (refine wpList_load_row rfl 29 (.tmp 2) rfl w.heap.size rfl 29 (SV l) (0, 0) _ BK.out Try.underlying29 rfl (info29 l) ?_)
  generalize ((((w.alloc (.cells (SV l) 29)).alloc (.cells #[.int .i64 6, .int .u64 k, .int .u64 v, .int .i64 z] 39)).alloc (.cells #[.int .i64 0, .int .u64 0, .int .u64 0, .int .u64 0, .int .u64 0, .int .u64 0, .int .u64 0, .int .u64 0, .int .u64 0, .int .u64 0, .int .u64 0, .int .u64 0, .int .u64 0, .int .u64 0, .int .u64 0, .int .u64 0, .int .u64 0, .int .u64 0, .int .u64 0, .int .u64 0, .int .u64 0, .int .u64 0, .int .u64 0, .int .u64 0, .int .u64 0, .int .u64 0, .int .u64 0, .int .u64 0, .int .u64 0, .int .u64 0, .int .u64 0, .int .u64 0, .int .u64 0] 29)).alloc (.cells #[.int .i64 0, .bool false, .int .u64 0] 35)) = w1 at *
  refine (get_T l k _ HL.out).mono ?_
  rintro e w2 ⟨rfl, hb⟩
  have BK2 := Aside0.mk (blk_below BK.out hb)
  have BO2 := Aside0.mk (blk_below BO.out hb)
  have BZ2 := Aside0.mk (blk_below BZ.out hb)
  have BY2 := Aside0.mk (blk_below BY.out hb)
  have B2 := Aside0.mk (below_step B1.out hb)
  clear BK BO BZ BY B1 hb
  have o0 : w2.cell? ⟨w.heap.size + 1, 0, none⟩ = some (.int .i64 6) := (blk_cell BO2.out 0).trans rfl
  have o1 : w2.cell? ⟨w.heap.size + 1, 1, none⟩ = some (.int .u64 k) := (blk_cell BO2.out 1).trans rfl
  have o2 : w2.cell? ⟨w.heap.size + 1, 2, none⟩ = some (.int .u64 v) := (blk_cell BO2.out 2).trans rfl
  go_wp2_with (first
    | (refine wpList_load_row rfl 29 (.tmp 2) rfl w.heap.size rfl 29 (SV l) (0, 0) _ BK2.out Try.underlying29 rfl (info29 l) ?_))
  refine (without_T l k _ HL.out).mono ?_
  rintro e w3 ⟨rfl, hb⟩
  have BZ3 := Aside0.mk (blk_below BZ2.out hb)
  have BY3 := Aside0.mk (blk_below BY2.out hb)
  have B3 := Aside0.mk (below_step B2.out hb)
  clear hb o0 o1 o2
  go_wp2_with (first
    | (refine store_whole (w := w) (B := w.heap.size) rfl rfl 29 (.tmp 4) (.tmp 79) rfl (g := w.heap.size + 1 + 1) (cs := SV (withoutV l k)) rfl _ rfl rfl (stot _) (SV_one _) BZ3.out (by rw [SV_size]; rfl) (by omega) B3.out ?_; intro w5 h1 h2 h3 h4; have BZ5 := Aside0.mk h1; have B5 := Aside0.mk h2; have BY5 := Aside0.mk ((h3 _ (by omega)).trans BY3.out); clear h1 h2 h3 h4)
    | (refine store_whole (w := w) (B := w.heap.size) rfl rfl 35 (.tmp 5) (.tmp 82) rfl (g := w.heap.size + 1 + 1 + 1) (cs := A3 ((0, isF k l, getV l k))) rfl _ rfl rfl (by kernel_rfl) (by simp [A3, Value.oneCell']) BY5.out rfl (by omega) B5.out ?_; intro w6 h1 h2 h3 h4; have BY6 := Aside0.mk h1; have B6 := Aside0.mk h2; have BZ6 := Aside0.mk ((h3 _ (by omega)).trans BZ5.out); clear h1 h2 h3 h4))
  exact bodyPost_ret (results_cell3s2 rfl _ _ (w.heap.size + 1 + 1) (w.heap.size + 1 + 1 + 1) (withoutV l k) ((0, isF k l, getV l k)) rfl BZ6.out rfl BY6.out rfl) rfl ⟨rfl, B6.out⟩
set_option maxHeartbeats 8000000 in
set_option maxRecDepth 100000 in
theorem do3_T (l : List S26) (k v z : Int) (w : World) (hl : l.length ≤ 16) :
    Calls Try.prog 9 #[.agg (SV l), .agg #[.int .i64 3, .int .u64 k, .int .u64 v, .int .i64 z]] w fun e w' => e = .returned (.tuple #[.agg (SV l), .agg (A3 ((0, isF k l, 0))), .int .i64 0]) ∧ Below w.heap.size w w' := by
  have hu29 := Try.underlying29
  have hu39 := Try.underlying39
  have hu35 := Try.underlying35
  have HL := Aside0.mk hl
  clear hl
  have BK := Aside0.mk (blk_alloc (blk_alloc (blk_alloc (blk_new w (.cells (SV l) 29)) (.cells #[.int .i64 3, .int .u64 k, .int .u64 v, .int .i64 z] 39)) (.cells #[.int .i64 0, .int .u64 0, .int .u64 0, .int .u64 0, .int .u64 0, .int .u64 0, .int .u64 0, .int .u64 0, .int .u64 0, .int .u64 0, .int .u64 0, .int .u64 0, .int .u64 0, .int .u64 0, .int .u64 0, .int .u64 0, .int .u64 0, .int .u64 0, .int .u64 0, .int .u64 0, .int .u64 0, .int .u64 0, .int .u64 0, .int .u64 0, .int .u64 0, .int .u64 0, .int .u64 0, .int .u64 0, .int .u64 0, .int .u64 0, .int .u64 0, .int .u64 0, .int .u64 0] 29)) (.cells #[.int .i64 0, .bool false, .int .u64 0] 35))
  have BO := Aside0.mk (blk_alloc (blk_alloc (blk_new2 w (.cells (SV l) 29) (.cells #[.int .i64 3, .int .u64 k, .int .u64 v, .int .i64 z] 39)) (.cells #[.int .i64 0, .int .u64 0, .int .u64 0, .int .u64 0, .int .u64 0, .int .u64 0, .int .u64 0, .int .u64 0, .int .u64 0, .int .u64 0, .int .u64 0, .int .u64 0, .int .u64 0, .int .u64 0, .int .u64 0, .int .u64 0, .int .u64 0, .int .u64 0, .int .u64 0, .int .u64 0, .int .u64 0, .int .u64 0, .int .u64 0, .int .u64 0, .int .u64 0, .int .u64 0, .int .u64 0, .int .u64 0, .int .u64 0, .int .u64 0, .int .u64 0, .int .u64 0, .int .u64 0] 29)) (.cells #[.int .i64 0, .bool false, .int .u64 0] 35))
  have BZ := Aside0.mk (blk_alloc (blk_new3 w (.cells (SV l) 29) (.cells #[.int .i64 3, .int .u64 k, .int .u64 v, .int .i64 z] 39) (.cells #[.int .i64 0, .int .u64 0, .int .u64 0, .int .u64 0, .int .u64 0, .int .u64 0, .int .u64 0, .int .u64 0, .int .u64 0, .int .u64 0, .int .u64 0, .int .u64 0, .int .u64 0, .int .u64 0, .int .u64 0, .int .u64 0, .int .u64 0, .int .u64 0, .int .u64 0, .int .u64 0, .int .u64 0, .int .u64 0, .int .u64 0, .int .u64 0, .int .u64 0, .int .u64 0, .int .u64 0, .int .u64 0, .int .u64 0, .int .u64 0, .int .u64 0, .int .u64 0, .int .u64 0] 29)) (.cells #[.int .i64 0, .bool false, .int .u64 0] 35))
  have BY := Aside0.mk (blk_new4 w (.cells (SV l) 29) (.cells #[.int .i64 3, .int .u64 k, .int .u64 v, .int .i64 z] 39) (.cells #[.int .i64 0, .int .u64 0, .int .u64 0, .int .u64 0, .int .u64 0, .int .u64 0, .int .u64 0, .int .u64 0, .int .u64 0, .int .u64 0, .int .u64 0, .int .u64 0, .int .u64 0, .int .u64 0, .int .u64 0, .int .u64 0, .int .u64 0, .int .u64 0, .int .u64 0, .int .u64 0, .int .u64 0, .int .u64 0, .int .u64 0, .int .u64 0, .int .u64 0, .int .u64 0, .int .u64 0, .int .u64 0, .int .u64 0, .int .u64 0, .int .u64 0, .int .u64 0, .int .u64 0] 29) (.cells #[.int .i64 0, .bool false, .int .u64 0] 35))
  have B1 := Aside0.mk (below_alloc (below_alloc (below_alloc (below_alloc (Below.refl w.heap.size w) (.cells (SV l) 29)) (.cells #[.int .i64 3, .int .u64 k, .int .u64 v, .int .i64 z] 39)) (.cells #[.int .i64 0, .int .u64 0, .int .u64 0, .int .u64 0, .int .u64 0, .int .u64 0, .int .u64 0, .int .u64 0, .int .u64 0, .int .u64 0, .int .u64 0, .int .u64 0, .int .u64 0, .int .u64 0, .int .u64 0, .int .u64 0, .int .u64 0, .int .u64 0, .int .u64 0, .int .u64 0, .int .u64 0, .int .u64 0, .int .u64 0, .int .u64 0, .int .u64 0, .int .u64 0, .int .u64 0, .int .u64 0, .int .u64 0, .int .u64 0, .int .u64 0, .int .u64 0, .int .u64 0] 29)) (.cells #[.int .i64 0, .bool false, .int .u64 0] 35))
  go_enter Try.func9, Try.ntmps9
  go_wp2_with (refine wpList_load_row rfl 29 (.tmp 2) rfl w.heap.size rfl 29 (SV l) (0, 0) _ BK.out Try.underlying29 rfl (info29 l) ?_)
  generalize ((((w.alloc (.cells (SV l) 29)).alloc (.cells #[.int .i64 3, .int .u64 k, .int .u64 v, .int .i64 z] 39)).alloc (.cells #[.int .i64 0, .int .u64 0, .int .u64 0, .int .u64 0, .int .u64 0, .int .u64 0, .int .u64 0, .int .u64 0, .int .u64 0, .int .u64 0, .int .u64 0, .int .u64 0, .int .u64 0, .int .u64 0, .int .u64 0, .int .u64 0, .int .u64 0, .int .u64 0, .int .u64 0, .int .u64 0, .int .u64 0, .int .u64 0, .int .u64 0, .int .u64 0, .int .u64 0, .int .u64 0, .int .u64 0, .int .u64 0, .int .u64 0, .int .u64 0, .int .u64 0, .int .u64 0, .int .u64 0] 29)).alloc (.cells #[.int .i64 0, .bool false, .int .u64 0] 35)) = w1 at *
  refine (get_T l k _ HL.out).mono ?_
  rintro e w2 ⟨rfl, hb⟩
  have BK2 := Aside0.mk (blk_below BK.out hb)
  have BO2 := Aside0.mk (blk_below BO.out hb)
  have BZ2 := Aside0.mk (blk_below BZ.out hb)
  have BY2 := Aside0.mk (blk_below BY.out hb)
  have B2 := Aside0.mk (below_step B1.out hb)
  clear BK BO BZ BY B1 hb
  have o0 : w2.cell? ⟨w.heap.size + 1, 0, none⟩ = some (.int .i64 3) := (blk_cell BO2.out 0).trans rfl
  have o1 : w2.cell? ⟨w.heap.size + 1, 1, none⟩ = some (.int .u64 k) := (blk_cell BO2.out 1).trans rfl
  have o2 : w2.cell? ⟨w.heap.size + 1, 2, none⟩ = some (.int .u64 v) := (blk_cell BO2.out 2).trans rfl
  go_wp2_with (first
    | (refine wpList_load_row rfl 29 (.tmp 2) rfl w.heap.size rfl 29 (SV l) (0, 0) _ BK2.out Try.underlying29 rfl (info29 l) ?_)
    | (refine store_whole (w := w) (B := w.heap.size) rfl rfl 29 (.tmp 4) (.tmp 85) rfl (g := w.heap.size + 1 + 1) (cs := SV l) rfl _ rfl rfl (stot _) (SV_one _) BZ2.out (by rw [SV_size]; rfl) (by omega) B2.out ?_; intro w5 h1 h2 h3 h4; have BZ5 := Aside0.mk h1; have B5 := Aside0.mk h2; have BY5 := Aside0.mk ((h3 _ (by omega)).trans BY2.out); clear h1 h2 h3 h4)
    | (refine store_whole (w := w) (B := w.heap.size) rfl rfl 35 (.tmp 5) (.tmp 87) rfl (g := w.heap.size + 1 + 1 + 1) (cs := A3 ((0, isF k l, 0))) rfl _ rfl rfl (by kernel_rfl) (by simp [A3, Value.oneCell']) BY5.out rfl (by omega) B5.out ?_; intro w6 h1 h2 h3 h4; have BY6 := Aside0.mk h1; have B6 := Aside0.mk h2; have BZ6 := Aside0.mk ((h3 _ (by omega)).trans BZ5.out); clear h1 h2 h3 h4))
  exact bodyPost_ret (results_cell3s2 rfl _ _ (w.heap.size + 1 + 1) (w.heap.size + 1 + 1 + 1) l ((0, isF k l, 0)) rfl BZ6.out rfl BY6.out rfl) rfl ⟨rfl, B6.out⟩
set_option maxHeartbeats 8000000 in
set_option maxRecDepth 100000 in
theorem do7_T (l : List S26) (k v z : Int) (w : World) (hl : l.length ≤ 16) :
    Calls Try.prog 9 #[.agg (SV l), .agg #[.int .i64 7, .int .u64 k, .int .u64 v, .int .i64 z]] w fun e w' => e = .returned (.tuple #[.agg (SV l), .agg (A3 ((0, isF k l, getV l k))), .int .i64 0]) ∧ Below w.heap.size w w' := by
  have hu29 := Try.underlying29
  have hu39 := Try.underlying39
  have hu35 := Try.underlying35
  have HL := Aside0.mk hl
  clear hl
  have BK := Aside0.mk (blk_alloc (blk_alloc (blk_alloc (blk_new w (.cells (SV l) 29)) (.cells #[.int .i64 7, .int .u64 k, .int .u64 v, .int .i64 z] 39)) (.cells #[.int .i64 0, .int .u64 0, .int .u64 0, .int .u64 0, .int .u64 0, .int .u64 0, .int .u64 0, .int .u64 0, .int .u64 0, .int .u64 0, .int .u64 0, .int .u64 0, .int .u64 0, .int .u64 0, .int .u64 0, .int .u64 0, .int .u64 0, .int .u64 0, .int .u64 0, .int .u64 0, .int .u64 0, .int .u64 0, .int .u64 0, .int .u64 0, .int .u64 0, .int .u64 0, .int .u64 0, .int .u64 0, .int .u64 0, .int .u64 0, .int .u64 0, .int .u64 0, .int .u64 0] 29)) (.cells #[.int .i64 0, .bool false, .int .u64 0] 35))
  have BO := Aside0.mk (blk_alloc (blk_alloc (blk_new2 w (.cells (SV l) 29) (.cells #[.int .i64 7, .int .u64 k, .int .u64 v, .int .i64 z] 39)) (.cells #[.int .i64 0, .int .u64 0, .int .u64 0, .int .u64 0, .int .u64 0, .int .u64 0, .int .u64 0, .int .u64 0, .int .u64 0, .int .u64 0, .int .u64 0, .int .u64 0, .int .u64 0, .int .u64 0, .int .u64 0, .int .u64 0, .int .u64 0, .int .u64 0, .int .u64 0, .int .u64 0, .int .u64 0, .int .u64 0, .int .u64 0, .int .u64 0, .int .u64 0, .int .u64 0, .int .u64 0, .int .u64 0, .int .u64 0, .int .u64 0, .int .u64 0, .int .u64 0, .int .u64 0] 29)) (.cells #[.int .i64 0, .bool false, .int .u64 0] 35))
  have BZ := Aside0.mk (blk_alloc (blk_new3 w (.cells (SV l) 29) (.cells #[.int .i64 7, .int .u64 k, .int .u64 v, .int .i64 z] 39) (.cells #[.int .i64 0, .int .u64 0, .int .u64 0, .int .u64 0, .int .u64 0, .int .u64 0, .int .u64 0, .int .u64 0, .int .u64 0, .int .u64 0, .int .u64 0, .int .u64 0, .int .u64 0, .int .u64 0, .int .u64 0, .int .u64 0, .int .u64 0, .int .u64 0, .int .u64 0, .int .u64 0, .int .u64 0, .int .u64 0, .int .u64 0, .int .u64 0, .int .u64 0, .int .u64 0, .int .u64 0, .int .u64 0, .int .u64 0, .int .u64 0, .int .u64 0, .int .u64 0, .int .u64 0] 29)) (.cells #[.int .i64 0, .bool false, .int .u64 0] 35))
  have BY := Aside0.mk (blk_new4 w (.cells (SV l) 29) (.cells #[.int .i64 7, .int .u64 k, .int .u64 v, .int .i64 z] 39) (.cells #[.int .i64 0, .int .u64 0, .int .u64 0, .int .u64 0, .int .u64 0, .int .u64 0, .int .u64 0, .int .u64 0, .int .u64 0, .int .u64 0, .int .u64 0, .int .u64 0, .int .u64 0, .int .u64 0, .int .u64 0, .int .u64 0, .int .u64 0, .int .u64 0, .int .u64 0, .int .u64 0, .int .u64 0, .int .u64 0, .int .u64 0, .int .u64 0, .int .u64 0, .int .u64 0, .int .u64 0, .int .u64 0, .int .u64 0, .int .u64 0, .int .u64 0, .int .u64 0, .int .u64 0] 29) (.cells #[.int .i64 0, .bool false, .int .u64 0] 35))
  have B1 := Aside0.mk (below_alloc (below_alloc (below_alloc (below_alloc (Below.refl w.heap.size w) (.cells (SV l) 29)) (.cells #[.int .i64 7, .int .u64 k, .int .u64 v, .int .i64 z] 39)) (.cells #[.int .i64 0, .int .u64 0, .int .u64 0, .int .u64 0, .int .u64 0, .int .u64 0, .int .u64 0, .int .u64 0, .int .u64 0, .int .u64 0, .int .u64 0, .int .u64 0, .int .u64 0, .int .u64 0, .int .u64 0, .int .u64 0, .int .u64 0, .int .u64 0, .int .u64 0, .int .u64 0, .int .u64 0, .int .u64 0, .int .u64 0, .int .u64 0, .int .u64 0, .int .u64 0, .int .u64 0, .int .u64 0, .int .u64 0, .int .u64 0, .int .u64 0, .int .u64 0, .int .u64 0] 29)) (.cells #[.int .i64 0, .bool false, .int .u64 0] 35))
  go_enter Try.func9, Try.ntmps9
  go_wp2_with (refine wpList_load_row rfl 29 (.tmp 2) rfl w.heap.size rfl 29 (SV l) (0, 0) _ BK.out Try.underlying29 rfl (info29 l) ?_)
  generalize ((((w.alloc (.cells (SV l) 29)).alloc (.cells #[.int .i64 7, .int .u64 k, .int .u64 v, .int .i64 z] 39)).alloc (.cells #[.int .i64 0, .int .u64 0, .int .u64 0, .int .u64 0, .int .u64 0, .int .u64 0, .int .u64 0, .int .u64 0, .int .u64 0, .int .u64 0, .int .u64 0, .int .u64 0, .int .u64 0, .int .u64 0, .int .u64 0, .int .u64 0, .int .u64 0, .int .u64 0, .int .u64 0, .int .u64 0, .int .u64 0, .int .u64 0, .int .u64 0, .int .u64 0, .int .u64 0, .int .u64 0, .int .u64 0, .int .u64 0, .int .u64 0, .int .u64 0, .int .u64 0, .int .u64 0, .int .u64 0] 29)).alloc (.cells #[.int .i64 0, .bool false, .int .u64 0] 35)) = w1 at *
  refine (get_T l k _ HL.out).mono ?_
  rintro e w2 ⟨rfl, hb⟩
  have BK2 := Aside0.mk (blk_below BK.out hb)
  have BO2 := Aside0.mk (blk_below BO.out hb)
  have BZ2 := Aside0.mk (blk_below BZ.out hb)
  have BY2 := Aside0.mk (blk_below BY.out hb)
  have B2 := Aside0.mk (below_step B1.out hb)
  clear BK BO BZ BY B1 hb
  have o0 : w2.cell? ⟨w.heap.size + 1, 0, none⟩ = some (.int .i64 7) := (blk_cell BO2.out 0).trans rfl
  have o1 : w2.cell? ⟨w.heap.size + 1, 1, none⟩ = some (.int .u64 k) := (blk_cell BO2.out 1).trans rfl
  have o2 : w2.cell? ⟨w.heap.size + 1, 2, none⟩ = some (.int .u64 v) := (blk_cell BO2.out 2).trans rfl
  go_wp2_with (first
    | (refine wpList_load_row rfl 29 (.tmp 2) rfl w.heap.size rfl 29 (SV l) (0, 0) _ BK2.out Try.underlying29 rfl (info29 l) ?_)
    | (refine store_whole (w := w) (B := w.heap.size) rfl rfl 29 (.tmp 4) (.tmp 90) rfl (g := w.heap.size + 1 + 1) (cs := SV l) rfl _ rfl rfl (stot _) (SV_one _) BZ2.out (by rw [SV_size]; rfl) (by omega) B2.out ?_; intro w5 h1 h2 h3 h4; have BZ5 := Aside0.mk h1; have B5 := Aside0.mk h2; have BY5 := Aside0.mk ((h3 _ (by omega)).trans BY2.out); clear h1 h2 h3 h4)
    | (refine store_whole (w := w) (B := w.heap.size) rfl rfl 35 (.tmp 5) (.tmp 93) rfl (g := w.heap.size + 1 + 1 + 1) (cs := A3 ((0, isF k l, getV l k))) rfl _ rfl rfl (by kernel_rfl) (by simp [A3, Value.oneCell']) BY5.out rfl (by omega) B5.out ?_; intro w6 h1 h2 h3 h4; have BY6 := Aside0.mk h1; have B6 := Aside0.mk h2; have BZ6 := Aside0.mk ((h3 _ (by omega)).trans BZ5.out); clear h1 h2 h3 h4))
  exact bodyPost_ret (results_cell3s2 rfl _ _ (w.heap.size + 1 + 1) (w.heap.size + 1 + 1 + 1) l ((0, isF k l, getV l k)) rfl BZ6.out rfl BY6.out rfl) rfl ⟨rfl, B6.out⟩
set_option maxHeartbeats 8000000 in
set_option maxRecDepth 100000 in
theorem do8_T (l : List S26) (k v z : Int) (w : World) (hl : l.length ≤ 16) :
    Calls Try.prog 9 #[.agg (SV l), .agg #[.int .i64 8, .int .u64 k, .int .u64 v, .int .i64 z]] w fun e w' => e = .returned (.tuple #[.agg (SV l), .agg (A3 ((0, true, 0))), .int .i64 0]) ∧ Below w.heap.size w w' := by
  have hu29 := Try.underlying29
  have hu39 := Try.underlying39
  have hu35 := Try.underlying35
  have HL := Aside0.mk hl
  clear hl
  have BK := Aside0.mk (blk_alloc (blk_alloc (blk_alloc (blk_new w (.cells (SV l) 29)) (.cells #[.int .i64 8, .int .u64 k, .int .u64 v, .int .i64 z] 39)) (.cells #[.int .i64 0, .int .u64 0, .int .u64 0, .int .u64 0, .int .u64 0, .int .u64 0, .int .u64 0, .int .u64 0, .int .u64 0, .int .u64 0, .int .u64 0, .int .u64 0, .int .u64 0, .int .u64 0, .int .u64 0, .int .u64 0, .int .u64 0, .int .u64 0, .int .u64 0, .int .u64 0, .int .u64 0, .int .u64 0, .int .u64 0, .int .u64 0, .int .u64 0, .int .u64 0, .int .u64 0, .int .u64 0, .int .u64 0, .int .u64 0, .int .u64 0, .int .u64 0, .int .u64 0] 29)) (.cells #[.int .i64 0, .bool false, .int .u64 0] 35))
  have BO := Aside0.mk (blk_alloc (blk_alloc (blk_new2 w (.cells (SV l) 29) (.cells #[.int .i64 8, .int .u64 k, .int .u64 v, .int .i64 z] 39)) (.cells #[.int .i64 0, .int .u64 0, .int .u64 0, .int .u64 0, .int .u64 0, .int .u64 0, .int .u64 0, .int .u64 0, .int .u64 0, .int .u64 0, .int .u64 0, .int .u64 0, .int .u64 0, .int .u64 0, .int .u64 0, .int .u64 0, .int .u64 0, .int .u64 0, .int .u64 0, .int .u64 0, .int .u64 0, .int .u64 0, .int .u64 0, .int .u64 0, .int .u64 0, .int .u64 0, .int .u64 0, .int .u64 0, .int .u64 0, .int .u64 0, .int .u64 0, .int .u64 0, .int .u64 0] 29)) (.cells #[.int .i64 0, .bool false, .int .u64 0] 35))
  have BZ := Aside0.mk (blk_alloc (blk_new3 w (.cells (SV l) 29) (.cells #[.int .i64 8, .int .u64 k, .int .u64 v, .int .i64 z] 39) (.cells #[.int .i64 0, .int .u64 0, .int .u64 0, .int .u64 0, .int .u64 0, .int .u64 0, .int .u64 0, .int .u64 0, .int .u64 0, .int .u64 0, .int .u64 0, .int .u64 0, .int .u64 0, .int .u64 0, .int .u64 0, .int .u64 0, .int .u64 0, .int .u64 0, .int .u64 0, .int .u64 0, .int .u64 0, .int .u64 0, .int .u64 0, .int .u64 0, .int .u64 0, .int .u64 0, .int .u64 0, .int .u64 0, .int .u64 0, .int .u64 0, .int .u64 0, .int .u64 0, .int .u64 0] 29)) (.cells #[.int .i64 0, .bool false, .int .u64 0] 35))
  have BY := Aside0.mk (blk_new4 w (.cells (SV l) 29) (.cells #[.int .i64 8, .int .u64 k, .int .u64 v, .int .i64 z] 39) (.cells #[.int .i64 0, .int .u64 0, .int .u64 0, .int .u64 0, .int .u64 0, .int .u64 0, .int .u64 0, .int .u64 0, .int .u64 0, .int .u64 0, .int .u64 0, .int .u64 0, .int .u64 0, .int .u64 0, .int .u64 0, .int .u64 0, .int .u64 0, .int .u64 0, .int .u64 0, .int .u64 0, .int .u64 0, .int .u64 0, .int .u64 0, .int .u64 0, .int .u64 0, .int .u64 0, .int .u64 0, .int .u64 0, .int .u64 0, .int .u64 0, .int .u64 0, .int .u64 0, .int .u64 0] 29) (.cells #[.int .i64 0, .bool false, .int .u64 0] 35))
  have B1 := Aside0.mk (below_alloc (below_alloc (below_alloc (below_alloc (Below.refl w.heap.size w) (.cells (SV l) 29)) (.cells #[.int .i64 8, .int .u64 k, .int .u64 v, .int .i64 z] 39)) (.cells #[.int .i64 0, .int .u64 0, .int .u64 0, .int .u64 0, .int .u64 0, .int .u64 0, .int .u64 0, .int .u64 0, .int .u64 0, .int .u64 0, .int .u64 0, .int .u64 0, .int .u64 0, .int .u64 0, .int .u64 0, .int .u64 0, .int .u64 0, .int .u64 0, .int .u64 0, .int .u64 0, .int .u64 0, .int .u64 0, .int .u64 0, .int .u64 0, .int .u64 0, .int .u64 0, .int .u64 0, .int .u64 0, .int .u64 0, .int .u64 0, .int .u64 0, .int .u64 0, .int .u64 0] 29)) (.cells #[.int .i64 0, .bool false, .int .u64 0] 35))
  go_enter Try.func9, Try.ntmps9
  go_wp2_with (refine wpList_load_row rfl 29 (.tmp 2) rfl w.heap.size rfl 29 (SV l) (0, 0) _ BK.out Try.underlying29 rfl (info29 l) ?_)
  generalize ((((w.alloc (.cells (SV l) 29)).alloc (.cells #[.int .i64 8, .int .u64 k, .int .u64 v, .int .i64 z] 39)).alloc (.cells #[.int .i64 0, .int .u64 0, .int .u64 0, .int .u64 0, .int .u64 0, .int .u64 0, .int .u64 0, .int .u64 0, .int .u64 0, .int .u64 0, .int .u64 0, .int .u64 0, .int .u64 0, .int .u64 0, .int .u64 0, .int .u64 0, .int .u64 0, .int .u64 0, .int .u64 0, .int .u64 0, .int .u64 0, .int .u64 0, .int .u64 0, .int .u64 0, .int .u64 0, .int .u64 0, .int .u64 0, .int .u64 0, .int .u64 0, .int .u64 0, .int .u64 0, .int .u64 0, .int .u64 0] 29)).alloc (.cells #[.int .i64 0, .bool false, .int .u64 0] 35)) = w1 at *
  refine (get_T l k _ HL.out).mono ?_
  rintro e w2 ⟨rfl, hb⟩
  have BK2 := Aside0.mk (blk_below BK.out hb)
  have BO2 := Aside0.mk (blk_below BO.out hb)
  have BZ2 := Aside0.mk (blk_below BZ.out hb)
  have BY2 := Aside0.mk (blk_below BY.out hb)
  have B2 := Aside0.mk (below_step B1.out hb)
  clear BK BO BZ BY B1 hb
  have o0 : w2.cell? ⟨w.heap.size + 1, 0, none⟩ = some (.int .i64 8) := (blk_cell BO2.out 0).trans rfl
  have o1 : w2.cell? ⟨w.heap.size + 1, 1, none⟩ = some (.int .u64 k) := (blk_cell BO2.out 1).trans rfl
  have o2 : w2.cell? ⟨w.heap.size + 1, 2, none⟩ = some (.int .u64 v) := (blk_cell BO2.out 2).trans rfl
  go_wp2_with (first
    | (refine wpList_load_row rfl 29 (.tmp 2) rfl w.heap.size rfl 29 (SV l) (0, 0) _ BK2.out Try.underlying29 rfl (info29 l) ?_)
    | (refine store_whole (w := w) (B := w.heap.size) rfl rfl 29 (.tmp 4) (.tmp 96) rfl (g := w.heap.size + 1 + 1) (cs := SV l) rfl _ rfl rfl (stot _) (SV_one _) BZ2.out (by rw [SV_size]; rfl) (by omega) B2.out ?_; intro w5 h1 h2 h3 h4; have BZ5 := Aside0.mk h1; have B5 := Aside0.mk h2; have BY5 := Aside0.mk ((h3 _ (by omega)).trans BY2.out); clear h1 h2 h3 h4)
    | (refine store_whole (w := w) (B := w.heap.size) rfl rfl 35 (.tmp 5) (.tmp 97) rfl (g := w.heap.size + 1 + 1 + 1) (cs := A3 ((0, true, 0))) rfl _ rfl rfl (by kernel_rfl) (by simp [A3, Value.oneCell']) BY5.out rfl (by omega) B5.out ?_; intro w6 h1 h2 h3 h4; have BY6 := Aside0.mk h1; have B6 := Aside0.mk h2; have BZ6 := Aside0.mk ((h3 _ (by omega)).trans BZ5.out); clear h1 h2 h3 h4))
  exact bodyPost_ret (results_cell3s2 rfl _ _ (w.heap.size + 1 + 1) (w.heap.size + 1 + 1 + 1) l ((0, true, 0)) rfl BZ6.out rfl BY6.out rfl) rfl ⟨rfl, B6.out⟩
set_option maxHeartbeats 8000000 in
set_option maxRecDepth 100000 in
theorem doN_T (l : List S26) (kd : Int) (k v z : Int) (w : World) (hl : l.length ≤ 16) (hk : ¬ (1 ≤ kd ∧ kd ≤ 8)) :
    Calls Try.prog 9 #[.agg (SV l), .agg #[.int .i64 kd, .int .u64 k, .int .u64 v, .int .i64 z]] w fun e w' => e = .returned (.tuple #[.agg (SV []), .agg (A3 ((0, false, 0))), .int .i64 8]) ∧ Below w.heap.size w w' := by
  have hu29 := Try.underlying29
  have hu39 := Try.underlying39
  have hu35 := Try.underlying35
  have HL := Aside0.mk hl
  clear hl
  have t1 := eq_false (show ¬ (kd = 1) by omega)
  have u1 : (kd == 1) = false := beq_eq_false_iff_ne.2 (by omega)
  have t2 := eq_false (show ¬ (kd = 2) by omega)
  have u2 : (kd == 2) = false := beq_eq_false_iff_ne.2 (by omega)
  have t3 := eq_false (show ¬ (kd = 3) by omega)
  have u3 : (kd == 3) = false := beq_eq_false_iff_ne.2 (by omega)
  have t4 := eq_false (show ¬ (kd = 4) by omega)
  have u4 : (kd == 4) = false := beq_eq_false_iff_ne.2 (by omega)
  have t5 := eq_false (show ¬ (kd = 5) by omega)
  have u5 : (kd == 5) = false := beq_eq_false_iff_ne.2 (by omega)
  have t6 := eq_false (show ¬ (kd = 6) by omega)
  have u6 : (kd == 6) = false := beq_eq_false_iff_ne.2 (by omega)
  have t7 := eq_false (show ¬ (kd = 7) by omega)
  have u7 : (kd == 7) = false := beq_eq_false_iff_ne.2 (by omega)
  have t8 := eq_false (show ¬ (kd = 8) by omega)
  have u8 : (kd == 8) = false := beq_eq_false_iff_ne.2 (by omega)
  clear hk
  have BK := Aside0.mk (blk_alloc (blk_alloc (blk_alloc (blk_new w (.cells (SV l) 29)) (.cells #[.int .i64 kd, .int .u64 k, .int .u64 v, .int .i64 z] 39)) (.cells #[.int .i64 0, .int .u64 0, .int .u64 0, .int .u64 0, .int .u64 0, .int .u64 0, .int .u64 0, .int .u64 0, .int .u64 0, .int .u64 0, .int .u64 0, .int .u64 0, .int .u64 0, .int .u64 0, .int .u64 0, .int .u64 0, .int .u64 0, .int .u64 0, .int .u64 0, .int .u64 0, .int .u64 0, .int .u64 0, .int .u64 0, .int .u64 0, .int .u64 0, .int .u64 0, .int .u64 0, .int .u64 0, .int .u64 0, .int .u64 0, .int .u64 0, .int .u64 0, .int .u64 0] 29)) (.cells #[.int .i64 0, .bool false, .int .u64 0] 35))
  have BO := Aside0.mk (blk_alloc (blk_alloc (blk_new2 w (.cells (SV l) 29) (.cells #[.int .i64 kd, .int .u64 k, .int .u64 v, .int .i64 z] 39)) (.cells #[.int .i64 0, .int .u64 0, .int .u64 0, .int .u64 0, .int .u64 0, .int .u64 0, .int .u64 0, .int .u64 0, .int .u64 0, .int .u64 0, .int .u64 0, .int .u64 0, .int .u64 0, .int .u64 0, .int .u64 0, .int .u64 0, .int .u64 0, .int .u64 0, .int .u64 0, .int .u64 0, .int .u64 0, .int .u64 0, .int .u64 0, .int .u64 0, .int .u64 0, .int .u64 0, .int .u64 0, .int .u64 0, .int .u64 0, .int .u64 0, .int .u64 0, .int .u64 0, .int .u64 0] 29)) (.cells #[.int .i64 0, .bool false, .int .u64 0] 35))
  have BZ := Aside0.mk (blk_alloc (blk_new3 w (.cells (SV l) 29) (.cells #[.int .i64 kd, .int .u64 k, .int .u64 v, .int .i64 z] 39) (.cells #[.int .i64 0, .int .u64 0, .int .u64 0, .int .u64 0, .int .u64 0, .int .u64 0, .int .u64 0, .int .u64 0, .int .u64 0, .int .u64 0, .int .u64 0, .int .u64 0, .int .u64 0, .int .u64 0, .int .u64 0, .int .u64 0, .int .u64 0, .int .u64 0, .int .u64 0, .int .u64 0, .int .u64 0, .int .u64 0, .int .u64 0, .int .u64 0, .int .u64 0, .int .u64 0, .int .u64 0, .int .u64 0, .int .u64 0, .int .u64 0, .int .u64 0, .int .u64 0, .int .u64 0] 29)) (.cells #[.int .i64 0, .bool false, .int .u64 0] 35))
  have BY := Aside0.mk (blk_new4 w (.cells (SV l) 29) (.cells #[.int .i64 kd, .int .u64 k, .int .u64 v, .int .i64 z] 39) (.cells #[.int .i64 0, .int .u64 0, .int .u64 0, .int .u64 0, .int .u64 0, .int .u64 0, .int .u64 0, .int .u64 0, .int .u64 0, .int .u64 0, .int .u64 0, .int .u64 0, .int .u64 0, .int .u64 0, .int .u64 0, .int .u64 0, .int .u64 0, .int .u64 0, .int .u64 0, .int .u64 0, .int .u64 0, .int .u64 0, .int .u64 0, .int .u64 0, .int .u64 0, .int .u64 0, .int .u64 0, .int .u64 0, .int .u64 0, .int .u64 0, .int .u64 0, .int .u64 0, .int .u64 0] 29) (.cells #[.int .i64 0, .bool false, .int .u64 0] 35))
  have B1 := Aside0.mk (below_alloc (below_alloc (below_alloc (below_alloc (Below.refl w.heap.size w) (.cells (SV l) 29)) (.cells #[.int .i64 kd, .int .u64 k, .int .u64 v, .int .i64 z] 39)) (.cells #[.int .i64 0, .int .u64 0, .int .u64 0, .int .u64 0, .int .u64 0, .int .u64 0, .int .u64 0, .int .u64 0, .int .u64 0, .int .u64 0, .int .u64 0, .int .u64 0, .int .u64 0, .int .u64 0, .int .u64 0, .int .u64 0, .int .u64 0, .int .u64 0, .int .u64 0, .int .u64 0, .int .u64 0, .int .u64 0, .int .u64 0, .int .u64 0, .int .u64 0, .int .u64 0, .int .u64 0, .int .u64 0, .int .u64 0, .int .u64 0, .int .u64 0, .int .u64 0, .int .u64 0] 29)) (.cells #[.int .i64 0, .bool false, .int .u64 0] 35))
  go_enter Try.func9, Try.ntmps9
  go_wp2_with (refine wpList_load_row rfl 29 (.tmp 2) rfl w.heap.size rfl 29 (SV l) (0, 0) _ BK.out Try.underlying29 rfl (info29 l) ?_)
  generalize ((((w.alloc (.cells (SV l) 29)).alloc (.cells #[.int .i64 kd, .int .u64 k, .int .u64 v, .int .i64 z] 39)).alloc (.cells #[.int .i64 0, .int .u64 0, .int .u64 0, .int .u64 0, .int .u64 0, .int .u64 0, .int .u64 0, .int .u64 0, .int .u64 0, .int .u64 0, .int .u64 0, .int .u64 0, .int .u64 0, .int .u64 0, .int .u64 0, .int .u64 0, .int .u64 0, .int .u64 0, .int .u64 0, .int .u64 0, .int .u64 0, .int .u64 0, .int .u64 0, .int .u64 0, .int .u64 0, .int .u64 0, .int .u64 0, .int .u64 0, .int .u64 0, .int .u64 0, .int .u64 0, .int .u64 0, .int .u64 0] 29)).alloc (.cells #[.int .i64 0, .bool false, .int .u64 0] 35)) = w1 at *
  refine (get_T l k _ HL.out).mono ?_
  rintro e w2 ⟨rfl, hb⟩
  have BK2 := Aside0.mk (blk_below BK.out hb)
  have BO2 := Aside0.mk (blk_below BO.out hb)
  have BZ2 := Aside0.mk (blk_below BZ.out hb)
  have BY2 := Aside0.mk (blk_below BY.out hb)
  have B2 := Aside0.mk (below_step B1.out hb)
  clear BK BO BZ BY B1 hb
  have o0 : w2.cell? ⟨w.heap.size + 1, 0, none⟩ = some (.int .i64 kd) := (blk_cell BO2.out 0).trans rfl
  have o1 : w2.cell? ⟨w.heap.size + 1, 1, none⟩ = some (.int .u64 k) := (blk_cell BO2.out 1).trans rfl
  have o2 : w2.cell? ⟨w.heap.size + 1, 2, none⟩ = some (.int .u64 v) := (blk_cell BO2.out 2).trans rfl
  go_wp2_with (first
    | (refine wpList_load_row rfl 29 (.tmp 2) rfl w.heap.size rfl 29 (SV l) (0, 0) _ BK2.out Try.underlying29 rfl (info29 l) ?_)
    | (refine store_whole (w := w) (B := w.heap.size) rfl rfl 29 (.tmp 4) (.tmp 98) rfl (g := w.heap.size + 1 + 1) (cs := SV []) rfl _ rfl rfl (stot _) (SV_one _) BZ2.out (by rw [SV_size]; rfl) (by omega) B2.out ?_; intro w5 h1 h2 h3 h4; have BZ5 := Aside0.mk h1; have B5 := Aside0.mk h2; have BY5 := Aside0.mk ((h3 _ (by omega)).trans BY2.out); clear h1 h2 h3 h4)
    | (refine store_whole (w := w) (B := w.heap.size) rfl rfl 35 (.tmp 5) (.tmp 99) rfl (g := w.heap.size + 1 + 1 + 1) (cs := A3 ((0, false, 0))) rfl _ rfl rfl (by kernel_rfl) (by simp [A3, Value.oneCell']) BY5.out rfl (by omega) B5.out ?_; intro w6 h1 h2 h3 h4; have BY6 := Aside0.mk h1; have B6 := Aside0.mk h2; have BZ6 := Aside0.mk ((h3 _ (by omega)).trans BZ5.out); clear h1 h2 h3 h4))
  exact bodyPost_ret (results_cell3s2 rfl _ _ (w.heap.size + 1 + 1) (w.heap.size + 1 + 1 + 1) [] ((0, false, 0)) rfl BZ6.out rfl BY6.out rfl) rfl ⟨rfl, B6.out⟩
/-- What an operation does and answers. -/
def doV (l : List S26) (kd k v : Int) : List S26 × (Int × Bool × Int) × Int :=
  if kd = 1 then putV l ⟨k, 0⟩ (!isF k l) (0, !isF k l, 0) else if kd = 4 then putV l ⟨k, v⟩ true (0, isF k l, getV l k) else if kd = 5 then putV l ⟨k, v⟩ (!isF k l) (0, !isF k l, getV l k)
  else if kd = 2 then (withoutV l k, (0, isF k l, 0), 0) else if kd = 6 then (withoutV l k, (0, isF k l, getV l k), 0) else if kd = 3 then (l, (0, isF k l, 0), 0) else if kd = 7 then (l, (0, isF k l, getV l k), 0)
  else if kd = 8 then (l, (0, true, 0), 0) else ([], (0, false, 0), 8)
theorem do_T (l : List S26) (kd k v z : Int) (w : World) (hl : l.length ≤ 16) :
    Calls Try.prog 9 #[.agg (SV l), .agg #[.int .i64 kd, .int .u64 k, .int .u64 v, .int .i64 z]] w fun e w' => e = .returned (.tuple #[.agg (SV (doV l kd k v).1), .agg (A3 (doV l kd k v).2.1), .int .i64 (doV l kd k v).2.2]) ∧ Below w.heap.size w w' := by
  unfold doV
  by_cases h1 : kd = 1
  · subst h1; rw [if_pos rfl]; exact do1_T l k v z w hl
  by_cases h4 : kd = 4
  · subst h4; rw [if_neg (by decide), if_pos rfl]; exact do4_T l k v z w hl
  by_cases h5 : kd = 5
  · subst h5; rw [if_neg (by decide), if_neg (by decide), if_pos rfl]; exact do5_T l k v z w hl
  by_cases h2 : kd = 2
  · subst h2; rw [if_neg (by decide), if_neg (by decide), if_neg (by decide), if_pos rfl]; exact do2_T l k v z w hl
  by_cases h6 : kd = 6
  · subst h6; rw [if_neg (by decide), if_neg (by decide), if_neg (by decide), if_neg (by decide), if_pos rfl]; exact do6_T l k v z w hl
  by_cases h3 : kd = 3
  · subst h3; rw [if_neg (by decide), if_neg (by decide), if_neg (by decide), if_neg (by decide), if_neg (by decide), if_pos rfl]; exact do3_T l k v z w hl
  by_cases h7 : kd = 7
  · subst h7; rw [if_neg (by decide), if_neg (by decide), if_neg (by decide), if_neg (by decide), if_neg (by decide), if_neg (by decide), if_pos rfl]; exact do7_T l k v z w hl
  by_cases h8 : kd = 8
  · subst h8; rw [if_neg (by decide), if_neg (by decide), if_neg (by decide), if_neg (by decide), if_neg (by decide), if_neg (by decide), if_neg (by decide), if_pos rfl]; exact do8_T l k v z w hl
  rw [if_neg h1, if_neg h4, if_neg h5, if_neg h2, if_neg h6, if_neg h3, if_neg h7, if_neg h8]
  exact doN_T l kd k v z w hl (by omega)
end Go.Proofs.Ytcphmelmieedfab.PSpecExact

