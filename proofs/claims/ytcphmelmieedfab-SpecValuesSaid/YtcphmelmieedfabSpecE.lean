/-
Whether an answer may be, and what is then.
-/
import Derived.Test.YtcphmelmieedfabSpecD
import Derived.Test.YtcphmelmieedfabPSpecExactx2
namespace Go.Proofs.Ytcphmelmieedfab.PSpecExact
open Go Go.RowKit Go.Proofs.YtcphmelmieedfabW.PrintWords Go.Proofs.YtcphmelmieedfabW.PrintLast Go.Proofs.YtcphmelmieedfabW.PrintMore
attribute [local go_sem] max2_int min2_int max_two min_two max_three min_three max_four min_four
set_option linter.unusedVariables false
set_option linter.unusedSimpArgs false
theorem wpList_load_row_g {P : Program} {ops : Array Oper} {rest : List Oper} {o : Oper} {a : Act} {w : World} {Q : Exit → Act → World → Prop} (hw : Region.wanted o (yielded ops a.tmps) = true) (ty : TypeId) (x : Operand) (ho : o.op = .load ty x)
    (g : Nat) (hx : a.eval x = .pointer (some ⟨g, 0, none⟩)) (t : TypeId) (cs : Array Value) (fr : Nat × Nat) (d : TypeDesc) (hg : w.heap[g]? = some (.cells cs t fr))
    (hu : P.underlying ty = some d) (hd : (match d with | .struct _ | .array _ _ => true | _ => false) = true) (hi : (P.info? ty).map (·.size) = some cs.size) (h : wpList P ops Q rest (a.put o.dst (.agg cs)) w) : wpList P ops Q (o :: rest) a w :=
  wpList_step fun K hK => by
    rw [if_pos hw]
    unfold Oper.wp
    rw [exec_load_row ty x ho g hx t cs fr d hg hu hd hi]
    exact hK _ _ h
theorem wpList_value_g {P : Program} {ops : Array Oper} {rest : List Oper} {o : Oper} {a : Act} {w : World} {Q : Exit → Act → World → Prop} (hw : Region.wanted o (yielded ops a.tmps) = true) {v : Value} (hrun : (execOp a.eval o).run P w = .ok (.value v) w)
    (h : wpList P ops Q rest (a.put o.dst v) w) : wpList P ops Q (o :: rest) a w :=
  wpList_step fun K hK => by
    rw [if_pos hw]
    unfold Oper.wp
    rw [hrun]
    exact hK _ _ h
theorem exec_neq35 {o : Oper} {a : Act} {w : World} (p q : Operand) (ho : o.op = .binOp .neq 35 p q 35) (e x e2 x2 : Int) (d d2 : Bool) (hp : a.eval p = .agg #[.int .i64 e, .bool d, .int .u64 x]) (hq : a.eval q = .agg #[.int .i64 e2, .bool d2, .int .u64 x2]) (b : Bool)
    (hb : decide ((e, d, x) = (e2, d2, x2)) = !b) : (execOp a.eval o).run Try.prog w = .ok (.value (.bool b)) w := by
  have hu35 := Try.underlying35
  unfold execOp
  simp only [ho, hp, hq]
  by_cases h1 : e = e2
  · by_cases h2 : d = d2
    · by_cases h3 : x = x2
      · subst h1 h2 h3
        have : b = false := by simpa using hb
        subst this
        go_simp
      · have : b = true := by simpa [h1, h2, h3] using hb
        subst this
        subst h1 h2
        have t3 := eq_false h3
        go_simp
    · have : b = true := by simpa [h1, h2] using hb
      subst this
      subst h1
      have t2 := eq_false h2
      go_simp
  · have : b = true := by simpa [h1] using hb
    subst this
    have t1 := eq_false h1
    go_simp
set_option maxHeartbeats 8000000 in
set_option maxRecDepth 100000 in
theorem mayR_T (l : List S26) (kd k v z e : Int) (d : Bool) (x : Int) (w : World) (hl : l.length ≤ 16) (hr : spec_isRefused.f 1 kd k v z e d x = some true) :
    Calls Try.prog 18 #[.agg (SV l), .agg #[.int .i64 kd, .int .u64 k, .int .u64 v, .int .i64 z], .agg #[.int .i64 e, .bool d, .int .u64 x]] w fun e_ w' => e_ = .returned (.tuple #[.agg (SV l), .bool true]) ∧ Below w.heap.size w w' := by
  have hu29 := Try.underlying29
  have hu39 := Try.underlying39
  have hu35 := Try.underlying35
  have HL := Aside0.mk hl
  clear hl
  have HR := Aside0.mk hr
  clear hr
  have BK := Aside0.mk (blk_alloc (blk_alloc (blk_alloc (blk_new w (.cells (SV l) 29)) (.cells #[.int .i64 kd, .int .u64 k, .int .u64 v, .int .i64 z] 39)) (.cells #[.int .i64 e, .bool d, .int .u64 x] 35)) (.cells #[.int .i64 0, .int .u64 0, .int .u64 0, .int .u64 0, .int .u64 0, .int .u64 0, .int .u64 0, .int .u64 0, .int .u64 0, .int .u64 0, .int .u64 0, .int .u64 0, .int .u64 0, .int .u64 0, .int .u64 0, .int .u64 0, .int .u64 0, .int .u64 0, .int .u64 0, .int .u64 0, .int .u64 0, .int .u64 0, .int .u64 0, .int .u64 0, .int .u64 0, .int .u64 0, .int .u64 0, .int .u64 0, .int .u64 0, .int .u64 0, .int .u64 0, .int .u64 0, .int .u64 0] 29))
  have BO := Aside0.mk (blk_alloc (blk_alloc (blk_new2 w (.cells (SV l) 29) (.cells #[.int .i64 kd, .int .u64 k, .int .u64 v, .int .i64 z] 39)) (.cells #[.int .i64 e, .bool d, .int .u64 x] 35)) (.cells #[.int .i64 0, .int .u64 0, .int .u64 0, .int .u64 0, .int .u64 0, .int .u64 0, .int .u64 0, .int .u64 0, .int .u64 0, .int .u64 0, .int .u64 0, .int .u64 0, .int .u64 0, .int .u64 0, .int .u64 0, .int .u64 0, .int .u64 0, .int .u64 0, .int .u64 0, .int .u64 0, .int .u64 0, .int .u64 0, .int .u64 0, .int .u64 0, .int .u64 0, .int .u64 0, .int .u64 0, .int .u64 0, .int .u64 0, .int .u64 0, .int .u64 0, .int .u64 0, .int .u64 0] 29))
  have BA := Aside0.mk (blk_alloc (blk_new3 w (.cells (SV l) 29) (.cells #[.int .i64 kd, .int .u64 k, .int .u64 v, .int .i64 z] 39) (.cells #[.int .i64 e, .bool d, .int .u64 x] 35)) (.cells #[.int .i64 0, .int .u64 0, .int .u64 0, .int .u64 0, .int .u64 0, .int .u64 0, .int .u64 0, .int .u64 0, .int .u64 0, .int .u64 0, .int .u64 0, .int .u64 0, .int .u64 0, .int .u64 0, .int .u64 0, .int .u64 0, .int .u64 0, .int .u64 0, .int .u64 0, .int .u64 0, .int .u64 0, .int .u64 0, .int .u64 0, .int .u64 0, .int .u64 0, .int .u64 0, .int .u64 0, .int .u64 0, .int .u64 0, .int .u64 0, .int .u64 0, .int .u64 0, .int .u64 0] 29))
  have BZ := Aside0.mk (blk_new4 w (.cells (SV l) 29) (.cells #[.int .i64 kd, .int .u64 k, .int .u64 v, .int .i64 z] 39) (.cells #[.int .i64 e, .bool d, .int .u64 x] 35) (.cells #[.int .i64 0, .int .u64 0, .int .u64 0, .int .u64 0, .int .u64 0, .int .u64 0, .int .u64 0, .int .u64 0, .int .u64 0, .int .u64 0, .int .u64 0, .int .u64 0, .int .u64 0, .int .u64 0, .int .u64 0, .int .u64 0, .int .u64 0, .int .u64 0, .int .u64 0, .int .u64 0, .int .u64 0, .int .u64 0, .int .u64 0, .int .u64 0, .int .u64 0, .int .u64 0, .int .u64 0, .int .u64 0, .int .u64 0, .int .u64 0, .int .u64 0, .int .u64 0, .int .u64 0] 29))
  have B1 := Aside0.mk (below_alloc (below_alloc (below_alloc (below_alloc (Below.refl w.heap.size w) (.cells (SV l) 29)) (.cells #[.int .i64 kd, .int .u64 k, .int .u64 v, .int .i64 z] 39)) (.cells #[.int .i64 e, .bool d, .int .u64 x] 35)) (.cells #[.int .i64 0, .int .u64 0, .int .u64 0, .int .u64 0, .int .u64 0, .int .u64 0, .int .u64 0, .int .u64 0, .int .u64 0, .int .u64 0, .int .u64 0, .int .u64 0, .int .u64 0, .int .u64 0, .int .u64 0, .int .u64 0, .int .u64 0, .int .u64 0, .int .u64 0, .int .u64 0, .int .u64 0, .int .u64 0, .int .u64 0, .int .u64 0, .int .u64 0, .int .u64 0, .int .u64 0, .int .u64 0, .int .u64 0, .int .u64 0, .int .u64 0, .int .u64 0, .int .u64 0] 29))
  have SZ := Aside0.mk (show ((((w.alloc (.cells (SV l) 29)).alloc (.cells #[.int .i64 kd, .int .u64 k, .int .u64 v, .int .i64 z] 39)).alloc (.cells #[.int .i64 e, .bool d, .int .u64 x] 35)).alloc (.cells #[.int .i64 0, .int .u64 0, .int .u64 0, .int .u64 0, .int .u64 0, .int .u64 0, .int .u64 0, .int .u64 0, .int .u64 0, .int .u64 0, .int .u64 0, .int .u64 0, .int .u64 0, .int .u64 0, .int .u64 0, .int .u64 0, .int .u64 0, .int .u64 0, .int .u64 0, .int .u64 0, .int .u64 0, .int .u64 0, .int .u64 0, .int .u64 0, .int .u64 0, .int .u64 0, .int .u64 0, .int .u64 0, .int .u64 0, .int .u64 0, .int .u64 0, .int .u64 0, .int .u64 0] 29)).heap.size = w.heap.size + 4 by simp)
  go_enter Try.func18, Try.ntmps18
  go_wp2_with (first
    | (refine wpList_load_row rfl 39 (.tmp 4) rfl (w.heap.size + 1) rfl 39 #[.int .i64 kd, .int .u64 k, .int .u64 v, .int .i64 z] (0, 0) _ BO.out Try.underlying39 rfl (by kernel_rfl) ?_)
    | (refine wpList_load_row rfl 35 (.tmp 5) rfl (w.heap.size + 1 + 1) rfl 35 #[.int .i64 e, .bool d, .int .u64 x] (0, 0) _ BA.out Try.underlying35 rfl (by kernel_rfl) ?_))
  generalize ((((w.alloc (.cells (SV l) 29)).alloc (.cells #[.int .i64 kd, .int .u64 k, .int .u64 v, .int .i64 z] 39)).alloc (.cells #[.int .i64 e, .bool d, .int .u64 x] 35)).alloc (.cells #[.int .i64 0, .int .u64 0, .int .u64 0, .int .u64 0, .int .u64 0, .int .u64 0, .int .u64 0, .int .u64 0, .int .u64 0, .int .u64 0, .int .u64 0, .int .u64 0, .int .u64 0, .int .u64 0, .int .u64 0, .int .u64 0, .int .u64 0, .int .u64 0, .int .u64 0, .int .u64 0, .int .u64 0, .int .u64 0, .int .u64 0, .int .u64 0, .int .u64 0, .int .u64 0, .int .u64 0, .int .u64 0, .int .u64 0, .int .u64 0, .int .u64 0, .int .u64 0, .int .u64 0] 29)) = w1 at *
  refine (spec_isRefused.calls 1 kd k v z e d x _ _ HR.out).mono ?_
  rintro e_ w2 ⟨rfl, hb⟩
  have BK2 := Aside0.mk (blk_below BK.out hb)
  have BO2 := Aside0.mk (blk_below BO.out hb)
  have BA2 := Aside0.mk (blk_below BA.out hb)
  have BZ2 := Aside0.mk (blk_below BZ.out hb)
  have B2 := Aside0.mk (below_step B1.out hb)
  have S2 := Aside0.mk (show w.heap.size + 4 ≤ w2.heap.size by have := hb.size; have := SZ.out; omega)
  clear BK BO BA BZ B1 hb SZ
  go_wp2_with (first
    | (refine wpList_load_row rfl 29 (.tmp 3) rfl w.heap.size rfl 29 (SV l) (0, 0) _ BK2.out Try.underlying29 rfl (info29 l) ?_)
    | (refine store_whole (w := w) (B := w.heap.size) rfl rfl 29 (.tmp 6) (.tmp 14) rfl (g := w.heap.size + 1 + 1 + 1) (cs := SV l) rfl _ rfl rfl (stot _) (SV_one _) BZ2.out (by rw [SV_size]; rfl) (by omega) B2.out ?_; intro w9 h1 h2 h3 h4; have BZ9 := Aside0.mk h1; have B9 := Aside0.mk h2; clear h1 h2 h3 h4))
  exact bodyPost_ret (results_cell2 rfl _ _ (w.heap.size + 1 + 1 + 1) 29 (SV l) (0, 0) _ rfl BZ9.out Try.underlying29 rfl (info29 _) rfl) rfl ⟨rfl, B9.out⟩
set_option maxHeartbeats 8000000 in
set_option maxRecDepth 100000 in
theorem may8c_T (l : List S26) (kd k v z e : Int) (d : Bool) (x : Int) (m : List S26) (e2 : Int) (d2 : Bool) (x2 c : Int) (w : World) (hl : l.length ≤ 16) (hr : spec_isRefused.f 1 kd k v z e d x = some false) (hD : doV l kd k v = (m, (e2, d2, x2), c)) (h8 : kd = 8) (hc : c ≠ 0) :
    Calls Try.prog 18 #[.agg (SV l), .agg #[.int .i64 kd, .int .u64 k, .int .u64 v, .int .i64 z], .agg #[.int .i64 e, .bool d, .int .u64 x]] w fun e_ w' => e_ = .returned (.tuple #[.agg (SV []), .bool false]) ∧ Below w.heap.size w w' := by
  have hu29 := Try.underlying29
  have hu39 := Try.underlying39
  have hu35 := Try.underlying35
  have HL := Aside0.mk hl
  clear hl
  have HR := Aside0.mk hr
  have HD := Aside0.mk hD
  clear hr hD
  subst h8
  have tc := eq_false hc
  have tcb : (c == 0) = false := beq_eq_false_iff_ne.2 hc
  clear hc
  have BK := Aside0.mk (blk_alloc (blk_alloc (blk_alloc (blk_new w (.cells (SV l) 29)) (.cells #[.int .i64 8, .int .u64 k, .int .u64 v, .int .i64 z] 39)) (.cells #[.int .i64 e, .bool d, .int .u64 x] 35)) (.cells #[.int .i64 0, .int .u64 0, .int .u64 0, .int .u64 0, .int .u64 0, .int .u64 0, .int .u64 0, .int .u64 0, .int .u64 0, .int .u64 0, .int .u64 0, .int .u64 0, .int .u64 0, .int .u64 0, .int .u64 0, .int .u64 0, .int .u64 0, .int .u64 0, .int .u64 0, .int .u64 0, .int .u64 0, .int .u64 0, .int .u64 0, .int .u64 0, .int .u64 0, .int .u64 0, .int .u64 0, .int .u64 0, .int .u64 0, .int .u64 0, .int .u64 0, .int .u64 0, .int .u64 0] 29))
  have BO := Aside0.mk (blk_alloc (blk_alloc (blk_new2 w (.cells (SV l) 29) (.cells #[.int .i64 8, .int .u64 k, .int .u64 v, .int .i64 z] 39)) (.cells #[.int .i64 e, .bool d, .int .u64 x] 35)) (.cells #[.int .i64 0, .int .u64 0, .int .u64 0, .int .u64 0, .int .u64 0, .int .u64 0, .int .u64 0, .int .u64 0, .int .u64 0, .int .u64 0, .int .u64 0, .int .u64 0, .int .u64 0, .int .u64 0, .int .u64 0, .int .u64 0, .int .u64 0, .int .u64 0, .int .u64 0, .int .u64 0, .int .u64 0, .int .u64 0, .int .u64 0, .int .u64 0, .int .u64 0, .int .u64 0, .int .u64 0, .int .u64 0, .int .u64 0, .int .u64 0, .int .u64 0, .int .u64 0, .int .u64 0] 29))
  have BA := Aside0.mk (blk_alloc (blk_new3 w (.cells (SV l) 29) (.cells #[.int .i64 8, .int .u64 k, .int .u64 v, .int .i64 z] 39) (.cells #[.int .i64 e, .bool d, .int .u64 x] 35)) (.cells #[.int .i64 0, .int .u64 0, .int .u64 0, .int .u64 0, .int .u64 0, .int .u64 0, .int .u64 0, .int .u64 0, .int .u64 0, .int .u64 0, .int .u64 0, .int .u64 0, .int .u64 0, .int .u64 0, .int .u64 0, .int .u64 0, .int .u64 0, .int .u64 0, .int .u64 0, .int .u64 0, .int .u64 0, .int .u64 0, .int .u64 0, .int .u64 0, .int .u64 0, .int .u64 0, .int .u64 0, .int .u64 0, .int .u64 0, .int .u64 0, .int .u64 0, .int .u64 0, .int .u64 0] 29))
  have BZ := Aside0.mk (blk_new4 w (.cells (SV l) 29) (.cells #[.int .i64 8, .int .u64 k, .int .u64 v, .int .i64 z] 39) (.cells #[.int .i64 e, .bool d, .int .u64 x] 35) (.cells #[.int .i64 0, .int .u64 0, .int .u64 0, .int .u64 0, .int .u64 0, .int .u64 0, .int .u64 0, .int .u64 0, .int .u64 0, .int .u64 0, .int .u64 0, .int .u64 0, .int .u64 0, .int .u64 0, .int .u64 0, .int .u64 0, .int .u64 0, .int .u64 0, .int .u64 0, .int .u64 0, .int .u64 0, .int .u64 0, .int .u64 0, .int .u64 0, .int .u64 0, .int .u64 0, .int .u64 0, .int .u64 0, .int .u64 0, .int .u64 0, .int .u64 0, .int .u64 0, .int .u64 0] 29))
  have B1 := Aside0.mk (below_alloc (below_alloc (below_alloc (below_alloc (Below.refl w.heap.size w) (.cells (SV l) 29)) (.cells #[.int .i64 8, .int .u64 k, .int .u64 v, .int .i64 z] 39)) (.cells #[.int .i64 e, .bool d, .int .u64 x] 35)) (.cells #[.int .i64 0, .int .u64 0, .int .u64 0, .int .u64 0, .int .u64 0, .int .u64 0, .int .u64 0, .int .u64 0, .int .u64 0, .int .u64 0, .int .u64 0, .int .u64 0, .int .u64 0, .int .u64 0, .int .u64 0, .int .u64 0, .int .u64 0, .int .u64 0, .int .u64 0, .int .u64 0, .int .u64 0, .int .u64 0, .int .u64 0, .int .u64 0, .int .u64 0, .int .u64 0, .int .u64 0, .int .u64 0, .int .u64 0, .int .u64 0, .int .u64 0, .int .u64 0, .int .u64 0] 29))
  have SZ := Aside0.mk (show ((((w.alloc (.cells (SV l) 29)).alloc (.cells #[.int .i64 8, .int .u64 k, .int .u64 v, .int .i64 z] 39)).alloc (.cells #[.int .i64 e, .bool d, .int .u64 x] 35)).alloc (.cells #[.int .i64 0, .int .u64 0, .int .u64 0, .int .u64 0, .int .u64 0, .int .u64 0, .int .u64 0, .int .u64 0, .int .u64 0, .int .u64 0, .int .u64 0, .int .u64 0, .int .u64 0, .int .u64 0, .int .u64 0, .int .u64 0, .int .u64 0, .int .u64 0, .int .u64 0, .int .u64 0, .int .u64 0, .int .u64 0, .int .u64 0, .int .u64 0, .int .u64 0, .int .u64 0, .int .u64 0, .int .u64 0, .int .u64 0, .int .u64 0, .int .u64 0, .int .u64 0, .int .u64 0] 29)).heap.size = w.heap.size + 4 by simp)
  go_enter Try.func18, Try.ntmps18
  go_wp2_with (first
    | (refine wpList_load_row rfl 39 (.tmp 4) rfl (w.heap.size + 1) rfl 39 #[.int .i64 8, .int .u64 k, .int .u64 v, .int .i64 z] (0, 0) _ BO.out Try.underlying39 rfl (by kernel_rfl) ?_)
    | (refine wpList_load_row rfl 35 (.tmp 5) rfl (w.heap.size + 1 + 1) rfl 35 #[.int .i64 e, .bool d, .int .u64 x] (0, 0) _ BA.out Try.underlying35 rfl (by kernel_rfl) ?_))
  generalize ((((w.alloc (.cells (SV l) 29)).alloc (.cells #[.int .i64 8, .int .u64 k, .int .u64 v, .int .i64 z] 39)).alloc (.cells #[.int .i64 e, .bool d, .int .u64 x] 35)).alloc (.cells #[.int .i64 0, .int .u64 0, .int .u64 0, .int .u64 0, .int .u64 0, .int .u64 0, .int .u64 0, .int .u64 0, .int .u64 0, .int .u64 0, .int .u64 0, .int .u64 0, .int .u64 0, .int .u64 0, .int .u64 0, .int .u64 0, .int .u64 0, .int .u64 0, .int .u64 0, .int .u64 0, .int .u64 0, .int .u64 0, .int .u64 0, .int .u64 0, .int .u64 0, .int .u64 0, .int .u64 0, .int .u64 0, .int .u64 0, .int .u64 0, .int .u64 0, .int .u64 0, .int .u64 0] 29)) = w1 at *
  refine (spec_isRefused.calls 1 8 k v z e d x _ _ HR.out).mono ?_
  rintro e_ w2 ⟨rfl, hb⟩
  have BK2 := Aside0.mk (blk_below BK.out hb)
  have BO2 := Aside0.mk (blk_below BO.out hb)
  have BA2 := Aside0.mk (blk_below BA.out hb)
  have BZ2 := Aside0.mk (blk_below BZ.out hb)
  have B2 := Aside0.mk (below_step B1.out hb)
  have S2 := Aside0.mk (show w.heap.size + 4 ≤ w2.heap.size by have := hb.size; have := SZ.out; omega)
  clear BK BO BA BZ B1 hb SZ
  go_wp2_with (first
    | (refine wpList_load_row rfl 29 (.tmp 3) rfl w.heap.size rfl 29 (SV l) (0, 0) _ BK2.out Try.underlying29 rfl (info29 l) ?_)
    | (refine wpList_load_row rfl 39 (.tmp 4) rfl (w.heap.size + 1) rfl 39 #[.int .i64 8, .int .u64 k, .int .u64 v, .int .i64 z] (0, 0) _ BO2.out Try.underlying39 rfl (by kernel_rfl) ?_))
  refine (do_T l 8 k v z _ HL.out).mono ?_
  rintro e_ w3 ⟨rfl, hb⟩
  rw [HD.out]
  have BO3 := Aside0.mk (blk_alloc (blk_alloc (blk_below BO2.out hb) (.cells #[.int .i64 0, .int .u64 0, .int .u64 0, .int .u64 0, .int .u64 0, .int .u64 0, .int .u64 0, .int .u64 0, .int .u64 0, .int .u64 0, .int .u64 0, .int .u64 0, .int .u64 0, .int .u64 0, .int .u64 0, .int .u64 0, .int .u64 0, .int .u64 0, .int .u64 0, .int .u64 0, .int .u64 0, .int .u64 0, .int .u64 0, .int .u64 0, .int .u64 0, .int .u64 0, .int .u64 0, .int .u64 0, .int .u64 0, .int .u64 0, .int .u64 0, .int .u64 0, .int .u64 0] 29)) (.cells #[.int .i64 0, .bool false, .int .u64 0] 35))
  have BA3 := Aside0.mk (blk_alloc (blk_alloc (blk_below BA2.out hb) (.cells #[.int .i64 0, .int .u64 0, .int .u64 0, .int .u64 0, .int .u64 0, .int .u64 0, .int .u64 0, .int .u64 0, .int .u64 0, .int .u64 0, .int .u64 0, .int .u64 0, .int .u64 0, .int .u64 0, .int .u64 0, .int .u64 0, .int .u64 0, .int .u64 0, .int .u64 0, .int .u64 0, .int .u64 0, .int .u64 0, .int .u64 0, .int .u64 0, .int .u64 0, .int .u64 0, .int .u64 0, .int .u64 0, .int .u64 0, .int .u64 0, .int .u64 0, .int .u64 0, .int .u64 0] 29)) (.cells #[.int .i64 0, .bool false, .int .u64 0] 35))
  have BZ3 := Aside0.mk (blk_alloc (blk_alloc (blk_below BZ2.out hb) (.cells #[.int .i64 0, .int .u64 0, .int .u64 0, .int .u64 0, .int .u64 0, .int .u64 0, .int .u64 0, .int .u64 0, .int .u64 0, .int .u64 0, .int .u64 0, .int .u64 0, .int .u64 0, .int .u64 0, .int .u64 0, .int .u64 0, .int .u64 0, .int .u64 0, .int .u64 0, .int .u64 0, .int .u64 0, .int .u64 0, .int .u64 0, .int .u64 0, .int .u64 0, .int .u64 0, .int .u64 0, .int .u64 0, .int .u64 0, .int .u64 0, .int .u64 0, .int .u64 0, .int .u64 0] 29)) (.cells #[.int .i64 0, .bool false, .int .u64 0] 35))
  have BN3 := Aside0.mk (blk_alloc (blk_new w3 (.cells #[.int .i64 0, .int .u64 0, .int .u64 0, .int .u64 0, .int .u64 0, .int .u64 0, .int .u64 0, .int .u64 0, .int .u64 0, .int .u64 0, .int .u64 0, .int .u64 0, .int .u64 0, .int .u64 0, .int .u64 0, .int .u64 0, .int .u64 0, .int .u64 0, .int .u64 0, .int .u64 0, .int .u64 0, .int .u64 0, .int .u64 0, .int .u64 0, .int .u64 0, .int .u64 0, .int .u64 0, .int .u64 0, .int .u64 0, .int .u64 0, .int .u64 0, .int .u64 0, .int .u64 0] 29)) (.cells #[.int .i64 0, .bool false, .int .u64 0] 35))
  have BW3 := Aside0.mk (blk_new2 w3 (.cells #[.int .i64 0, .int .u64 0, .int .u64 0, .int .u64 0, .int .u64 0, .int .u64 0, .int .u64 0, .int .u64 0, .int .u64 0, .int .u64 0, .int .u64 0, .int .u64 0, .int .u64 0, .int .u64 0, .int .u64 0, .int .u64 0, .int .u64 0, .int .u64 0, .int .u64 0, .int .u64 0, .int .u64 0, .int .u64 0, .int .u64 0, .int .u64 0, .int .u64 0, .int .u64 0, .int .u64 0, .int .u64 0, .int .u64 0, .int .u64 0, .int .u64 0, .int .u64 0, .int .u64 0] 29) (.cells #[.int .i64 0, .bool false, .int .u64 0] 35))
  have B3 := Aside0.mk (below_alloc (below_alloc (below_step B2.out hb) (.cells #[.int .i64 0, .int .u64 0, .int .u64 0, .int .u64 0, .int .u64 0, .int .u64 0, .int .u64 0, .int .u64 0, .int .u64 0, .int .u64 0, .int .u64 0, .int .u64 0, .int .u64 0, .int .u64 0, .int .u64 0, .int .u64 0, .int .u64 0, .int .u64 0, .int .u64 0, .int .u64 0, .int .u64 0, .int .u64 0, .int .u64 0, .int .u64 0, .int .u64 0, .int .u64 0, .int .u64 0, .int .u64 0, .int .u64 0, .int .u64 0, .int .u64 0, .int .u64 0, .int .u64 0] 29)) (.cells #[.int .i64 0, .bool false, .int .u64 0] 35))
  have S3 := Aside0.mk (show w.heap.size + 4 ≤ w3.heap.size by have := hb.size; have := S2.out; omega)
  clear BK2 BO2 BA2 BZ2 B2 S2 hb
  go_wp2_with (first
    | (refine store_whole (w := w) (B := w.heap.size) rfl rfl 29 (.tmp 8) (.tmp 19) rfl (g := w3.heap.size) (cs := SV m) rfl _ rfl rfl (stot _) (SV_one _) BN3.out (by rw [SV_size]; rfl) (by have := S3.out; omega) B3.out ?_; intro w4 h1 h2 h3 h4; have BN4 := Aside0.mk h1; have B4 := Aside0.mk h2; have BO4 := Aside0.mk ((h3 _ (by have := S3.out; omega)).trans BO3.out); have BA4 := Aside0.mk ((h3 _ (by have := S3.out; omega)).trans BA3.out); have BZ4 := Aside0.mk ((h3 _ (by have := S3.out; omega)).trans BZ3.out); have BW4 := Aside0.mk ((h3 _ (by have := S3.out; omega)).trans BW3.out); clear h1 h2 h3 h4 BN3 B3 BO3 BA3 BZ3 BW3)
    | (refine store_whole (w := w) (B := w.heap.size) rfl rfl 35 (.tmp 9) (.tmp 20) rfl (g := w3.heap.size + 1) (cs := #[.int .i64 e2, .bool d2, .int .u64 x2]) rfl _ rfl rfl (by kernel_rfl) (by simp [Value.oneCell']) BW4.out rfl (by have := S3.out; omega) B4.out ?_; intro w5 h1 h2 h3 h4; have BW5 := Aside0.mk h1; have B5 := Aside0.mk h2; have BO5 := Aside0.mk ((h3 _ (by have := S3.out; omega)).trans BO4.out); have BA5 := Aside0.mk ((h3 _ (by have := S3.out; omega)).trans BA4.out); have BZ5 := Aside0.mk ((h3 _ (by have := S3.out; omega)).trans BZ4.out); have BN5 := Aside0.mk ((h3 _ (by have := S3.out; omega)).trans BN4.out); clear h1 h2 h3 h4 BN4 B4 BO4 BA4 BZ4 BW4; have o0 : w5.cell? ⟨w.heap.size + 1, 0, none⟩ = some (.int .i64 8) := (blk_cell BO5.out 0).trans rfl; have a2 : w5.cell? ⟨w.heap.size + 1 + 1, 2, none⟩ = some (.int .u64 x) := (blk_cell BA5.out 2).trans rfl; have c2 : w5.cell? ⟨w3.heap.size + 1, 2, none⟩ = some (.int .u64 x2) := (blk_cell BW5.out 2).trans rfl; have f2 := blk_frozen BW5.out 2; have BW6 := Aside0.mk (blk_put BW5.out 2 (.int .u64 x) (cs' := #[.int .i64 e2, .bool d2, .int .u64 x]) rfl); have NA := Aside0.mk (show w.heap.size + 1 + 1 ≠ w3.heap.size + 1 by have := S3.out; omega); have NZ := Aside0.mk (show w.heap.size + 1 + 1 + 1 ≠ w3.heap.size + 1 by have := S3.out; omega); have NN := Aside0.mk (show w3.heap.size ≠ w3.heap.size + 1 by omega); have BA6 := Aside0.mk (blk_far BA5.out (p := ⟨w3.heap.size + 1, 2, none⟩) NA.out (.int .u64 x)); have BZ6 := Aside0.mk (blk_far BZ5.out (p := ⟨w3.heap.size + 1, 2, none⟩) NZ.out (.int .u64 x)); have BN6 := Aside0.mk (blk_far BN5.out (p := ⟨w3.heap.size + 1, 2, none⟩) NN.out (.int .u64 x)); have B6 := Aside0.mk (below_set B5.out (g := w3.heap.size + 1) (j := 2) (v := .int .u64 x) (by have := S3.out; omega)))
    | (refine wpList_load_row_g (by rfl) 35 (.tmp 5) rfl (w.heap.size + 1 + 1) rfl 35 #[.int .i64 e, .bool d, .int .u64 x] (0, 0) _ BA6.out Try.underlying35 rfl (by kernel_rfl) ?_)
    | (refine wpList_load_row_g (by rfl) 35 (.tmp 9) rfl (w3.heap.size + 1) rfl 35 #[.int .i64 e2, .bool d2, .int .u64 x] (0, 0) _ BW6.out Try.underlying35 rfl (by kernel_rfl) ?_)
    | (refine wpList_load_row rfl 29 (.tmp 8) rfl w3.heap.size rfl 29 (SV m) (0, 0) _ BN6.out Try.underlying29 rfl (info29 _) ?_)
    | (refine store_whole (w := w) (B := w.heap.size) rfl rfl 29 (.tmp 6) (.tmp 35) rfl (g := w.heap.size + 1 + 1 + 1) (cs := SV []) rfl _ rfl rfl (stot _) (SV_one _) BZ6.out (by rw [SV_size]; rfl) (by omega) B6.out ?_; intro w9 h1 h2 h3 h4; have BZ9 := Aside0.mk h1; have B9 := Aside0.mk h2; clear h1 h2 h3 h4))
  exact bodyPost_ret (results_cell2 rfl _ _ (w.heap.size + 1 + 1 + 1) 29 (SV []) (0, 0) _ rfl BZ9.out Try.underlying29 rfl (info29 _) rfl) rfl ⟨rfl, B9.out⟩
set_option maxHeartbeats 8000000 in
set_option maxRecDepth 100000 in
theorem mayc_T (l : List S26) (kd k v z e : Int) (d : Bool) (x : Int) (m : List S26) (e2 : Int) (d2 : Bool) (x2 c : Int) (w : World) (hl : l.length ≤ 16) (hr : spec_isRefused.f 1 kd k v z e d x = some false) (hD : doV l kd k v = (m, (e2, d2, x2), c)) (h8 : kd ≠ 8) (hc : c ≠ 0) :
    Calls Try.prog 18 #[.agg (SV l), .agg #[.int .i64 kd, .int .u64 k, .int .u64 v, .int .i64 z], .agg #[.int .i64 e, .bool d, .int .u64 x]] w fun e_ w' => e_ = .returned (.tuple #[.agg (SV []), .bool false]) ∧ Below w.heap.size w w' := by
  have hu29 := Try.underlying29
  have hu39 := Try.underlying39
  have hu35 := Try.underlying35
  have HL := Aside0.mk hl
  clear hl
  have HR := Aside0.mk hr
  have HD := Aside0.mk hD
  clear hr hD
  have t8 := eq_false h8
  have t8b : (kd == 8) = false := beq_eq_false_iff_ne.2 h8
  clear h8
  have tc := eq_false hc
  have tcb : (c == 0) = false := beq_eq_false_iff_ne.2 hc
  clear hc
  have BK := Aside0.mk (blk_alloc (blk_alloc (blk_alloc (blk_new w (.cells (SV l) 29)) (.cells #[.int .i64 kd, .int .u64 k, .int .u64 v, .int .i64 z] 39)) (.cells #[.int .i64 e, .bool d, .int .u64 x] 35)) (.cells #[.int .i64 0, .int .u64 0, .int .u64 0, .int .u64 0, .int .u64 0, .int .u64 0, .int .u64 0, .int .u64 0, .int .u64 0, .int .u64 0, .int .u64 0, .int .u64 0, .int .u64 0, .int .u64 0, .int .u64 0, .int .u64 0, .int .u64 0, .int .u64 0, .int .u64 0, .int .u64 0, .int .u64 0, .int .u64 0, .int .u64 0, .int .u64 0, .int .u64 0, .int .u64 0, .int .u64 0, .int .u64 0, .int .u64 0, .int .u64 0, .int .u64 0, .int .u64 0, .int .u64 0] 29))
  have BO := Aside0.mk (blk_alloc (blk_alloc (blk_new2 w (.cells (SV l) 29) (.cells #[.int .i64 kd, .int .u64 k, .int .u64 v, .int .i64 z] 39)) (.cells #[.int .i64 e, .bool d, .int .u64 x] 35)) (.cells #[.int .i64 0, .int .u64 0, .int .u64 0, .int .u64 0, .int .u64 0, .int .u64 0, .int .u64 0, .int .u64 0, .int .u64 0, .int .u64 0, .int .u64 0, .int .u64 0, .int .u64 0, .int .u64 0, .int .u64 0, .int .u64 0, .int .u64 0, .int .u64 0, .int .u64 0, .int .u64 0, .int .u64 0, .int .u64 0, .int .u64 0, .int .u64 0, .int .u64 0, .int .u64 0, .int .u64 0, .int .u64 0, .int .u64 0, .int .u64 0, .int .u64 0, .int .u64 0, .int .u64 0] 29))
  have BA := Aside0.mk (blk_alloc (blk_new3 w (.cells (SV l) 29) (.cells #[.int .i64 kd, .int .u64 k, .int .u64 v, .int .i64 z] 39) (.cells #[.int .i64 e, .bool d, .int .u64 x] 35)) (.cells #[.int .i64 0, .int .u64 0, .int .u64 0, .int .u64 0, .int .u64 0, .int .u64 0, .int .u64 0, .int .u64 0, .int .u64 0, .int .u64 0, .int .u64 0, .int .u64 0, .int .u64 0, .int .u64 0, .int .u64 0, .int .u64 0, .int .u64 0, .int .u64 0, .int .u64 0, .int .u64 0, .int .u64 0, .int .u64 0, .int .u64 0, .int .u64 0, .int .u64 0, .int .u64 0, .int .u64 0, .int .u64 0, .int .u64 0, .int .u64 0, .int .u64 0, .int .u64 0, .int .u64 0] 29))
  have BZ := Aside0.mk (blk_new4 w (.cells (SV l) 29) (.cells #[.int .i64 kd, .int .u64 k, .int .u64 v, .int .i64 z] 39) (.cells #[.int .i64 e, .bool d, .int .u64 x] 35) (.cells #[.int .i64 0, .int .u64 0, .int .u64 0, .int .u64 0, .int .u64 0, .int .u64 0, .int .u64 0, .int .u64 0, .int .u64 0, .int .u64 0, .int .u64 0, .int .u64 0, .int .u64 0, .int .u64 0, .int .u64 0, .int .u64 0, .int .u64 0, .int .u64 0, .int .u64 0, .int .u64 0, .int .u64 0, .int .u64 0, .int .u64 0, .int .u64 0, .int .u64 0, .int .u64 0, .int .u64 0, .int .u64 0, .int .u64 0, .int .u64 0, .int .u64 0, .int .u64 0, .int .u64 0] 29))
  have B1 := Aside0.mk (below_alloc (below_alloc (below_alloc (below_alloc (Below.refl w.heap.size w) (.cells (SV l) 29)) (.cells #[.int .i64 kd, .int .u64 k, .int .u64 v, .int .i64 z] 39)) (.cells #[.int .i64 e, .bool d, .int .u64 x] 35)) (.cells #[.int .i64 0, .int .u64 0, .int .u64 0, .int .u64 0, .int .u64 0, .int .u64 0, .int .u64 0, .int .u64 0, .int .u64 0, .int .u64 0, .int .u64 0, .int .u64 0, .int .u64 0, .int .u64 0, .int .u64 0, .int .u64 0, .int .u64 0, .int .u64 0, .int .u64 0, .int .u64 0, .int .u64 0, .int .u64 0, .int .u64 0, .int .u64 0, .int .u64 0, .int .u64 0, .int .u64 0, .int .u64 0, .int .u64 0, .int .u64 0, .int .u64 0, .int .u64 0, .int .u64 0] 29))
  have SZ := Aside0.mk (show ((((w.alloc (.cells (SV l) 29)).alloc (.cells #[.int .i64 kd, .int .u64 k, .int .u64 v, .int .i64 z] 39)).alloc (.cells #[.int .i64 e, .bool d, .int .u64 x] 35)).alloc (.cells #[.int .i64 0, .int .u64 0, .int .u64 0, .int .u64 0, .int .u64 0, .int .u64 0, .int .u64 0, .int .u64 0, .int .u64 0, .int .u64 0, .int .u64 0, .int .u64 0, .int .u64 0, .int .u64 0, .int .u64 0, .int .u64 0, .int .u64 0, .int .u64 0, .int .u64 0, .int .u64 0, .int .u64 0, .int .u64 0, .int .u64 0, .int .u64 0, .int .u64 0, .int .u64 0, .int .u64 0, .int .u64 0, .int .u64 0, .int .u64 0, .int .u64 0, .int .u64 0, .int .u64 0] 29)).heap.size = w.heap.size + 4 by simp)
  go_enter Try.func18, Try.ntmps18
  go_wp2_with (first
    | (refine wpList_load_row rfl 39 (.tmp 4) rfl (w.heap.size + 1) rfl 39 #[.int .i64 kd, .int .u64 k, .int .u64 v, .int .i64 z] (0, 0) _ BO.out Try.underlying39 rfl (by kernel_rfl) ?_)
    | (refine wpList_load_row rfl 35 (.tmp 5) rfl (w.heap.size + 1 + 1) rfl 35 #[.int .i64 e, .bool d, .int .u64 x] (0, 0) _ BA.out Try.underlying35 rfl (by kernel_rfl) ?_))
  generalize ((((w.alloc (.cells (SV l) 29)).alloc (.cells #[.int .i64 kd, .int .u64 k, .int .u64 v, .int .i64 z] 39)).alloc (.cells #[.int .i64 e, .bool d, .int .u64 x] 35)).alloc (.cells #[.int .i64 0, .int .u64 0, .int .u64 0, .int .u64 0, .int .u64 0, .int .u64 0, .int .u64 0, .int .u64 0, .int .u64 0, .int .u64 0, .int .u64 0, .int .u64 0, .int .u64 0, .int .u64 0, .int .u64 0, .int .u64 0, .int .u64 0, .int .u64 0, .int .u64 0, .int .u64 0, .int .u64 0, .int .u64 0, .int .u64 0, .int .u64 0, .int .u64 0, .int .u64 0, .int .u64 0, .int .u64 0, .int .u64 0, .int .u64 0, .int .u64 0, .int .u64 0, .int .u64 0] 29)) = w1 at *
  refine (spec_isRefused.calls 1 kd k v z e d x _ _ HR.out).mono ?_
  rintro e_ w2 ⟨rfl, hb⟩
  have BK2 := Aside0.mk (blk_below BK.out hb)
  have BO2 := Aside0.mk (blk_below BO.out hb)
  have BA2 := Aside0.mk (blk_below BA.out hb)
  have BZ2 := Aside0.mk (blk_below BZ.out hb)
  have B2 := Aside0.mk (below_step B1.out hb)
  have S2 := Aside0.mk (show w.heap.size + 4 ≤ w2.heap.size by have := hb.size; have := SZ.out; omega)
  clear BK BO BA BZ B1 hb SZ
  go_wp2_with (first
    | (refine wpList_load_row rfl 29 (.tmp 3) rfl w.heap.size rfl 29 (SV l) (0, 0) _ BK2.out Try.underlying29 rfl (info29 l) ?_)
    | (refine wpList_load_row rfl 39 (.tmp 4) rfl (w.heap.size + 1) rfl 39 #[.int .i64 kd, .int .u64 k, .int .u64 v, .int .i64 z] (0, 0) _ BO2.out Try.underlying39 rfl (by kernel_rfl) ?_))
  refine (do_T l kd k v z _ HL.out).mono ?_
  rintro e_ w3 ⟨rfl, hb⟩
  rw [HD.out]
  have BO3 := Aside0.mk (blk_alloc (blk_alloc (blk_below BO2.out hb) (.cells #[.int .i64 0, .int .u64 0, .int .u64 0, .int .u64 0, .int .u64 0, .int .u64 0, .int .u64 0, .int .u64 0, .int .u64 0, .int .u64 0, .int .u64 0, .int .u64 0, .int .u64 0, .int .u64 0, .int .u64 0, .int .u64 0, .int .u64 0, .int .u64 0, .int .u64 0, .int .u64 0, .int .u64 0, .int .u64 0, .int .u64 0, .int .u64 0, .int .u64 0, .int .u64 0, .int .u64 0, .int .u64 0, .int .u64 0, .int .u64 0, .int .u64 0, .int .u64 0, .int .u64 0] 29)) (.cells #[.int .i64 0, .bool false, .int .u64 0] 35))
  have BA3 := Aside0.mk (blk_alloc (blk_alloc (blk_below BA2.out hb) (.cells #[.int .i64 0, .int .u64 0, .int .u64 0, .int .u64 0, .int .u64 0, .int .u64 0, .int .u64 0, .int .u64 0, .int .u64 0, .int .u64 0, .int .u64 0, .int .u64 0, .int .u64 0, .int .u64 0, .int .u64 0, .int .u64 0, .int .u64 0, .int .u64 0, .int .u64 0, .int .u64 0, .int .u64 0, .int .u64 0, .int .u64 0, .int .u64 0, .int .u64 0, .int .u64 0, .int .u64 0, .int .u64 0, .int .u64 0, .int .u64 0, .int .u64 0, .int .u64 0, .int .u64 0] 29)) (.cells #[.int .i64 0, .bool false, .int .u64 0] 35))
  have BZ3 := Aside0.mk (blk_alloc (blk_alloc (blk_below BZ2.out hb) (.cells #[.int .i64 0, .int .u64 0, .int .u64 0, .int .u64 0, .int .u64 0, .int .u64 0, .int .u64 0, .int .u64 0, .int .u64 0, .int .u64 0, .int .u64 0, .int .u64 0, .int .u64 0, .int .u64 0, .int .u64 0, .int .u64 0, .int .u64 0, .int .u64 0, .int .u64 0, .int .u64 0, .int .u64 0, .int .u64 0, .int .u64 0, .int .u64 0, .int .u64 0, .int .u64 0, .int .u64 0, .int .u64 0, .int .u64 0, .int .u64 0, .int .u64 0, .int .u64 0, .int .u64 0] 29)) (.cells #[.int .i64 0, .bool false, .int .u64 0] 35))
  have BN3 := Aside0.mk (blk_alloc (blk_new w3 (.cells #[.int .i64 0, .int .u64 0, .int .u64 0, .int .u64 0, .int .u64 0, .int .u64 0, .int .u64 0, .int .u64 0, .int .u64 0, .int .u64 0, .int .u64 0, .int .u64 0, .int .u64 0, .int .u64 0, .int .u64 0, .int .u64 0, .int .u64 0, .int .u64 0, .int .u64 0, .int .u64 0, .int .u64 0, .int .u64 0, .int .u64 0, .int .u64 0, .int .u64 0, .int .u64 0, .int .u64 0, .int .u64 0, .int .u64 0, .int .u64 0, .int .u64 0, .int .u64 0, .int .u64 0] 29)) (.cells #[.int .i64 0, .bool false, .int .u64 0] 35))
  have BW3 := Aside0.mk (blk_new2 w3 (.cells #[.int .i64 0, .int .u64 0, .int .u64 0, .int .u64 0, .int .u64 0, .int .u64 0, .int .u64 0, .int .u64 0, .int .u64 0, .int .u64 0, .int .u64 0, .int .u64 0, .int .u64 0, .int .u64 0, .int .u64 0, .int .u64 0, .int .u64 0, .int .u64 0, .int .u64 0, .int .u64 0, .int .u64 0, .int .u64 0, .int .u64 0, .int .u64 0, .int .u64 0, .int .u64 0, .int .u64 0, .int .u64 0, .int .u64 0, .int .u64 0, .int .u64 0, .int .u64 0, .int .u64 0] 29) (.cells #[.int .i64 0, .bool false, .int .u64 0] 35))
  have B3 := Aside0.mk (below_alloc (below_alloc (below_step B2.out hb) (.cells #[.int .i64 0, .int .u64 0, .int .u64 0, .int .u64 0, .int .u64 0, .int .u64 0, .int .u64 0, .int .u64 0, .int .u64 0, .int .u64 0, .int .u64 0, .int .u64 0, .int .u64 0, .int .u64 0, .int .u64 0, .int .u64 0, .int .u64 0, .int .u64 0, .int .u64 0, .int .u64 0, .int .u64 0, .int .u64 0, .int .u64 0, .int .u64 0, .int .u64 0, .int .u64 0, .int .u64 0, .int .u64 0, .int .u64 0, .int .u64 0, .int .u64 0, .int .u64 0, .int .u64 0] 29)) (.cells #[.int .i64 0, .bool false, .int .u64 0] 35))
  have S3 := Aside0.mk (show w.heap.size + 4 ≤ w3.heap.size by have := hb.size; have := S2.out; omega)
  clear BK2 BO2 BA2 BZ2 B2 S2 hb
  go_wp2_with (first
    | (refine store_whole (w := w) (B := w.heap.size) rfl rfl 29 (.tmp 8) (.tmp 19) rfl (g := w3.heap.size) (cs := SV m) rfl _ rfl rfl (stot _) (SV_one _) BN3.out (by rw [SV_size]; rfl) (by have := S3.out; omega) B3.out ?_; intro w4 h1 h2 h3 h4; have BN4 := Aside0.mk h1; have B4 := Aside0.mk h2; have BO4 := Aside0.mk ((h3 _ (by have := S3.out; omega)).trans BO3.out); have BA4 := Aside0.mk ((h3 _ (by have := S3.out; omega)).trans BA3.out); have BZ4 := Aside0.mk ((h3 _ (by have := S3.out; omega)).trans BZ3.out); have BW4 := Aside0.mk ((h3 _ (by have := S3.out; omega)).trans BW3.out); clear h1 h2 h3 h4 BN3 B3 BO3 BA3 BZ3 BW3)
    | (refine store_whole (w := w) (B := w.heap.size) rfl rfl 35 (.tmp 9) (.tmp 20) rfl (g := w3.heap.size + 1) (cs := #[.int .i64 e2, .bool d2, .int .u64 x2]) rfl _ rfl rfl (by kernel_rfl) (by simp [Value.oneCell']) BW4.out rfl (by have := S3.out; omega) B4.out ?_; intro w5 h1 h2 h3 h4; have BW5 := Aside0.mk h1; have B5 := Aside0.mk h2; have BO5 := Aside0.mk ((h3 _ (by have := S3.out; omega)).trans BO4.out); have BA5 := Aside0.mk ((h3 _ (by have := S3.out; omega)).trans BA4.out); have BZ5 := Aside0.mk ((h3 _ (by have := S3.out; omega)).trans BZ4.out); have BN5 := Aside0.mk ((h3 _ (by have := S3.out; omega)).trans BN4.out); clear h1 h2 h3 h4 BN4 B4 BO4 BA4 BZ4 BW4; have o0 : w5.cell? ⟨w.heap.size + 1, 0, none⟩ = some (.int .i64 kd) := (blk_cell BO5.out 0).trans rfl)
    | (refine wpList_load_row_g (by rfl) 35 (.tmp 5) rfl (w.heap.size + 1 + 1) rfl 35 #[.int .i64 e, .bool d, .int .u64 x] (0, 0) _ BA5.out Try.underlying35 rfl (by kernel_rfl) ?_)
    | (refine wpList_load_row_g (by rfl) 35 (.tmp 9) rfl (w3.heap.size + 1) rfl 35 #[.int .i64 e2, .bool d2, .int .u64 x2] (0, 0) _ BW5.out Try.underlying35 rfl (by kernel_rfl) ?_)
    | (refine wpList_load_row rfl 29 (.tmp 8) rfl w3.heap.size rfl 29 (SV m) (0, 0) _ BN5.out Try.underlying29 rfl (info29 _) ?_)
    | (refine store_whole (w := w) (B := w.heap.size) rfl rfl 29 (.tmp 6) (.tmp 35) rfl (g := w.heap.size + 1 + 1 + 1) (cs := SV []) rfl _ rfl rfl (stot _) (SV_one _) BZ5.out (by rw [SV_size]; rfl) (by omega) B5.out ?_; intro w9 h1 h2 h3 h4; have BZ9 := Aside0.mk h1; have B9 := Aside0.mk h2; clear h1 h2 h3 h4))
  exact bodyPost_ret (results_cell2 rfl _ _ (w.heap.size + 1 + 1 + 1) 29 (SV []) (0, 0) _ rfl BZ9.out Try.underlying29 rfl (info29 _) rfl) rfl ⟨rfl, B9.out⟩
set_option maxHeartbeats 8000000 in
set_option maxRecDepth 100000 in
theorem may8t_T (l : List S26) (kd k v z e : Int) (d : Bool) (x : Int) (m : List S26) (e2 : Int) (d2 : Bool) (x2 c : Int) (w : World) (hl : l.length ≤ 16) (hr : spec_isRefused.f 1 kd k v z e d x = some false) (hD : doV l kd k v = (m, (e2, d2, x2), c)) (h8 : kd = 8) (hc : c = 0) (hq : decide ((e, d, x) = (e2, d2, x)) = true) :
    Calls Try.prog 18 #[.agg (SV l), .agg #[.int .i64 kd, .int .u64 k, .int .u64 v, .int .i64 z], .agg #[.int .i64 e, .bool d, .int .u64 x]] w fun e_ w' => e_ = .returned (.tuple #[.agg (SV m), .bool true]) ∧ Below w.heap.size w w' := by
  have hu29 := Try.underlying29
  have hu39 := Try.underlying39
  have hu35 := Try.underlying35
  have HL := Aside0.mk hl
  clear hl
  have HR := Aside0.mk hr
  have HD := Aside0.mk hD
  clear hr hD
  subst h8
  subst hc
  have HQ := Aside0.mk hq
  clear hq
  have BK := Aside0.mk (blk_alloc (blk_alloc (blk_alloc (blk_new w (.cells (SV l) 29)) (.cells #[.int .i64 8, .int .u64 k, .int .u64 v, .int .i64 z] 39)) (.cells #[.int .i64 e, .bool d, .int .u64 x] 35)) (.cells #[.int .i64 0, .int .u64 0, .int .u64 0, .int .u64 0, .int .u64 0, .int .u64 0, .int .u64 0, .int .u64 0, .int .u64 0, .int .u64 0, .int .u64 0, .int .u64 0, .int .u64 0, .int .u64 0, .int .u64 0, .int .u64 0, .int .u64 0, .int .u64 0, .int .u64 0, .int .u64 0, .int .u64 0, .int .u64 0, .int .u64 0, .int .u64 0, .int .u64 0, .int .u64 0, .int .u64 0, .int .u64 0, .int .u64 0, .int .u64 0, .int .u64 0, .int .u64 0, .int .u64 0] 29))
  have BO := Aside0.mk (blk_alloc (blk_alloc (blk_new2 w (.cells (SV l) 29) (.cells #[.int .i64 8, .int .u64 k, .int .u64 v, .int .i64 z] 39)) (.cells #[.int .i64 e, .bool d, .int .u64 x] 35)) (.cells #[.int .i64 0, .int .u64 0, .int .u64 0, .int .u64 0, .int .u64 0, .int .u64 0, .int .u64 0, .int .u64 0, .int .u64 0, .int .u64 0, .int .u64 0, .int .u64 0, .int .u64 0, .int .u64 0, .int .u64 0, .int .u64 0, .int .u64 0, .int .u64 0, .int .u64 0, .int .u64 0, .int .u64 0, .int .u64 0, .int .u64 0, .int .u64 0, .int .u64 0, .int .u64 0, .int .u64 0, .int .u64 0, .int .u64 0, .int .u64 0, .int .u64 0, .int .u64 0, .int .u64 0] 29))
  have BA := Aside0.mk (blk_alloc (blk_new3 w (.cells (SV l) 29) (.cells #[.int .i64 8, .int .u64 k, .int .u64 v, .int .i64 z] 39) (.cells #[.int .i64 e, .bool d, .int .u64 x] 35)) (.cells #[.int .i64 0, .int .u64 0, .int .u64 0, .int .u64 0, .int .u64 0, .int .u64 0, .int .u64 0, .int .u64 0, .int .u64 0, .int .u64 0, .int .u64 0, .int .u64 0, .int .u64 0, .int .u64 0, .int .u64 0, .int .u64 0, .int .u64 0, .int .u64 0, .int .u64 0, .int .u64 0, .int .u64 0, .int .u64 0, .int .u64 0, .int .u64 0, .int .u64 0, .int .u64 0, .int .u64 0, .int .u64 0, .int .u64 0, .int .u64 0, .int .u64 0, .int .u64 0, .int .u64 0] 29))
  have BZ := Aside0.mk (blk_new4 w (.cells (SV l) 29) (.cells #[.int .i64 8, .int .u64 k, .int .u64 v, .int .i64 z] 39) (.cells #[.int .i64 e, .bool d, .int .u64 x] 35) (.cells #[.int .i64 0, .int .u64 0, .int .u64 0, .int .u64 0, .int .u64 0, .int .u64 0, .int .u64 0, .int .u64 0, .int .u64 0, .int .u64 0, .int .u64 0, .int .u64 0, .int .u64 0, .int .u64 0, .int .u64 0, .int .u64 0, .int .u64 0, .int .u64 0, .int .u64 0, .int .u64 0, .int .u64 0, .int .u64 0, .int .u64 0, .int .u64 0, .int .u64 0, .int .u64 0, .int .u64 0, .int .u64 0, .int .u64 0, .int .u64 0, .int .u64 0, .int .u64 0, .int .u64 0] 29))
  have B1 := Aside0.mk (below_alloc (below_alloc (below_alloc (below_alloc (Below.refl w.heap.size w) (.cells (SV l) 29)) (.cells #[.int .i64 8, .int .u64 k, .int .u64 v, .int .i64 z] 39)) (.cells #[.int .i64 e, .bool d, .int .u64 x] 35)) (.cells #[.int .i64 0, .int .u64 0, .int .u64 0, .int .u64 0, .int .u64 0, .int .u64 0, .int .u64 0, .int .u64 0, .int .u64 0, .int .u64 0, .int .u64 0, .int .u64 0, .int .u64 0, .int .u64 0, .int .u64 0, .int .u64 0, .int .u64 0, .int .u64 0, .int .u64 0, .int .u64 0, .int .u64 0, .int .u64 0, .int .u64 0, .int .u64 0, .int .u64 0, .int .u64 0, .int .u64 0, .int .u64 0, .int .u64 0, .int .u64 0, .int .u64 0, .int .u64 0, .int .u64 0] 29))
  have SZ := Aside0.mk (show ((((w.alloc (.cells (SV l) 29)).alloc (.cells #[.int .i64 8, .int .u64 k, .int .u64 v, .int .i64 z] 39)).alloc (.cells #[.int .i64 e, .bool d, .int .u64 x] 35)).alloc (.cells #[.int .i64 0, .int .u64 0, .int .u64 0, .int .u64 0, .int .u64 0, .int .u64 0, .int .u64 0, .int .u64 0, .int .u64 0, .int .u64 0, .int .u64 0, .int .u64 0, .int .u64 0, .int .u64 0, .int .u64 0, .int .u64 0, .int .u64 0, .int .u64 0, .int .u64 0, .int .u64 0, .int .u64 0, .int .u64 0, .int .u64 0, .int .u64 0, .int .u64 0, .int .u64 0, .int .u64 0, .int .u64 0, .int .u64 0, .int .u64 0, .int .u64 0, .int .u64 0, .int .u64 0] 29)).heap.size = w.heap.size + 4 by simp)
  go_enter Try.func18, Try.ntmps18
  go_wp2_with (first
    | (refine wpList_load_row rfl 39 (.tmp 4) rfl (w.heap.size + 1) rfl 39 #[.int .i64 8, .int .u64 k, .int .u64 v, .int .i64 z] (0, 0) _ BO.out Try.underlying39 rfl (by kernel_rfl) ?_)
    | (refine wpList_load_row rfl 35 (.tmp 5) rfl (w.heap.size + 1 + 1) rfl 35 #[.int .i64 e, .bool d, .int .u64 x] (0, 0) _ BA.out Try.underlying35 rfl (by kernel_rfl) ?_))
  generalize ((((w.alloc (.cells (SV l) 29)).alloc (.cells #[.int .i64 8, .int .u64 k, .int .u64 v, .int .i64 z] 39)).alloc (.cells #[.int .i64 e, .bool d, .int .u64 x] 35)).alloc (.cells #[.int .i64 0, .int .u64 0, .int .u64 0, .int .u64 0, .int .u64 0, .int .u64 0, .int .u64 0, .int .u64 0, .int .u64 0, .int .u64 0, .int .u64 0, .int .u64 0, .int .u64 0, .int .u64 0, .int .u64 0, .int .u64 0, .int .u64 0, .int .u64 0, .int .u64 0, .int .u64 0, .int .u64 0, .int .u64 0, .int .u64 0, .int .u64 0, .int .u64 0, .int .u64 0, .int .u64 0, .int .u64 0, .int .u64 0, .int .u64 0, .int .u64 0, .int .u64 0, .int .u64 0] 29)) = w1 at *
  refine (spec_isRefused.calls 1 8 k v z e d x _ _ HR.out).mono ?_
  rintro e_ w2 ⟨rfl, hb⟩
  have BK2 := Aside0.mk (blk_below BK.out hb)
  have BO2 := Aside0.mk (blk_below BO.out hb)
  have BA2 := Aside0.mk (blk_below BA.out hb)
  have BZ2 := Aside0.mk (blk_below BZ.out hb)
  have B2 := Aside0.mk (below_step B1.out hb)
  have S2 := Aside0.mk (show w.heap.size + 4 ≤ w2.heap.size by have := hb.size; have := SZ.out; omega)
  clear BK BO BA BZ B1 hb SZ
  go_wp2_with (first
    | (refine wpList_load_row rfl 29 (.tmp 3) rfl w.heap.size rfl 29 (SV l) (0, 0) _ BK2.out Try.underlying29 rfl (info29 l) ?_)
    | (refine wpList_load_row rfl 39 (.tmp 4) rfl (w.heap.size + 1) rfl 39 #[.int .i64 8, .int .u64 k, .int .u64 v, .int .i64 z] (0, 0) _ BO2.out Try.underlying39 rfl (by kernel_rfl) ?_))
  refine (do_T l 8 k v z _ HL.out).mono ?_
  rintro e_ w3 ⟨rfl, hb⟩
  rw [HD.out]
  have BO3 := Aside0.mk (blk_alloc (blk_alloc (blk_below BO2.out hb) (.cells #[.int .i64 0, .int .u64 0, .int .u64 0, .int .u64 0, .int .u64 0, .int .u64 0, .int .u64 0, .int .u64 0, .int .u64 0, .int .u64 0, .int .u64 0, .int .u64 0, .int .u64 0, .int .u64 0, .int .u64 0, .int .u64 0, .int .u64 0, .int .u64 0, .int .u64 0, .int .u64 0, .int .u64 0, .int .u64 0, .int .u64 0, .int .u64 0, .int .u64 0, .int .u64 0, .int .u64 0, .int .u64 0, .int .u64 0, .int .u64 0, .int .u64 0, .int .u64 0, .int .u64 0] 29)) (.cells #[.int .i64 0, .bool false, .int .u64 0] 35))
  have BA3 := Aside0.mk (blk_alloc (blk_alloc (blk_below BA2.out hb) (.cells #[.int .i64 0, .int .u64 0, .int .u64 0, .int .u64 0, .int .u64 0, .int .u64 0, .int .u64 0, .int .u64 0, .int .u64 0, .int .u64 0, .int .u64 0, .int .u64 0, .int .u64 0, .int .u64 0, .int .u64 0, .int .u64 0, .int .u64 0, .int .u64 0, .int .u64 0, .int .u64 0, .int .u64 0, .int .u64 0, .int .u64 0, .int .u64 0, .int .u64 0, .int .u64 0, .int .u64 0, .int .u64 0, .int .u64 0, .int .u64 0, .int .u64 0, .int .u64 0, .int .u64 0] 29)) (.cells #[.int .i64 0, .bool false, .int .u64 0] 35))
  have BZ3 := Aside0.mk (blk_alloc (blk_alloc (blk_below BZ2.out hb) (.cells #[.int .i64 0, .int .u64 0, .int .u64 0, .int .u64 0, .int .u64 0, .int .u64 0, .int .u64 0, .int .u64 0, .int .u64 0, .int .u64 0, .int .u64 0, .int .u64 0, .int .u64 0, .int .u64 0, .int .u64 0, .int .u64 0, .int .u64 0, .int .u64 0, .int .u64 0, .int .u64 0, .int .u64 0, .int .u64 0, .int .u64 0, .int .u64 0, .int .u64 0, .int .u64 0, .int .u64 0, .int .u64 0, .int .u64 0, .int .u64 0, .int .u64 0, .int .u64 0, .int .u64 0] 29)) (.cells #[.int .i64 0, .bool false, .int .u64 0] 35))
  have BN3 := Aside0.mk (blk_alloc (blk_new w3 (.cells #[.int .i64 0, .int .u64 0, .int .u64 0, .int .u64 0, .int .u64 0, .int .u64 0, .int .u64 0, .int .u64 0, .int .u64 0, .int .u64 0, .int .u64 0, .int .u64 0, .int .u64 0, .int .u64 0, .int .u64 0, .int .u64 0, .int .u64 0, .int .u64 0, .int .u64 0, .int .u64 0, .int .u64 0, .int .u64 0, .int .u64 0, .int .u64 0, .int .u64 0, .int .u64 0, .int .u64 0, .int .u64 0, .int .u64 0, .int .u64 0, .int .u64 0, .int .u64 0, .int .u64 0] 29)) (.cells #[.int .i64 0, .bool false, .int .u64 0] 35))
  have BW3 := Aside0.mk (blk_new2 w3 (.cells #[.int .i64 0, .int .u64 0, .int .u64 0, .int .u64 0, .int .u64 0, .int .u64 0, .int .u64 0, .int .u64 0, .int .u64 0, .int .u64 0, .int .u64 0, .int .u64 0, .int .u64 0, .int .u64 0, .int .u64 0, .int .u64 0, .int .u64 0, .int .u64 0, .int .u64 0, .int .u64 0, .int .u64 0, .int .u64 0, .int .u64 0, .int .u64 0, .int .u64 0, .int .u64 0, .int .u64 0, .int .u64 0, .int .u64 0, .int .u64 0, .int .u64 0, .int .u64 0, .int .u64 0] 29) (.cells #[.int .i64 0, .bool false, .int .u64 0] 35))
  have B3 := Aside0.mk (below_alloc (below_alloc (below_step B2.out hb) (.cells #[.int .i64 0, .int .u64 0, .int .u64 0, .int .u64 0, .int .u64 0, .int .u64 0, .int .u64 0, .int .u64 0, .int .u64 0, .int .u64 0, .int .u64 0, .int .u64 0, .int .u64 0, .int .u64 0, .int .u64 0, .int .u64 0, .int .u64 0, .int .u64 0, .int .u64 0, .int .u64 0, .int .u64 0, .int .u64 0, .int .u64 0, .int .u64 0, .int .u64 0, .int .u64 0, .int .u64 0, .int .u64 0, .int .u64 0, .int .u64 0, .int .u64 0, .int .u64 0, .int .u64 0] 29)) (.cells #[.int .i64 0, .bool false, .int .u64 0] 35))
  have S3 := Aside0.mk (show w.heap.size + 4 ≤ w3.heap.size by have := hb.size; have := S2.out; omega)
  clear BK2 BO2 BA2 BZ2 B2 S2 hb
  go_wp2_with (first
    | (refine store_whole (w := w) (B := w.heap.size) rfl rfl 29 (.tmp 8) (.tmp 19) rfl (g := w3.heap.size) (cs := SV m) rfl _ rfl rfl (stot _) (SV_one _) BN3.out (by rw [SV_size]; rfl) (by have := S3.out; omega) B3.out ?_; intro w4 h1 h2 h3 h4; have BN4 := Aside0.mk h1; have B4 := Aside0.mk h2; have BO4 := Aside0.mk ((h3 _ (by have := S3.out; omega)).trans BO3.out); have BA4 := Aside0.mk ((h3 _ (by have := S3.out; omega)).trans BA3.out); have BZ4 := Aside0.mk ((h3 _ (by have := S3.out; omega)).trans BZ3.out); have BW4 := Aside0.mk ((h3 _ (by have := S3.out; omega)).trans BW3.out); clear h1 h2 h3 h4 BN3 B3 BO3 BA3 BZ3 BW3)
    | (refine store_whole (w := w) (B := w.heap.size) rfl rfl 35 (.tmp 9) (.tmp 20) rfl (g := w3.heap.size + 1) (cs := #[.int .i64 e2, .bool d2, .int .u64 x2]) rfl _ rfl rfl (by kernel_rfl) (by simp [Value.oneCell']) BW4.out rfl (by have := S3.out; omega) B4.out ?_; intro w5 h1 h2 h3 h4; have BW5 := Aside0.mk h1; have B5 := Aside0.mk h2; have BO5 := Aside0.mk ((h3 _ (by have := S3.out; omega)).trans BO4.out); have BA5 := Aside0.mk ((h3 _ (by have := S3.out; omega)).trans BA4.out); have BZ5 := Aside0.mk ((h3 _ (by have := S3.out; omega)).trans BZ4.out); have BN5 := Aside0.mk ((h3 _ (by have := S3.out; omega)).trans BN4.out); clear h1 h2 h3 h4 BN4 B4 BO4 BA4 BZ4 BW4; have o0 : w5.cell? ⟨w.heap.size + 1, 0, none⟩ = some (.int .i64 8) := (blk_cell BO5.out 0).trans rfl; have a2 : w5.cell? ⟨w.heap.size + 1 + 1, 2, none⟩ = some (.int .u64 x) := (blk_cell BA5.out 2).trans rfl; have c2 : w5.cell? ⟨w3.heap.size + 1, 2, none⟩ = some (.int .u64 x2) := (blk_cell BW5.out 2).trans rfl; have f2 := blk_frozen BW5.out 2; have BW6 := Aside0.mk (blk_put BW5.out 2 (.int .u64 x) (cs' := #[.int .i64 e2, .bool d2, .int .u64 x]) rfl); have NA := Aside0.mk (show w.heap.size + 1 + 1 ≠ w3.heap.size + 1 by have := S3.out; omega); have NZ := Aside0.mk (show w.heap.size + 1 + 1 + 1 ≠ w3.heap.size + 1 by have := S3.out; omega); have NN := Aside0.mk (show w3.heap.size ≠ w3.heap.size + 1 by omega); have BA6 := Aside0.mk (blk_far BA5.out (p := ⟨w3.heap.size + 1, 2, none⟩) NA.out (.int .u64 x)); have BZ6 := Aside0.mk (blk_far BZ5.out (p := ⟨w3.heap.size + 1, 2, none⟩) NZ.out (.int .u64 x)); have BN6 := Aside0.mk (blk_far BN5.out (p := ⟨w3.heap.size + 1, 2, none⟩) NN.out (.int .u64 x)); have B6 := Aside0.mk (below_set B5.out (g := w3.heap.size + 1) (j := 2) (v := .int .u64 x) (by have := S3.out; omega)))
    | (refine wpList_load_row_g (by rfl) 35 (.tmp 5) rfl (w.heap.size + 1 + 1) rfl 35 #[.int .i64 e, .bool d, .int .u64 x] (0, 0) _ BA6.out Try.underlying35 rfl (by kernel_rfl) ?_)
    | (refine wpList_load_row_g (by rfl) 35 (.tmp 9) rfl (w3.heap.size + 1) rfl 35 #[.int .i64 e2, .bool d2, .int .u64 x] (0, 0) _ BW6.out Try.underlying35 rfl (by kernel_rfl) ?_)
    | (refine wpList_value_g (by rfl) (exec_neq35 (.tmp 31) (.tmp 32) rfl e x e2 x d d2 rfl rfl false HQ.out) ?_)
    | (refine wpList_load_row rfl 29 (.tmp 8) rfl w3.heap.size rfl 29 (SV m) (0, 0) _ BN6.out Try.underlying29 rfl (info29 _) ?_)
    | (refine store_whole (w := w) (B := w.heap.size) rfl rfl 29 (.tmp 6) (.tmp 36) rfl (g := w.heap.size + 1 + 1 + 1) (cs := SV m) rfl _ rfl rfl (stot _) (SV_one _) BZ6.out (by rw [SV_size]; rfl) (by omega) B6.out ?_; intro w9 h1 h2 h3 h4; have BZ9 := Aside0.mk h1; have B9 := Aside0.mk h2; clear h1 h2 h3 h4))
  exact bodyPost_ret (results_cell2 rfl _ _ (w.heap.size + 1 + 1 + 1) 29 (SV m) (0, 0) _ rfl BZ9.out Try.underlying29 rfl (info29 _) rfl) rfl ⟨rfl, B9.out⟩
set_option maxHeartbeats 8000000 in
set_option maxRecDepth 100000 in
theorem mayt_T (l : List S26) (kd k v z e : Int) (d : Bool) (x : Int) (m : List S26) (e2 : Int) (d2 : Bool) (x2 c : Int) (w : World) (hl : l.length ≤ 16) (hr : spec_isRefused.f 1 kd k v z e d x = some false) (hD : doV l kd k v = (m, (e2, d2, x2), c)) (h8 : kd ≠ 8) (hc : c = 0) (hq : decide ((e, d, x) = (e2, d2, x2)) = true) :
    Calls Try.prog 18 #[.agg (SV l), .agg #[.int .i64 kd, .int .u64 k, .int .u64 v, .int .i64 z], .agg #[.int .i64 e, .bool d, .int .u64 x]] w fun e_ w' => e_ = .returned (.tuple #[.agg (SV m), .bool true]) ∧ Below w.heap.size w w' := by
  have hu29 := Try.underlying29
  have hu39 := Try.underlying39
  have hu35 := Try.underlying35
  have HL := Aside0.mk hl
  clear hl
  have HR := Aside0.mk hr
  have HD := Aside0.mk hD
  clear hr hD
  have t8 := eq_false h8
  have t8b : (kd == 8) = false := beq_eq_false_iff_ne.2 h8
  clear h8
  subst hc
  have HQ := Aside0.mk hq
  clear hq
  have BK := Aside0.mk (blk_alloc (blk_alloc (blk_alloc (blk_new w (.cells (SV l) 29)) (.cells #[.int .i64 kd, .int .u64 k, .int .u64 v, .int .i64 z] 39)) (.cells #[.int .i64 e, .bool d, .int .u64 x] 35)) (.cells #[.int .i64 0, .int .u64 0, .int .u64 0, .int .u64 0, .int .u64 0, .int .u64 0, .int .u64 0, .int .u64 0, .int .u64 0, .int .u64 0, .int .u64 0, .int .u64 0, .int .u64 0, .int .u64 0, .int .u64 0, .int .u64 0, .int .u64 0, .int .u64 0, .int .u64 0, .int .u64 0, .int .u64 0, .int .u64 0, .int .u64 0, .int .u64 0, .int .u64 0, .int .u64 0, .int .u64 0, .int .u64 0, .int .u64 0, .int .u64 0, .int .u64 0, .int .u64 0, .int .u64 0] 29))
  have BO := Aside0.mk (blk_alloc (blk_alloc (blk_new2 w (.cells (SV l) 29) (.cells #[.int .i64 kd, .int .u64 k, .int .u64 v, .int .i64 z] 39)) (.cells #[.int .i64 e, .bool d, .int .u64 x] 35)) (.cells #[.int .i64 0, .int .u64 0, .int .u64 0, .int .u64 0, .int .u64 0, .int .u64 0, .int .u64 0, .int .u64 0, .int .u64 0, .int .u64 0, .int .u64 0, .int .u64 0, .int .u64 0, .int .u64 0, .int .u64 0, .int .u64 0, .int .u64 0, .int .u64 0, .int .u64 0, .int .u64 0, .int .u64 0, .int .u64 0, .int .u64 0, .int .u64 0, .int .u64 0, .int .u64 0, .int .u64 0, .int .u64 0, .int .u64 0, .int .u64 0, .int .u64 0, .int .u64 0, .int .u64 0] 29))
  have BA := Aside0.mk (blk_alloc (blk_new3 w (.cells (SV l) 29) (.cells #[.int .i64 kd, .int .u64 k, .int .u64 v, .int .i64 z] 39) (.cells #[.int .i64 e, .bool d, .int .u64 x] 35)) (.cells #[.int .i64 0, .int .u64 0, .int .u64 0, .int .u64 0, .int .u64 0, .int .u64 0, .int .u64 0, .int .u64 0, .int .u64 0, .int .u64 0, .int .u64 0, .int .u64 0, .int .u64 0, .int .u64 0, .int .u64 0, .int .u64 0, .int .u64 0, .int .u64 0, .int .u64 0, .int .u64 0, .int .u64 0, .int .u64 0, .int .u64 0, .int .u64 0, .int .u64 0, .int .u64 0, .int .u64 0, .int .u64 0, .int .u64 0, .int .u64 0, .int .u64 0, .int .u64 0, .int .u64 0] 29))
  have BZ := Aside0.mk (blk_new4 w (.cells (SV l) 29) (.cells #[.int .i64 kd, .int .u64 k, .int .u64 v, .int .i64 z] 39) (.cells #[.int .i64 e, .bool d, .int .u64 x] 35) (.cells #[.int .i64 0, .int .u64 0, .int .u64 0, .int .u64 0, .int .u64 0, .int .u64 0, .int .u64 0, .int .u64 0, .int .u64 0, .int .u64 0, .int .u64 0, .int .u64 0, .int .u64 0, .int .u64 0, .int .u64 0, .int .u64 0, .int .u64 0, .int .u64 0, .int .u64 0, .int .u64 0, .int .u64 0, .int .u64 0, .int .u64 0, .int .u64 0, .int .u64 0, .int .u64 0, .int .u64 0, .int .u64 0, .int .u64 0, .int .u64 0, .int .u64 0, .int .u64 0, .int .u64 0] 29))
  have B1 := Aside0.mk (below_alloc (below_alloc (below_alloc (below_alloc (Below.refl w.heap.size w) (.cells (SV l) 29)) (.cells #[.int .i64 kd, .int .u64 k, .int .u64 v, .int .i64 z] 39)) (.cells #[.int .i64 e, .bool d, .int .u64 x] 35)) (.cells #[.int .i64 0, .int .u64 0, .int .u64 0, .int .u64 0, .int .u64 0, .int .u64 0, .int .u64 0, .int .u64 0, .int .u64 0, .int .u64 0, .int .u64 0, .int .u64 0, .int .u64 0, .int .u64 0, .int .u64 0, .int .u64 0, .int .u64 0, .int .u64 0, .int .u64 0, .int .u64 0, .int .u64 0, .int .u64 0, .int .u64 0, .int .u64 0, .int .u64 0, .int .u64 0, .int .u64 0, .int .u64 0, .int .u64 0, .int .u64 0, .int .u64 0, .int .u64 0, .int .u64 0] 29))
  have SZ := Aside0.mk (show ((((w.alloc (.cells (SV l) 29)).alloc (.cells #[.int .i64 kd, .int .u64 k, .int .u64 v, .int .i64 z] 39)).alloc (.cells #[.int .i64 e, .bool d, .int .u64 x] 35)).alloc (.cells #[.int .i64 0, .int .u64 0, .int .u64 0, .int .u64 0, .int .u64 0, .int .u64 0, .int .u64 0, .int .u64 0, .int .u64 0, .int .u64 0, .int .u64 0, .int .u64 0, .int .u64 0, .int .u64 0, .int .u64 0, .int .u64 0, .int .u64 0, .int .u64 0, .int .u64 0, .int .u64 0, .int .u64 0, .int .u64 0, .int .u64 0, .int .u64 0, .int .u64 0, .int .u64 0, .int .u64 0, .int .u64 0, .int .u64 0, .int .u64 0, .int .u64 0, .int .u64 0, .int .u64 0] 29)).heap.size = w.heap.size + 4 by simp)
  go_enter Try.func18, Try.ntmps18
  go_wp2_with (first
    | (refine wpList_load_row rfl 39 (.tmp 4) rfl (w.heap.size + 1) rfl 39 #[.int .i64 kd, .int .u64 k, .int .u64 v, .int .i64 z] (0, 0) _ BO.out Try.underlying39 rfl (by kernel_rfl) ?_)
    | (refine wpList_load_row rfl 35 (.tmp 5) rfl (w.heap.size + 1 + 1) rfl 35 #[.int .i64 e, .bool d, .int .u64 x] (0, 0) _ BA.out Try.underlying35 rfl (by kernel_rfl) ?_))
  generalize ((((w.alloc (.cells (SV l) 29)).alloc (.cells #[.int .i64 kd, .int .u64 k, .int .u64 v, .int .i64 z] 39)).alloc (.cells #[.int .i64 e, .bool d, .int .u64 x] 35)).alloc (.cells #[.int .i64 0, .int .u64 0, .int .u64 0, .int .u64 0, .int .u64 0, .int .u64 0, .int .u64 0, .int .u64 0, .int .u64 0, .int .u64 0, .int .u64 0, .int .u64 0, .int .u64 0, .int .u64 0, .int .u64 0, .int .u64 0, .int .u64 0, .int .u64 0, .int .u64 0, .int .u64 0, .int .u64 0, .int .u64 0, .int .u64 0, .int .u64 0, .int .u64 0, .int .u64 0, .int .u64 0, .int .u64 0, .int .u64 0, .int .u64 0, .int .u64 0, .int .u64 0, .int .u64 0] 29)) = w1 at *
  refine (spec_isRefused.calls 1 kd k v z e d x _ _ HR.out).mono ?_
  rintro e_ w2 ⟨rfl, hb⟩
  have BK2 := Aside0.mk (blk_below BK.out hb)
  have BO2 := Aside0.mk (blk_below BO.out hb)
  have BA2 := Aside0.mk (blk_below BA.out hb)
  have BZ2 := Aside0.mk (blk_below BZ.out hb)
  have B2 := Aside0.mk (below_step B1.out hb)
  have S2 := Aside0.mk (show w.heap.size + 4 ≤ w2.heap.size by have := hb.size; have := SZ.out; omega)
  clear BK BO BA BZ B1 hb SZ
  go_wp2_with (first
    | (refine wpList_load_row rfl 29 (.tmp 3) rfl w.heap.size rfl 29 (SV l) (0, 0) _ BK2.out Try.underlying29 rfl (info29 l) ?_)
    | (refine wpList_load_row rfl 39 (.tmp 4) rfl (w.heap.size + 1) rfl 39 #[.int .i64 kd, .int .u64 k, .int .u64 v, .int .i64 z] (0, 0) _ BO2.out Try.underlying39 rfl (by kernel_rfl) ?_))
  refine (do_T l kd k v z _ HL.out).mono ?_
  rintro e_ w3 ⟨rfl, hb⟩
  rw [HD.out]
  have BO3 := Aside0.mk (blk_alloc (blk_alloc (blk_below BO2.out hb) (.cells #[.int .i64 0, .int .u64 0, .int .u64 0, .int .u64 0, .int .u64 0, .int .u64 0, .int .u64 0, .int .u64 0, .int .u64 0, .int .u64 0, .int .u64 0, .int .u64 0, .int .u64 0, .int .u64 0, .int .u64 0, .int .u64 0, .int .u64 0, .int .u64 0, .int .u64 0, .int .u64 0, .int .u64 0, .int .u64 0, .int .u64 0, .int .u64 0, .int .u64 0, .int .u64 0, .int .u64 0, .int .u64 0, .int .u64 0, .int .u64 0, .int .u64 0, .int .u64 0, .int .u64 0] 29)) (.cells #[.int .i64 0, .bool false, .int .u64 0] 35))
  have BA3 := Aside0.mk (blk_alloc (blk_alloc (blk_below BA2.out hb) (.cells #[.int .i64 0, .int .u64 0, .int .u64 0, .int .u64 0, .int .u64 0, .int .u64 0, .int .u64 0, .int .u64 0, .int .u64 0, .int .u64 0, .int .u64 0, .int .u64 0, .int .u64 0, .int .u64 0, .int .u64 0, .int .u64 0, .int .u64 0, .int .u64 0, .int .u64 0, .int .u64 0, .int .u64 0, .int .u64 0, .int .u64 0, .int .u64 0, .int .u64 0, .int .u64 0, .int .u64 0, .int .u64 0, .int .u64 0, .int .u64 0, .int .u64 0, .int .u64 0, .int .u64 0] 29)) (.cells #[.int .i64 0, .bool false, .int .u64 0] 35))
  have BZ3 := Aside0.mk (blk_alloc (blk_alloc (blk_below BZ2.out hb) (.cells #[.int .i64 0, .int .u64 0, .int .u64 0, .int .u64 0, .int .u64 0, .int .u64 0, .int .u64 0, .int .u64 0, .int .u64 0, .int .u64 0, .int .u64 0, .int .u64 0, .int .u64 0, .int .u64 0, .int .u64 0, .int .u64 0, .int .u64 0, .int .u64 0, .int .u64 0, .int .u64 0, .int .u64 0, .int .u64 0, .int .u64 0, .int .u64 0, .int .u64 0, .int .u64 0, .int .u64 0, .int .u64 0, .int .u64 0, .int .u64 0, .int .u64 0, .int .u64 0, .int .u64 0] 29)) (.cells #[.int .i64 0, .bool false, .int .u64 0] 35))
  have BN3 := Aside0.mk (blk_alloc (blk_new w3 (.cells #[.int .i64 0, .int .u64 0, .int .u64 0, .int .u64 0, .int .u64 0, .int .u64 0, .int .u64 0, .int .u64 0, .int .u64 0, .int .u64 0, .int .u64 0, .int .u64 0, .int .u64 0, .int .u64 0, .int .u64 0, .int .u64 0, .int .u64 0, .int .u64 0, .int .u64 0, .int .u64 0, .int .u64 0, .int .u64 0, .int .u64 0, .int .u64 0, .int .u64 0, .int .u64 0, .int .u64 0, .int .u64 0, .int .u64 0, .int .u64 0, .int .u64 0, .int .u64 0, .int .u64 0] 29)) (.cells #[.int .i64 0, .bool false, .int .u64 0] 35))
  have BW3 := Aside0.mk (blk_new2 w3 (.cells #[.int .i64 0, .int .u64 0, .int .u64 0, .int .u64 0, .int .u64 0, .int .u64 0, .int .u64 0, .int .u64 0, .int .u64 0, .int .u64 0, .int .u64 0, .int .u64 0, .int .u64 0, .int .u64 0, .int .u64 0, .int .u64 0, .int .u64 0, .int .u64 0, .int .u64 0, .int .u64 0, .int .u64 0, .int .u64 0, .int .u64 0, .int .u64 0, .int .u64 0, .int .u64 0, .int .u64 0, .int .u64 0, .int .u64 0, .int .u64 0, .int .u64 0, .int .u64 0, .int .u64 0] 29) (.cells #[.int .i64 0, .bool false, .int .u64 0] 35))
  have B3 := Aside0.mk (below_alloc (below_alloc (below_step B2.out hb) (.cells #[.int .i64 0, .int .u64 0, .int .u64 0, .int .u64 0, .int .u64 0, .int .u64 0, .int .u64 0, .int .u64 0, .int .u64 0, .int .u64 0, .int .u64 0, .int .u64 0, .int .u64 0, .int .u64 0, .int .u64 0, .int .u64 0, .int .u64 0, .int .u64 0, .int .u64 0, .int .u64 0, .int .u64 0, .int .u64 0, .int .u64 0, .int .u64 0, .int .u64 0, .int .u64 0, .int .u64 0, .int .u64 0, .int .u64 0, .int .u64 0, .int .u64 0, .int .u64 0, .int .u64 0] 29)) (.cells #[.int .i64 0, .bool false, .int .u64 0] 35))
  have S3 := Aside0.mk (show w.heap.size + 4 ≤ w3.heap.size by have := hb.size; have := S2.out; omega)
  clear BK2 BO2 BA2 BZ2 B2 S2 hb
  go_wp2_with (first
    | (refine store_whole (w := w) (B := w.heap.size) rfl rfl 29 (.tmp 8) (.tmp 19) rfl (g := w3.heap.size) (cs := SV m) rfl _ rfl rfl (stot _) (SV_one _) BN3.out (by rw [SV_size]; rfl) (by have := S3.out; omega) B3.out ?_; intro w4 h1 h2 h3 h4; have BN4 := Aside0.mk h1; have B4 := Aside0.mk h2; have BO4 := Aside0.mk ((h3 _ (by have := S3.out; omega)).trans BO3.out); have BA4 := Aside0.mk ((h3 _ (by have := S3.out; omega)).trans BA3.out); have BZ4 := Aside0.mk ((h3 _ (by have := S3.out; omega)).trans BZ3.out); have BW4 := Aside0.mk ((h3 _ (by have := S3.out; omega)).trans BW3.out); clear h1 h2 h3 h4 BN3 B3 BO3 BA3 BZ3 BW3)
    | (refine store_whole (w := w) (B := w.heap.size) rfl rfl 35 (.tmp 9) (.tmp 20) rfl (g := w3.heap.size + 1) (cs := #[.int .i64 e2, .bool d2, .int .u64 x2]) rfl _ rfl rfl (by kernel_rfl) (by simp [Value.oneCell']) BW4.out rfl (by have := S3.out; omega) B4.out ?_; intro w5 h1 h2 h3 h4; have BW5 := Aside0.mk h1; have B5 := Aside0.mk h2; have BO5 := Aside0.mk ((h3 _ (by have := S3.out; omega)).trans BO4.out); have BA5 := Aside0.mk ((h3 _ (by have := S3.out; omega)).trans BA4.out); have BZ5 := Aside0.mk ((h3 _ (by have := S3.out; omega)).trans BZ4.out); have BN5 := Aside0.mk ((h3 _ (by have := S3.out; omega)).trans BN4.out); clear h1 h2 h3 h4 BN4 B4 BO4 BA4 BZ4 BW4; have o0 : w5.cell? ⟨w.heap.size + 1, 0, none⟩ = some (.int .i64 kd) := (blk_cell BO5.out 0).trans rfl)
    | (refine wpList_load_row_g (by rfl) 35 (.tmp 5) rfl (w.heap.size + 1 + 1) rfl 35 #[.int .i64 e, .bool d, .int .u64 x] (0, 0) _ BA5.out Try.underlying35 rfl (by kernel_rfl) ?_)
    | (refine wpList_load_row_g (by rfl) 35 (.tmp 9) rfl (w3.heap.size + 1) rfl 35 #[.int .i64 e2, .bool d2, .int .u64 x2] (0, 0) _ BW5.out Try.underlying35 rfl (by kernel_rfl) ?_)
    | (refine wpList_value_g (by rfl) (exec_neq35 (.tmp 31) (.tmp 32) rfl e x e2 x2 d d2 rfl rfl false HQ.out) ?_)
    | (refine wpList_load_row rfl 29 (.tmp 8) rfl w3.heap.size rfl 29 (SV m) (0, 0) _ BN5.out Try.underlying29 rfl (info29 _) ?_)
    | (refine store_whole (w := w) (B := w.heap.size) rfl rfl 29 (.tmp 6) (.tmp 36) rfl (g := w.heap.size + 1 + 1 + 1) (cs := SV m) rfl _ rfl rfl (stot _) (SV_one _) BZ5.out (by rw [SV_size]; rfl) (by omega) B5.out ?_; intro w9 h1 h2 h3 h4; have BZ9 := Aside0.mk h1; have B9 := Aside0.mk h2; clear h1 h2 h3 h4))
  exact bodyPost_ret (results_cell2 rfl _ _ (w.heap.size + 1 + 1 + 1) 29 (SV m) (0, 0) _ rfl BZ9.out Try.underlying29 rfl (info29 _) rfl) rfl ⟨rfl, B9.out⟩
set_option maxHeartbeats 8000000 in
set_option maxRecDepth 100000 in
theorem may8f_T (l : List S26) (kd k v z e : Int) (d : Bool) (x : Int) (m : List S26) (e2 : Int) (d2 : Bool) (x2 c : Int) (w : World) (hl : l.length ≤ 16) (hr : spec_isRefused.f 1 kd k v z e d x = some false) (hD : doV l kd k v = (m, (e2, d2, x2), c)) (h8 : kd = 8) (hc : c = 0) (hq : decide ((e, d, x) = (e2, d2, x)) = false) :
    Calls Try.prog 18 #[.agg (SV l), .agg #[.int .i64 kd, .int .u64 k, .int .u64 v, .int .i64 z], .agg #[.int .i64 e, .bool d, .int .u64 x]] w fun e_ w' => e_ = .returned (.tuple #[.agg (SV []), .bool false]) ∧ Below w.heap.size w w' := by
  have hu29 := Try.underlying29
  have hu39 := Try.underlying39
  have hu35 := Try.underlying35
  have HL := Aside0.mk hl
  clear hl
  have HR := Aside0.mk hr
  have HD := Aside0.mk hD
  clear hr hD
  subst h8
  subst hc
  have HQ := Aside0.mk hq
  clear hq
  have BK := Aside0.mk (blk_alloc (blk_alloc (blk_alloc (blk_new w (.cells (SV l) 29)) (.cells #[.int .i64 8, .int .u64 k, .int .u64 v, .int .i64 z] 39)) (.cells #[.int .i64 e, .bool d, .int .u64 x] 35)) (.cells #[.int .i64 0, .int .u64 0, .int .u64 0, .int .u64 0, .int .u64 0, .int .u64 0, .int .u64 0, .int .u64 0, .int .u64 0, .int .u64 0, .int .u64 0, .int .u64 0, .int .u64 0, .int .u64 0, .int .u64 0, .int .u64 0, .int .u64 0, .int .u64 0, .int .u64 0, .int .u64 0, .int .u64 0, .int .u64 0, .int .u64 0, .int .u64 0, .int .u64 0, .int .u64 0, .int .u64 0, .int .u64 0, .int .u64 0, .int .u64 0, .int .u64 0, .int .u64 0, .int .u64 0] 29))
  have BO := Aside0.mk (blk_alloc (blk_alloc (blk_new2 w (.cells (SV l) 29) (.cells #[.int .i64 8, .int .u64 k, .int .u64 v, .int .i64 z] 39)) (.cells #[.int .i64 e, .bool d, .int .u64 x] 35)) (.cells #[.int .i64 0, .int .u64 0, .int .u64 0, .int .u64 0, .int .u64 0, .int .u64 0, .int .u64 0, .int .u64 0, .int .u64 0, .int .u64 0, .int .u64 0, .int .u64 0, .int .u64 0, .int .u64 0, .int .u64 0, .int .u64 0, .int .u64 0, .int .u64 0, .int .u64 0, .int .u64 0, .int .u64 0, .int .u64 0, .int .u64 0, .int .u64 0, .int .u64 0, .int .u64 0, .int .u64 0, .int .u64 0, .int .u64 0, .int .u64 0, .int .u64 0, .int .u64 0, .int .u64 0] 29))
  have BA := Aside0.mk (blk_alloc (blk_new3 w (.cells (SV l) 29) (.cells #[.int .i64 8, .int .u64 k, .int .u64 v, .int .i64 z] 39) (.cells #[.int .i64 e, .bool d, .int .u64 x] 35)) (.cells #[.int .i64 0, .int .u64 0, .int .u64 0, .int .u64 0, .int .u64 0, .int .u64 0, .int .u64 0, .int .u64 0, .int .u64 0, .int .u64 0, .int .u64 0, .int .u64 0, .int .u64 0, .int .u64 0, .int .u64 0, .int .u64 0, .int .u64 0, .int .u64 0, .int .u64 0, .int .u64 0, .int .u64 0, .int .u64 0, .int .u64 0, .int .u64 0, .int .u64 0, .int .u64 0, .int .u64 0, .int .u64 0, .int .u64 0, .int .u64 0, .int .u64 0, .int .u64 0, .int .u64 0] 29))
  have BZ := Aside0.mk (blk_new4 w (.cells (SV l) 29) (.cells #[.int .i64 8, .int .u64 k, .int .u64 v, .int .i64 z] 39) (.cells #[.int .i64 e, .bool d, .int .u64 x] 35) (.cells #[.int .i64 0, .int .u64 0, .int .u64 0, .int .u64 0, .int .u64 0, .int .u64 0, .int .u64 0, .int .u64 0, .int .u64 0, .int .u64 0, .int .u64 0, .int .u64 0, .int .u64 0, .int .u64 0, .int .u64 0, .int .u64 0, .int .u64 0, .int .u64 0, .int .u64 0, .int .u64 0, .int .u64 0, .int .u64 0, .int .u64 0, .int .u64 0, .int .u64 0, .int .u64 0, .int .u64 0, .int .u64 0, .int .u64 0, .int .u64 0, .int .u64 0, .int .u64 0, .int .u64 0] 29))
  have B1 := Aside0.mk (below_alloc (below_alloc (below_alloc (below_alloc (Below.refl w.heap.size w) (.cells (SV l) 29)) (.cells #[.int .i64 8, .int .u64 k, .int .u64 v, .int .i64 z] 39)) (.cells #[.int .i64 e, .bool d, .int .u64 x] 35)) (.cells #[.int .i64 0, .int .u64 0, .int .u64 0, .int .u64 0, .int .u64 0, .int .u64 0, .int .u64 0, .int .u64 0, .int .u64 0, .int .u64 0, .int .u64 0, .int .u64 0, .int .u64 0, .int .u64 0, .int .u64 0, .int .u64 0, .int .u64 0, .int .u64 0, .int .u64 0, .int .u64 0, .int .u64 0, .int .u64 0, .int .u64 0, .int .u64 0, .int .u64 0, .int .u64 0, .int .u64 0, .int .u64 0, .int .u64 0, .int .u64 0, .int .u64 0, .int .u64 0, .int .u64 0] 29))
  have SZ := Aside0.mk (show ((((w.alloc (.cells (SV l) 29)).alloc (.cells #[.int .i64 8, .int .u64 k, .int .u64 v, .int .i64 z] 39)).alloc (.cells #[.int .i64 e, .bool d, .int .u64 x] 35)).alloc (.cells #[.int .i64 0, .int .u64 0, .int .u64 0, .int .u64 0, .int .u64 0, .int .u64 0, .int .u64 0, .int .u64 0, .int .u64 0, .int .u64 0, .int .u64 0, .int .u64 0, .int .u64 0, .int .u64 0, .int .u64 0, .int .u64 0, .int .u64 0, .int .u64 0, .int .u64 0, .int .u64 0, .int .u64 0, .int .u64 0, .int .u64 0, .int .u64 0, .int .u64 0, .int .u64 0, .int .u64 0, .int .u64 0, .int .u64 0, .int .u64 0, .int .u64 0, .int .u64 0, .int .u64 0] 29)).heap.size = w.heap.size + 4 by simp)
  go_enter Try.func18, Try.ntmps18
  go_wp2_with (first
    | (refine wpList_load_row rfl 39 (.tmp 4) rfl (w.heap.size + 1) rfl 39 #[.int .i64 8, .int .u64 k, .int .u64 v, .int .i64 z] (0, 0) _ BO.out Try.underlying39 rfl (by kernel_rfl) ?_)
    | (refine wpList_load_row rfl 35 (.tmp 5) rfl (w.heap.size + 1 + 1) rfl 35 #[.int .i64 e, .bool d, .int .u64 x] (0, 0) _ BA.out Try.underlying35 rfl (by kernel_rfl) ?_))
  generalize ((((w.alloc (.cells (SV l) 29)).alloc (.cells #[.int .i64 8, .int .u64 k, .int .u64 v, .int .i64 z] 39)).alloc (.cells #[.int .i64 e, .bool d, .int .u64 x] 35)).alloc (.cells #[.int .i64 0, .int .u64 0, .int .u64 0, .int .u64 0, .int .u64 0, .int .u64 0, .int .u64 0, .int .u64 0, .int .u64 0, .int .u64 0, .int .u64 0, .int .u64 0, .int .u64 0, .int .u64 0, .int .u64 0, .int .u64 0, .int .u64 0, .int .u64 0, .int .u64 0, .int .u64 0, .int .u64 0, .int .u64 0, .int .u64 0, .int .u64 0, .int .u64 0, .int .u64 0, .int .u64 0, .int .u64 0, .int .u64 0, .int .u64 0, .int .u64 0, .int .u64 0, .int .u64 0] 29)) = w1 at *
  refine (spec_isRefused.calls 1 8 k v z e d x _ _ HR.out).mono ?_
  rintro e_ w2 ⟨rfl, hb⟩
  have BK2 := Aside0.mk (blk_below BK.out hb)
  have BO2 := Aside0.mk (blk_below BO.out hb)
  have BA2 := Aside0.mk (blk_below BA.out hb)
  have BZ2 := Aside0.mk (blk_below BZ.out hb)
  have B2 := Aside0.mk (below_step B1.out hb)
  have S2 := Aside0.mk (show w.heap.size + 4 ≤ w2.heap.size by have := hb.size; have := SZ.out; omega)
  clear BK BO BA BZ B1 hb SZ
  go_wp2_with (first
    | (refine wpList_load_row rfl 29 (.tmp 3) rfl w.heap.size rfl 29 (SV l) (0, 0) _ BK2.out Try.underlying29 rfl (info29 l) ?_)
    | (refine wpList_load_row rfl 39 (.tmp 4) rfl (w.heap.size + 1) rfl 39 #[.int .i64 8, .int .u64 k, .int .u64 v, .int .i64 z] (0, 0) _ BO2.out Try.underlying39 rfl (by kernel_rfl) ?_))
  refine (do_T l 8 k v z _ HL.out).mono ?_
  rintro e_ w3 ⟨rfl, hb⟩
  rw [HD.out]
  have BO3 := Aside0.mk (blk_alloc (blk_alloc (blk_below BO2.out hb) (.cells #[.int .i64 0, .int .u64 0, .int .u64 0, .int .u64 0, .int .u64 0, .int .u64 0, .int .u64 0, .int .u64 0, .int .u64 0, .int .u64 0, .int .u64 0, .int .u64 0, .int .u64 0, .int .u64 0, .int .u64 0, .int .u64 0, .int .u64 0, .int .u64 0, .int .u64 0, .int .u64 0, .int .u64 0, .int .u64 0, .int .u64 0, .int .u64 0, .int .u64 0, .int .u64 0, .int .u64 0, .int .u64 0, .int .u64 0, .int .u64 0, .int .u64 0, .int .u64 0, .int .u64 0] 29)) (.cells #[.int .i64 0, .bool false, .int .u64 0] 35))
  have BA3 := Aside0.mk (blk_alloc (blk_alloc (blk_below BA2.out hb) (.cells #[.int .i64 0, .int .u64 0, .int .u64 0, .int .u64 0, .int .u64 0, .int .u64 0, .int .u64 0, .int .u64 0, .int .u64 0, .int .u64 0, .int .u64 0, .int .u64 0, .int .u64 0, .int .u64 0, .int .u64 0, .int .u64 0, .int .u64 0, .int .u64 0, .int .u64 0, .int .u64 0, .int .u64 0, .int .u64 0, .int .u64 0, .int .u64 0, .int .u64 0, .int .u64 0, .int .u64 0, .int .u64 0, .int .u64 0, .int .u64 0, .int .u64 0, .int .u64 0, .int .u64 0] 29)) (.cells #[.int .i64 0, .bool false, .int .u64 0] 35))
  have BZ3 := Aside0.mk (blk_alloc (blk_alloc (blk_below BZ2.out hb) (.cells #[.int .i64 0, .int .u64 0, .int .u64 0, .int .u64 0, .int .u64 0, .int .u64 0, .int .u64 0, .int .u64 0, .int .u64 0, .int .u64 0, .int .u64 0, .int .u64 0, .int .u64 0, .int .u64 0, .int .u64 0, .int .u64 0, .int .u64 0, .int .u64 0, .int .u64 0, .int .u64 0, .int .u64 0, .int .u64 0, .int .u64 0, .int .u64 0, .int .u64 0, .int .u64 0, .int .u64 0, .int .u64 0, .int .u64 0, .int .u64 0, .int .u64 0, .int .u64 0, .int .u64 0] 29)) (.cells #[.int .i64 0, .bool false, .int .u64 0] 35))
  have BN3 := Aside0.mk (blk_alloc (blk_new w3 (.cells #[.int .i64 0, .int .u64 0, .int .u64 0, .int .u64 0, .int .u64 0, .int .u64 0, .int .u64 0, .int .u64 0, .int .u64 0, .int .u64 0, .int .u64 0, .int .u64 0, .int .u64 0, .int .u64 0, .int .u64 0, .int .u64 0, .int .u64 0, .int .u64 0, .int .u64 0, .int .u64 0, .int .u64 0, .int .u64 0, .int .u64 0, .int .u64 0, .int .u64 0, .int .u64 0, .int .u64 0, .int .u64 0, .int .u64 0, .int .u64 0, .int .u64 0, .int .u64 0, .int .u64 0] 29)) (.cells #[.int .i64 0, .bool false, .int .u64 0] 35))
  have BW3 := Aside0.mk (blk_new2 w3 (.cells #[.int .i64 0, .int .u64 0, .int .u64 0, .int .u64 0, .int .u64 0, .int .u64 0, .int .u64 0, .int .u64 0, .int .u64 0, .int .u64 0, .int .u64 0, .int .u64 0, .int .u64 0, .int .u64 0, .int .u64 0, .int .u64 0, .int .u64 0, .int .u64 0, .int .u64 0, .int .u64 0, .int .u64 0, .int .u64 0, .int .u64 0, .int .u64 0, .int .u64 0, .int .u64 0, .int .u64 0, .int .u64 0, .int .u64 0, .int .u64 0, .int .u64 0, .int .u64 0, .int .u64 0] 29) (.cells #[.int .i64 0, .bool false, .int .u64 0] 35))
  have B3 := Aside0.mk (below_alloc (below_alloc (below_step B2.out hb) (.cells #[.int .i64 0, .int .u64 0, .int .u64 0, .int .u64 0, .int .u64 0, .int .u64 0, .int .u64 0, .int .u64 0, .int .u64 0, .int .u64 0, .int .u64 0, .int .u64 0, .int .u64 0, .int .u64 0, .int .u64 0, .int .u64 0, .int .u64 0, .int .u64 0, .int .u64 0, .int .u64 0, .int .u64 0, .int .u64 0, .int .u64 0, .int .u64 0, .int .u64 0, .int .u64 0, .int .u64 0, .int .u64 0, .int .u64 0, .int .u64 0, .int .u64 0, .int .u64 0, .int .u64 0] 29)) (.cells #[.int .i64 0, .bool false, .int .u64 0] 35))
  have S3 := Aside0.mk (show w.heap.size + 4 ≤ w3.heap.size by have := hb.size; have := S2.out; omega)
  clear BK2 BO2 BA2 BZ2 B2 S2 hb
  go_wp2_with (first
    | (refine store_whole (w := w) (B := w.heap.size) rfl rfl 29 (.tmp 8) (.tmp 19) rfl (g := w3.heap.size) (cs := SV m) rfl _ rfl rfl (stot _) (SV_one _) BN3.out (by rw [SV_size]; rfl) (by have := S3.out; omega) B3.out ?_; intro w4 h1 h2 h3 h4; have BN4 := Aside0.mk h1; have B4 := Aside0.mk h2; have BO4 := Aside0.mk ((h3 _ (by have := S3.out; omega)).trans BO3.out); have BA4 := Aside0.mk ((h3 _ (by have := S3.out; omega)).trans BA3.out); have BZ4 := Aside0.mk ((h3 _ (by have := S3.out; omega)).trans BZ3.out); have BW4 := Aside0.mk ((h3 _ (by have := S3.out; omega)).trans BW3.out); clear h1 h2 h3 h4 BN3 B3 BO3 BA3 BZ3 BW3)
    | (refine store_whole (w := w) (B := w.heap.size) rfl rfl 35 (.tmp 9) (.tmp 20) rfl (g := w3.heap.size + 1) (cs := #[.int .i64 e2, .bool d2, .int .u64 x2]) rfl _ rfl rfl (by kernel_rfl) (by simp [Value.oneCell']) BW4.out rfl (by have := S3.out; omega) B4.out ?_; intro w5 h1 h2 h3 h4; have BW5 := Aside0.mk h1; have B5 := Aside0.mk h2; have BO5 := Aside0.mk ((h3 _ (by have := S3.out; omega)).trans BO4.out); have BA5 := Aside0.mk ((h3 _ (by have := S3.out; omega)).trans BA4.out); have BZ5 := Aside0.mk ((h3 _ (by have := S3.out; omega)).trans BZ4.out); have BN5 := Aside0.mk ((h3 _ (by have := S3.out; omega)).trans BN4.out); clear h1 h2 h3 h4 BN4 B4 BO4 BA4 BZ4 BW4; have o0 : w5.cell? ⟨w.heap.size + 1, 0, none⟩ = some (.int .i64 8) := (blk_cell BO5.out 0).trans rfl; have a2 : w5.cell? ⟨w.heap.size + 1 + 1, 2, none⟩ = some (.int .u64 x) := (blk_cell BA5.out 2).trans rfl; have c2 : w5.cell? ⟨w3.heap.size + 1, 2, none⟩ = some (.int .u64 x2) := (blk_cell BW5.out 2).trans rfl; have f2 := blk_frozen BW5.out 2; have BW6 := Aside0.mk (blk_put BW5.out 2 (.int .u64 x) (cs' := #[.int .i64 e2, .bool d2, .int .u64 x]) rfl); have NA := Aside0.mk (show w.heap.size + 1 + 1 ≠ w3.heap.size + 1 by have := S3.out; omega); have NZ := Aside0.mk (show w.heap.size + 1 + 1 + 1 ≠ w3.heap.size + 1 by have := S3.out; omega); have NN := Aside0.mk (show w3.heap.size ≠ w3.heap.size + 1 by omega); have BA6 := Aside0.mk (blk_far BA5.out (p := ⟨w3.heap.size + 1, 2, none⟩) NA.out (.int .u64 x)); have BZ6 := Aside0.mk (blk_far BZ5.out (p := ⟨w3.heap.size + 1, 2, none⟩) NZ.out (.int .u64 x)); have BN6 := Aside0.mk (blk_far BN5.out (p := ⟨w3.heap.size + 1, 2, none⟩) NN.out (.int .u64 x)); have B6 := Aside0.mk (below_set B5.out (g := w3.heap.size + 1) (j := 2) (v := .int .u64 x) (by have := S3.out; omega)))
    | (refine wpList_load_row_g (by rfl) 35 (.tmp 5) rfl (w.heap.size + 1 + 1) rfl 35 #[.int .i64 e, .bool d, .int .u64 x] (0, 0) _ BA6.out Try.underlying35 rfl (by kernel_rfl) ?_)
    | (refine wpList_load_row_g (by rfl) 35 (.tmp 9) rfl (w3.heap.size + 1) rfl 35 #[.int .i64 e2, .bool d2, .int .u64 x] (0, 0) _ BW6.out Try.underlying35 rfl (by kernel_rfl) ?_)
    | (refine wpList_value_g (by rfl) (exec_neq35 (.tmp 31) (.tmp 32) rfl e x e2 x d d2 rfl rfl true HQ.out) ?_)
    | (refine wpList_load_row rfl 29 (.tmp 8) rfl w3.heap.size rfl 29 (SV m) (0, 0) _ BN6.out Try.underlying29 rfl (info29 _) ?_)
    | (refine store_whole (w := w) (B := w.heap.size) rfl rfl 29 (.tmp 6) (.tmp 35) rfl (g := w.heap.size + 1 + 1 + 1) (cs := SV []) rfl _ rfl rfl (stot _) (SV_one _) BZ6.out (by rw [SV_size]; rfl) (by omega) B6.out ?_; intro w9 h1 h2 h3 h4; have BZ9 := Aside0.mk h1; have B9 := Aside0.mk h2; clear h1 h2 h3 h4))
  exact bodyPost_ret (results_cell2 rfl _ _ (w.heap.size + 1 + 1 + 1) 29 (SV []) (0, 0) _ rfl BZ9.out Try.underlying29 rfl (info29 _) rfl) rfl ⟨rfl, B9.out⟩
set_option maxHeartbeats 8000000 in
set_option maxRecDepth 100000 in
theorem mayf_T (l : List S26) (kd k v z e : Int) (d : Bool) (x : Int) (m : List S26) (e2 : Int) (d2 : Bool) (x2 c : Int) (w : World) (hl : l.length ≤ 16) (hr : spec_isRefused.f 1 kd k v z e d x = some false) (hD : doV l kd k v = (m, (e2, d2, x2), c)) (h8 : kd ≠ 8) (hc : c = 0) (hq : decide ((e, d, x) = (e2, d2, x2)) = false) :
    Calls Try.prog 18 #[.agg (SV l), .agg #[.int .i64 kd, .int .u64 k, .int .u64 v, .int .i64 z], .agg #[.int .i64 e, .bool d, .int .u64 x]] w fun e_ w' => e_ = .returned (.tuple #[.agg (SV []), .bool false]) ∧ Below w.heap.size w w' := by
  have hu29 := Try.underlying29
  have hu39 := Try.underlying39
  have hu35 := Try.underlying35
  have HL := Aside0.mk hl
  clear hl
  have HR := Aside0.mk hr
  have HD := Aside0.mk hD
  clear hr hD
  have t8 := eq_false h8
  have t8b : (kd == 8) = false := beq_eq_false_iff_ne.2 h8
  clear h8
  subst hc
  have HQ := Aside0.mk hq
  clear hq
  have BK := Aside0.mk (blk_alloc (blk_alloc (blk_alloc (blk_new w (.cells (SV l) 29)) (.cells #[.int .i64 kd, .int .u64 k, .int .u64 v, .int .i64 z] 39)) (.cells #[.int .i64 e, .bool d, .int .u64 x] 35)) (.cells #[.int .i64 0, .int .u64 0, .int .u64 0, .int .u64 0, .int .u64 0, .int .u64 0, .int .u64 0, .int .u64 0, .int .u64 0, .int .u64 0, .int .u64 0, .int .u64 0, .int .u64 0, .int .u64 0, .int .u64 0, .int .u64 0, .int .u64 0, .int .u64 0, .int .u64 0, .int .u64 0, .int .u64 0, .int .u64 0, .int .u64 0, .int .u64 0, .int .u64 0, .int .u64 0, .int .u64 0, .int .u64 0, .int .u64 0, .int .u64 0, .int .u64 0, .int .u64 0, .int .u64 0] 29))
  have BO := Aside0.mk (blk_alloc (blk_alloc (blk_new2 w (.cells (SV l) 29) (.cells #[.int .i64 kd, .int .u64 k, .int .u64 v, .int .i64 z] 39)) (.cells #[.int .i64 e, .bool d, .int .u64 x] 35)) (.cells #[.int .i64 0, .int .u64 0, .int .u64 0, .int .u64 0, .int .u64 0, .int .u64 0, .int .u64 0, .int .u64 0, .int .u64 0, .int .u64 0, .int .u64 0, .int .u64 0, .int .u64 0, .int .u64 0, .int .u64 0, .int .u64 0, .int .u64 0, .int .u64 0, .int .u64 0, .int .u64 0, .int .u64 0, .int .u64 0, .int .u64 0, .int .u64 0, .int .u64 0, .int .u64 0, .int .u64 0, .int .u64 0, .int .u64 0, .int .u64 0, .int .u64 0, .int .u64 0, .int .u64 0] 29))
  have BA := Aside0.mk (blk_alloc (blk_new3 w (.cells (SV l) 29) (.cells #[.int .i64 kd, .int .u64 k, .int .u64 v, .int .i64 z] 39) (.cells #[.int .i64 e, .bool d, .int .u64 x] 35)) (.cells #[.int .i64 0, .int .u64 0, .int .u64 0, .int .u64 0, .int .u64 0, .int .u64 0, .int .u64 0, .int .u64 0, .int .u64 0, .int .u64 0, .int .u64 0, .int .u64 0, .int .u64 0, .int .u64 0, .int .u64 0, .int .u64 0, .int .u64 0, .int .u64 0, .int .u64 0, .int .u64 0, .int .u64 0, .int .u64 0, .int .u64 0, .int .u64 0, .int .u64 0, .int .u64 0, .int .u64 0, .int .u64 0, .int .u64 0, .int .u64 0, .int .u64 0, .int .u64 0, .int .u64 0] 29))
  have BZ := Aside0.mk (blk_new4 w (.cells (SV l) 29) (.cells #[.int .i64 kd, .int .u64 k, .int .u64 v, .int .i64 z] 39) (.cells #[.int .i64 e, .bool d, .int .u64 x] 35) (.cells #[.int .i64 0, .int .u64 0, .int .u64 0, .int .u64 0, .int .u64 0, .int .u64 0, .int .u64 0, .int .u64 0, .int .u64 0, .int .u64 0, .int .u64 0, .int .u64 0, .int .u64 0, .int .u64 0, .int .u64 0, .int .u64 0, .int .u64 0, .int .u64 0, .int .u64 0, .int .u64 0, .int .u64 0, .int .u64 0, .int .u64 0, .int .u64 0, .int .u64 0, .int .u64 0, .int .u64 0, .int .u64 0, .int .u64 0, .int .u64 0, .int .u64 0, .int .u64 0, .int .u64 0] 29))
  have B1 := Aside0.mk (below_alloc (below_alloc (below_alloc (below_alloc (Below.refl w.heap.size w) (.cells (SV l) 29)) (.cells #[.int .i64 kd, .int .u64 k, .int .u64 v, .int .i64 z] 39)) (.cells #[.int .i64 e, .bool d, .int .u64 x] 35)) (.cells #[.int .i64 0, .int .u64 0, .int .u64 0, .int .u64 0, .int .u64 0, .int .u64 0, .int .u64 0, .int .u64 0, .int .u64 0, .int .u64 0, .int .u64 0, .int .u64 0, .int .u64 0, .int .u64 0, .int .u64 0, .int .u64 0, .int .u64 0, .int .u64 0, .int .u64 0, .int .u64 0, .int .u64 0, .int .u64 0, .int .u64 0, .int .u64 0, .int .u64 0, .int .u64 0, .int .u64 0, .int .u64 0, .int .u64 0, .int .u64 0, .int .u64 0, .int .u64 0, .int .u64 0] 29))
  have SZ := Aside0.mk (show ((((w.alloc (.cells (SV l) 29)).alloc (.cells #[.int .i64 kd, .int .u64 k, .int .u64 v, .int .i64 z] 39)).alloc (.cells #[.int .i64 e, .bool d, .int .u64 x] 35)).alloc (.cells #[.int .i64 0, .int .u64 0, .int .u64 0, .int .u64 0, .int .u64 0, .int .u64 0, .int .u64 0, .int .u64 0, .int .u64 0, .int .u64 0, .int .u64 0, .int .u64 0, .int .u64 0, .int .u64 0, .int .u64 0, .int .u64 0, .int .u64 0, .int .u64 0, .int .u64 0, .int .u64 0, .int .u64 0, .int .u64 0, .int .u64 0, .int .u64 0, .int .u64 0, .int .u64 0, .int .u64 0, .int .u64 0, .int .u64 0, .int .u64 0, .int .u64 0, .int .u64 0, .int .u64 0] 29)).heap.size = w.heap.size + 4 by simp)
  go_enter Try.func18, Try.ntmps18
  go_wp2_with (first
    | (refine wpList_load_row rfl 39 (.tmp 4) rfl (w.heap.size + 1) rfl 39 #[.int .i64 kd, .int .u64 k, .int .u64 v, .int .i64 z] (0, 0) _ BO.out Try.underlying39 rfl (by kernel_rfl) ?_)
    | (refine wpList_load_row rfl 35 (.tmp 5) rfl (w.heap.size + 1 + 1) rfl 35 #[.int .i64 e, .bool d, .int .u64 x] (0, 0) _ BA.out Try.underlying35 rfl (by kernel_rfl) ?_))
  generalize ((((w.alloc (.cells (SV l) 29)).alloc (.cells #[.int .i64 kd, .int .u64 k, .int .u64 v, .int .i64 z] 39)).alloc (.cells #[.int .i64 e, .bool d, .int .u64 x] 35)).alloc (.cells #[.int .i64 0, .int .u64 0, .int .u64 0, .int .u64 0, .int .u64 0, .int .u64 0, .int .u64 0, .int .u64 0, .int .u64 0, .int .u64 0, .int .u64 0, .int .u64 0, .int .u64 0, .int .u64 0, .int .u64 0, .int .u64 0, .int .u64 0, .int .u64 0, .int .u64 0, .int .u64 0, .int .u64 0, .int .u64 0, .int .u64 0, .int .u64 0, .int .u64 0, .int .u64 0, .int .u64 0, .int .u64 0, .int .u64 0, .int .u64 0, .int .u64 0, .int .u64 0, .int .u64 0] 29)) = w1 at *
  refine (spec_isRefused.calls 1 kd k v z e d x _ _ HR.out).mono ?_
  rintro e_ w2 ⟨rfl, hb⟩
  have BK2 := Aside0.mk (blk_below BK.out hb)
  have BO2 := Aside0.mk (blk_below BO.out hb)
  have BA2 := Aside0.mk (blk_below BA.out hb)
  have BZ2 := Aside0.mk (blk_below BZ.out hb)
  have B2 := Aside0.mk (below_step B1.out hb)
  have S2 := Aside0.mk (show w.heap.size + 4 ≤ w2.heap.size by have := hb.size; have := SZ.out; omega)
  clear BK BO BA BZ B1 hb SZ
  go_wp2_with (first
    | (refine wpList_load_row rfl 29 (.tmp 3) rfl w.heap.size rfl 29 (SV l) (0, 0) _ BK2.out Try.underlying29 rfl (info29 l) ?_)
    | (refine wpList_load_row rfl 39 (.tmp 4) rfl (w.heap.size + 1) rfl 39 #[.int .i64 kd, .int .u64 k, .int .u64 v, .int .i64 z] (0, 0) _ BO2.out Try.underlying39 rfl (by kernel_rfl) ?_))
  refine (do_T l kd k v z _ HL.out).mono ?_
  rintro e_ w3 ⟨rfl, hb⟩
  rw [HD.out]
  have BO3 := Aside0.mk (blk_alloc (blk_alloc (blk_below BO2.out hb) (.cells #[.int .i64 0, .int .u64 0, .int .u64 0, .int .u64 0, .int .u64 0, .int .u64 0, .int .u64 0, .int .u64 0, .int .u64 0, .int .u64 0, .int .u64 0, .int .u64 0, .int .u64 0, .int .u64 0, .int .u64 0, .int .u64 0, .int .u64 0, .int .u64 0, .int .u64 0, .int .u64 0, .int .u64 0, .int .u64 0, .int .u64 0, .int .u64 0, .int .u64 0, .int .u64 0, .int .u64 0, .int .u64 0, .int .u64 0, .int .u64 0, .int .u64 0, .int .u64 0, .int .u64 0] 29)) (.cells #[.int .i64 0, .bool false, .int .u64 0] 35))
  have BA3 := Aside0.mk (blk_alloc (blk_alloc (blk_below BA2.out hb) (.cells #[.int .i64 0, .int .u64 0, .int .u64 0, .int .u64 0, .int .u64 0, .int .u64 0, .int .u64 0, .int .u64 0, .int .u64 0, .int .u64 0, .int .u64 0, .int .u64 0, .int .u64 0, .int .u64 0, .int .u64 0, .int .u64 0, .int .u64 0, .int .u64 0, .int .u64 0, .int .u64 0, .int .u64 0, .int .u64 0, .int .u64 0, .int .u64 0, .int .u64 0, .int .u64 0, .int .u64 0, .int .u64 0, .int .u64 0, .int .u64 0, .int .u64 0, .int .u64 0, .int .u64 0] 29)) (.cells #[.int .i64 0, .bool false, .int .u64 0] 35))
  have BZ3 := Aside0.mk (blk_alloc (blk_alloc (blk_below BZ2.out hb) (.cells #[.int .i64 0, .int .u64 0, .int .u64 0, .int .u64 0, .int .u64 0, .int .u64 0, .int .u64 0, .int .u64 0, .int .u64 0, .int .u64 0, .int .u64 0, .int .u64 0, .int .u64 0, .int .u64 0, .int .u64 0, .int .u64 0, .int .u64 0, .int .u64 0, .int .u64 0, .int .u64 0, .int .u64 0, .int .u64 0, .int .u64 0, .int .u64 0, .int .u64 0, .int .u64 0, .int .u64 0, .int .u64 0, .int .u64 0, .int .u64 0, .int .u64 0, .int .u64 0, .int .u64 0] 29)) (.cells #[.int .i64 0, .bool false, .int .u64 0] 35))
  have BN3 := Aside0.mk (blk_alloc (blk_new w3 (.cells #[.int .i64 0, .int .u64 0, .int .u64 0, .int .u64 0, .int .u64 0, .int .u64 0, .int .u64 0, .int .u64 0, .int .u64 0, .int .u64 0, .int .u64 0, .int .u64 0, .int .u64 0, .int .u64 0, .int .u64 0, .int .u64 0, .int .u64 0, .int .u64 0, .int .u64 0, .int .u64 0, .int .u64 0, .int .u64 0, .int .u64 0, .int .u64 0, .int .u64 0, .int .u64 0, .int .u64 0, .int .u64 0, .int .u64 0, .int .u64 0, .int .u64 0, .int .u64 0, .int .u64 0] 29)) (.cells #[.int .i64 0, .bool false, .int .u64 0] 35))
  have BW3 := Aside0.mk (blk_new2 w3 (.cells #[.int .i64 0, .int .u64 0, .int .u64 0, .int .u64 0, .int .u64 0, .int .u64 0, .int .u64 0, .int .u64 0, .int .u64 0, .int .u64 0, .int .u64 0, .int .u64 0, .int .u64 0, .int .u64 0, .int .u64 0, .int .u64 0, .int .u64 0, .int .u64 0, .int .u64 0, .int .u64 0, .int .u64 0, .int .u64 0, .int .u64 0, .int .u64 0, .int .u64 0, .int .u64 0, .int .u64 0, .int .u64 0, .int .u64 0, .int .u64 0, .int .u64 0, .int .u64 0, .int .u64 0] 29) (.cells #[.int .i64 0, .bool false, .int .u64 0] 35))
  have B3 := Aside0.mk (below_alloc (below_alloc (below_step B2.out hb) (.cells #[.int .i64 0, .int .u64 0, .int .u64 0, .int .u64 0, .int .u64 0, .int .u64 0, .int .u64 0, .int .u64 0, .int .u64 0, .int .u64 0, .int .u64 0, .int .u64 0, .int .u64 0, .int .u64 0, .int .u64 0, .int .u64 0, .int .u64 0, .int .u64 0, .int .u64 0, .int .u64 0, .int .u64 0, .int .u64 0, .int .u64 0, .int .u64 0, .int .u64 0, .int .u64 0, .int .u64 0, .int .u64 0, .int .u64 0, .int .u64 0, .int .u64 0, .int .u64 0, .int .u64 0] 29)) (.cells #[.int .i64 0, .bool false, .int .u64 0] 35))
  have S3 := Aside0.mk (show w.heap.size + 4 ≤ w3.heap.size by have := hb.size; have := S2.out; omega)
  clear BK2 BO2 BA2 BZ2 B2 S2 hb
  go_wp2_with (first
    | (refine store_whole (w := w) (B := w.heap.size) rfl rfl 29 (.tmp 8) (.tmp 19) rfl (g := w3.heap.size) (cs := SV m) rfl _ rfl rfl (stot _) (SV_one _) BN3.out (by rw [SV_size]; rfl) (by have := S3.out; omega) B3.out ?_; intro w4 h1 h2 h3 h4; have BN4 := Aside0.mk h1; have B4 := Aside0.mk h2; have BO4 := Aside0.mk ((h3 _ (by have := S3.out; omega)).trans BO3.out); have BA4 := Aside0.mk ((h3 _ (by have := S3.out; omega)).trans BA3.out); have BZ4 := Aside0.mk ((h3 _ (by have := S3.out; omega)).trans BZ3.out); have BW4 := Aside0.mk ((h3 _ (by have := S3.out; omega)).trans BW3.out); clear h1 h2 h3 h4 BN3 B3 BO3 BA3 BZ3 BW3)
    | (refine store_whole (w := w) (B := w.heap.size) rfl rfl 35 (.tmp 9) (.tmp 20) rfl (g := w3.heap.size + 1) (cs := #[.int .i64 e2, .bool d2, .int .u64 x2]) rfl _ rfl rfl (by kernel_rfl) (by simp [Value.oneCell']) BW4.out rfl (by have := S3.out; omega) B4.out ?_; intro w5 h1 h2 h3 h4; have BW5 := Aside0.mk h1; have B5 := Aside0.mk h2; have BO5 := Aside0.mk ((h3 _ (by have := S3.out; omega)).trans BO4.out); have BA5 := Aside0.mk ((h3 _ (by have := S3.out; omega)).trans BA4.out); have BZ5 := Aside0.mk ((h3 _ (by have := S3.out; omega)).trans BZ4.out); have BN5 := Aside0.mk ((h3 _ (by have := S3.out; omega)).trans BN4.out); clear h1 h2 h3 h4 BN4 B4 BO4 BA4 BZ4 BW4; have o0 : w5.cell? ⟨w.heap.size + 1, 0, none⟩ = some (.int .i64 kd) := (blk_cell BO5.out 0).trans rfl)
    | (refine wpList_load_row_g (by rfl) 35 (.tmp 5) rfl (w.heap.size + 1 + 1) rfl 35 #[.int .i64 e, .bool d, .int .u64 x] (0, 0) _ BA5.out Try.underlying35 rfl (by kernel_rfl) ?_)
    | (refine wpList_load_row_g (by rfl) 35 (.tmp 9) rfl (w3.heap.size + 1) rfl 35 #[.int .i64 e2, .bool d2, .int .u64 x2] (0, 0) _ BW5.out Try.underlying35 rfl (by kernel_rfl) ?_)
    | (refine wpList_value_g (by rfl) (exec_neq35 (.tmp 31) (.tmp 32) rfl e x e2 x2 d d2 rfl rfl true HQ.out) ?_)
    | (refine wpList_load_row rfl 29 (.tmp 8) rfl w3.heap.size rfl 29 (SV m) (0, 0) _ BN5.out Try.underlying29 rfl (info29 _) ?_)
    | (refine store_whole (w := w) (B := w.heap.size) rfl rfl 29 (.tmp 6) (.tmp 35) rfl (g := w.heap.size + 1 + 1 + 1) (cs := SV []) rfl _ rfl rfl (stot _) (SV_one _) BZ5.out (by rw [SV_size]; rfl) (by omega) B5.out ?_; intro w9 h1 h2 h3 h4; have BZ9 := Aside0.mk h1; have B9 := Aside0.mk h2; clear h1 h2 h3 h4))
  exact bodyPost_ret (results_cell2 rfl _ _ (w.heap.size + 1 + 1 + 1) 29 (SV []) (0, 0) _ rfl BZ9.out Try.underlying29 rfl (info29 _) rfl) rfl ⟨rfl, B9.out⟩
def refV (kd : Int) (a : Int × Bool × Int) : Bool :=
  if (a.1 == 6 && (!a.2.1 && (a.2.2 == 0))) = true then (kd == 1 || kd == 4 || kd == 5) else if (a.1 == 7 && (!a.2.1 && (a.2.2 == 0))) = true then (kd == 1 || kd == 4 || kd == 5 || kd == 8) else false
theorem ref_some (kd k v z e : Int) (d : Bool) (x : Int) : spec_isRefused.f 1 kd k v z e d x = some (refV kd (e, d, x)) := by
  unfold spec_isRefused.f refV
  simp only [spec_isRefused.j0]
  by_cases h1 : kd = 1
  · subst h1; simp only [if_true, beq_self_eq_true, Bool.true_or]; split <;> first | rfl | (split <;> rfl)
  rw [if_neg h1]
  by_cases h4 : kd = 4
  · subst h4; simp only [if_true, beq_self_eq_true, Bool.true_or, Bool.or_true]; split <;> first | rfl | (split <;> rfl)
  rw [if_neg h4]
  have b1 : (kd == 1) = false := beq_eq_false_iff_ne.2 h1
  have b4 : (kd == 4) = false := beq_eq_false_iff_ne.2 h4
  rw [b1, b4]
  cases hb : (kd == 5) <;> simp only [Bool.false_or, Bool.true_or, if_true, Bool.false_eq_true, if_false] <;> (split <;> first | rfl | (split <;> rfl))
/-- The answer that an operation must give here. -/
def wantV (l : List S26) (kd k v : Int) (a : Int × Bool × Int) : Int × Bool × Int := if kd = 8 then ((doV l kd k v).2.1.1, (doV l kd k v).2.1.2.1, a.2.2) else (doV l kd k v).2.1
def mayV (l : List S26) (kd k v : Int) (a : Int × Bool × Int) : List S26 × Bool :=
  if refV kd a = true then (l, true) else if (doV l kd k v).2.2 = 0 ∧ a = wantV l kd k v a then ((doV l kd k v).1, true) else ([], false)
theorem may_T (l : List S26) (kd k v z e : Int) (d : Bool) (x : Int) (w : World) (hl : l.length ≤ 16) :
    Calls Try.prog 18 #[.agg (SV l), .agg #[.int .i64 kd, .int .u64 k, .int .u64 v, .int .i64 z], .agg #[.int .i64 e, .bool d, .int .u64 x]] w fun e_ w' => e_ = .returned (.tuple #[.agg (SV (mayV l kd k v (e, d, x)).1), .bool (mayV l kd k v (e, d, x)).2]) ∧ Below w.heap.size w w' := by
  have hr := ref_some kd k v z e d x
  unfold mayV
  by_cases h : refV kd (e, d, x) = true
  · rw [if_pos h]; exact mayR_T l kd k v z e d x w hl (by rw [hr, h])
  · rw [if_neg h]
    rw [Bool.eq_false_iff.2 h] at hr
    unfold wantV
    by_cases h8 : kd = 8
    · rw [if_pos h8]
      by_cases hc : (doV l kd k v).2.2 = 0
      · by_cases hq : (e, d, x) = ((doV l kd k v).2.1.1, (doV l kd k v).2.1.2.1, x)
        · rw [if_pos ⟨hc, hq⟩]; exact may8t_T l kd k v z e d x _ _ _ _ _ w hl hr rfl h8 hc (decide_eq_true hq)
        · rw [if_neg (fun h => hq h.2)]; exact may8f_T l kd k v z e d x _ _ _ _ _ w hl hr rfl h8 hc (decide_eq_false hq)
      · rw [if_neg (fun h => hc h.1)]; exact may8c_T l kd k v z e d x _ _ _ _ _ w hl hr rfl h8 hc
    · rw [if_neg h8]
      by_cases hc : (doV l kd k v).2.2 = 0
      · by_cases hq : (e, d, x) = (doV l kd k v).2.1
        · rw [if_pos ⟨hc, hq⟩]; exact mayt_T l kd k v z e d x _ _ _ _ _ w hl hr rfl h8 hc (decide_eq_true hq)
        · rw [if_neg (fun h => hq h.2)]; exact mayf_T l kd k v z e d x _ _ _ _ _ w hl hr rfl h8 hc (decide_eq_false hq)
      · rw [if_neg (fun h => hc h.1)]; exact mayc_T l kd k v z e d x _ _ _ _ _ w hl hr rfl h8 hc
end Go.Proofs.Ytcphmelmieedfab.PSpecExact

