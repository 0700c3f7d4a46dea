/-
The reference's May.
-/
import Derived.Test.YtcphmelmieedfabSpecN
namespace Go.Proofs.Ytcphmelmieedfab.PSpecExact
open Go Go.RowKit Go.Proofs.YtcphmelmieedfabW.PrintWords Go.Proofs.YtcphmelmieedfabW.PrintLast Go.Proofs.YtcphmelmieedfabW.PrintMore
attribute [local go_sem] max2_int min2_int max_two min_two max_three min_three max_four min_four
set_option linter.unusedVariables false
set_option linter.unusedSimpArgs false
theorem wpLd {P : Program} {ops : Array Oper} {rest : List Oper} {d : Option Tmp} {t2 : TypeId} {ps : String} {af : Array Edge} {gd : Option (Nat × Bool)} {a : Act} {w : World} {Q : Exit → Act → World → Prop} (ty : TypeId) (x : Operand) (h : wpList P ops Q (⟨d, .load ty x, t2, ps, af, gd⟩ :: rest) a w) : wpList P ops Q (⟨d, .load ty x, t2, ps, af, gd⟩ :: rest) a w := h
theorem wpSt {P : Program} {ops : Array Oper} {rest : List Oper} {d : Option Tmp} {t2 : TypeId} {ps : String} {af : Array Edge} {gd : Option (Nat × Bool)} {a : Act} {w : World} {Q : Exit → Act → World → Prop} (ty : TypeId) (x y : Operand) (h : wpList P ops Q (⟨d, .store ty x y, t2, ps, af, gd⟩ :: rest) a w) : wpList P ops Q (⟨d, .store ty x y, t2, ps, af, gd⟩ :: rest) a w := h
theorem wpBi {P : Program} {ops : Array Oper} {rest : List Oper} {d : Option Tmp} {t2 : TypeId} {ps : String} {af : Array Edge} {gd : Option (Nat × Bool)} {a : Act} {w : World} {Q : Exit → Act → World → Prop} (bo : BinOp) (ty : TypeId) (x y : Operand) (ty2 : TypeId) (h : wpList P ops Q (⟨d, .binOp bo ty x y ty2, t2, ps, af, gd⟩ :: rest) a w) : wpList P ops Q (⟨d, .binOp bo ty x y ty2, t2, ps, af, gd⟩ :: rest) a w := h
set_option maxHeartbeats 8000000 in
set_option maxRecDepth 100000 in
theorem rmayd_T (u : List S57) (A : Option Addr) (c : Nat) (kd e x k v z : Int) (w : World) (h0 : e ≠ 0) :
    Calls Try.prog 19 #[.agg #[.slice A u.length c], .agg #[.int .i64 kd, .int .u64 k, .int .u64 v, .int .i64 z], .agg #[.int .i64 e, .bool true, .int .u64 x]] w fun e_ w' => e_ = .returned (.tuple #[.agg #[.slice none 0 0], .bool false]) ∧ Below w.heap.size w w' := by
  have hu32 := Try.underlying32
  have hu39 := Try.underlying39
  have hu35 := Try.underlying35
  have h01 := eq_false h0
  have h02 : (e == 0) = false := beq_eq_false_iff_ne.2 h0
  have h03 : (e != 0) = true := by simp [h0]
  clear h0
  have L_U := Aside0.mk (show w.heap.size ≤ w.heap.size from Nat.le_refl _)
  have L_O := Aside0.mk (show w.heap.size ≤ w.heap.size + 1 from by have := L_U.out; omega)
  have NE_U_O := Aside0.mk (show w.heap.size ≠ w.heap.size + 1 by omega)
  have L_An := Aside0.mk (show w.heap.size ≤ w.heap.size + 1 + 1 from by have := L_U.out; omega)
  have NE_U_An := Aside0.mk (show w.heap.size ≠ w.heap.size + 1 + 1 by omega)
  have NE_O_An := Aside0.mk (show w.heap.size + 1 ≠ w.heap.size + 1 + 1 by omega)
  have L_R := Aside0.mk (show w.heap.size ≤ w.heap.size + 1 + 1 + 1 from by have := L_U.out; omega)
  have NE_U_R := Aside0.mk (show w.heap.size ≠ w.heap.size + 1 + 1 + 1 by omega)
  have NE_O_R := Aside0.mk (show w.heap.size + 1 ≠ w.heap.size + 1 + 1 + 1 by omega)
  have NE_An_R := Aside0.mk (show w.heap.size + 1 + 1 ≠ w.heap.size + 1 + 1 + 1 by omega)
  have U_1 := Aside0.mk (blk_alloc (blk_alloc (blk_alloc (blk_new (w) (.cells (#[.slice A u.length c]) 32)) (.cells (#[.int .i64 kd, .int .u64 k, .int .u64 v, .int .i64 z]) 39)) (.cells (#[.int .i64 e, .bool true, .int .u64 x]) 35)) (.cells #[.slice none 0 0] 32))
  have O_2 := Aside0.mk (blk_alloc (blk_alloc (blk_new2 (w) (.cells (#[.slice A u.length c]) 32) (.cells (#[.int .i64 kd, .int .u64 k, .int .u64 v, .int .i64 z]) 39)) (.cells (#[.int .i64 e, .bool true, .int .u64 x]) 35)) (.cells #[.slice none 0 0] 32))
  have An_3 := Aside0.mk (blk_alloc (blk_new3 (w) (.cells (#[.slice A u.length c]) 32) (.cells (#[.int .i64 kd, .int .u64 k, .int .u64 v, .int .i64 z]) 39) (.cells (#[.int .i64 e, .bool true, .int .u64 x]) 35)) (.cells #[.slice none 0 0] 32))
  have R_4 := Aside0.mk (blk_new4 (w) (.cells (#[.slice A u.length c]) 32) (.cells (#[.int .i64 kd, .int .u64 k, .int .u64 v, .int .i64 z]) 39) (.cells (#[.int .i64 e, .bool true, .int .u64 x]) 35) (.cells #[.slice none 0 0] 32))
  have B5 := Aside0.mk (below_alloc (below_alloc (below_alloc (below_alloc (Below.refl w.heap.size w) (.cells (#[.slice A u.length c]) 32)) (.cells (#[.int .i64 kd, .int .u64 k, .int .u64 v, .int .i64 z]) 39)) (.cells (#[.int .i64 e, .bool true, .int .u64 x]) 35)) (.cells #[.slice none 0 0] 32))
  go_enter Try.func19, Try.ntmps19
  go_wp2_with (first
    | ((with_reducible refine wpSt 32 (.tmp 6) (.tmp 22) ?_); refine store_whole (w := w) (B := w.heap.size) rfl rfl 32 (.tmp 6) (.tmp 22) rfl (g := w.heap.size + 1 + 1 + 1) (cs := #[.slice none 0 0]) rfl _ rfl rfl (by kernel_rfl) (by simp [Value.oneCell']) R_4.out (rfl) L_R.out B5.out ?_; intro w_6 h1 h2 h3 h4; have U_7 := Aside0.mk ((h3 _ NE_U_R.out).trans U_1.out); have O_8 := Aside0.mk ((h3 _ NE_O_R.out).trans O_2.out); have An_9 := Aside0.mk ((h3 _ NE_An_R.out).trans An_3.out); have R_10 := Aside0.mk (h1); have B11 := Aside0.mk (h2); clear h1 h2 h3 h4 U_1 O_2 An_3 R_4 B5))
  exact bodyPost_ret (results_cell2 rfl _ _ (w.heap.size + 1 + 1 + 1) 32 #[.slice none 0 0] (0, 0) _ rfl R_10.out Try.underlying32 rfl (by kernel_rfl) rfl) rfl ⟨rfl, B11.out⟩
set_option maxHeartbeats 8000000 in
set_option maxRecDepth 100000 in
theorem rmaydx_T (u : List S57) (A : Option Addr) (c : Nat) (kd e x k v z : Int) (w : World) (h0 : e ≠ 0) (hx : x ≠ 0) :
    Calls Try.prog 19 #[.agg #[.slice A u.length c], .agg #[.int .i64 kd, .int .u64 k, .int .u64 v, .int .i64 z], .agg #[.int .i64 e, .bool false, .int .u64 x]] w fun e_ w' => e_ = .returned (.tuple #[.agg #[.slice none 0 0], .bool false]) ∧ Below w.heap.size w w' := by
  have hu32 := Try.underlying32
  have hu39 := Try.underlying39
  have hu35 := Try.underlying35
  have h01 := eq_false h0
  have h02 : (e == 0) = false := beq_eq_false_iff_ne.2 h0
  have h03 : (e != 0) = true := by simp [h0]
  clear h0
  have hx1 := eq_false hx
  have hx2 : (x == 0) = false := beq_eq_false_iff_ne.2 hx
  have hx3 : (x != 0) = true := by simp [hx]
  clear hx
  have L_U := Aside0.mk (show w.heap.size ≤ w.heap.size from Nat.le_refl _)
  have L_O := Aside0.mk (show w.heap.size ≤ w.heap.size + 1 from by have := L_U.out; omega)
  have NE_U_O := Aside0.mk (show w.heap.size ≠ w.heap.size + 1 by omega)
  have L_An := Aside0.mk (show w.heap.size ≤ w.heap.size + 1 + 1 from by have := L_U.out; omega)
  have NE_U_An := Aside0.mk (show w.heap.size ≠ w.heap.size + 1 + 1 by omega)
  have NE_O_An := Aside0.mk (show w.heap.size + 1 ≠ w.heap.size + 1 + 1 by omega)
  have L_R := Aside0.mk (show w.heap.size ≤ w.heap.size + 1 + 1 + 1 from by have := L_U.out; omega)
  have NE_U_R := Aside0.mk (show w.heap.size ≠ w.heap.size + 1 + 1 + 1 by omega)
  have NE_O_R := Aside0.mk (show w.heap.size + 1 ≠ w.heap.size + 1 + 1 + 1 by omega)
  have NE_An_R := Aside0.mk (show w.heap.size + 1 + 1 ≠ w.heap.size + 1 + 1 + 1 by omega)
  have U_1 := Aside0.mk (blk_alloc (blk_alloc (blk_alloc (blk_new (w) (.cells (#[.slice A u.length c]) 32)) (.cells (#[.int .i64 kd, .int .u64 k, .int .u64 v, .int .i64 z]) 39)) (.cells (#[.int .i64 e, .bool false, .int .u64 x]) 35)) (.cells #[.slice none 0 0] 32))
  have O_2 := Aside0.mk (blk_alloc (blk_alloc (blk_new2 (w) (.cells (#[.slice A u.length c]) 32) (.cells (#[.int .i64 kd, .int .u64 k, .int .u64 v, .int .i64 z]) 39)) (.cells (#[.int .i64 e, .bool false, .int .u64 x]) 35)) (.cells #[.slice none 0 0] 32))
  have An_3 := Aside0.mk (blk_alloc (blk_new3 (w) (.cells (#[.slice A u.length c]) 32) (.cells (#[.int .i64 kd, .int .u64 k, .int .u64 v, .int .i64 z]) 39) (.cells (#[.int .i64 e, .bool false, .int .u64 x]) 35)) (.cells #[.slice none 0 0] 32))
  have R_4 := Aside0.mk (blk_new4 (w) (.cells (#[.slice A u.length c]) 32) (.cells (#[.int .i64 kd, .int .u64 k, .int .u64 v, .int .i64 z]) 39) (.cells (#[.int .i64 e, .bool false, .int .u64 x]) 35) (.cells #[.slice none 0 0] 32))
  have B5 := Aside0.mk (below_alloc (below_alloc (below_alloc (below_alloc (Below.refl w.heap.size w) (.cells (#[.slice A u.length c]) 32)) (.cells (#[.int .i64 kd, .int .u64 k, .int .u64 v, .int .i64 z]) 39)) (.cells (#[.int .i64 e, .bool false, .int .u64 x]) 35)) (.cells #[.slice none 0 0] 32))
  go_enter Try.func19, Try.ntmps19
  go_wp2_with (first
    | ((with_reducible refine wpSt 32 (.tmp 6) (.tmp 22) ?_); refine store_whole (w := w) (B := w.heap.size) rfl rfl 32 (.tmp 6) (.tmp 22) rfl (g := w.heap.size + 1 + 1 + 1) (cs := #[.slice none 0 0]) rfl _ rfl rfl (by kernel_rfl) (by simp [Value.oneCell']) R_4.out (rfl) L_R.out B5.out ?_; intro w_6 h1 h2 h3 h4; have U_7 := Aside0.mk ((h3 _ NE_U_R.out).trans U_1.out); have O_8 := Aside0.mk ((h3 _ NE_O_R.out).trans O_2.out); have An_9 := Aside0.mk ((h3 _ NE_An_R.out).trans An_3.out); have R_10 := Aside0.mk (h1); have B11 := Aside0.mk (h2); clear h1 h2 h3 h4 U_1 O_2 An_3 R_4 B5))
  exact bodyPost_ret (results_cell2 rfl _ _ (w.heap.size + 1 + 1 + 1) 32 #[.slice none 0 0] (0, 0) _ rfl R_10.out Try.underlying32 rfl (by kernel_rfl) rfl) rfl ⟨rfl, B11.out⟩
set_option maxHeartbeats 8000000 in
set_option maxRecDepth 100000 in
theorem rmay16_T (u : List S57) (A : Option Addr) (c : Nat) ( k v z : Int) (w : World) :
    Calls Try.prog 19 #[.agg #[.slice A u.length c], .agg #[.int .i64 1, .int .u64 k, .int .u64 v, .int .i64 z], .agg #[.int .i64 6, .bool false, .int .u64 0]] w fun e_ w' => e_ = .returned (.tuple #[.agg #[.slice A u.length c], .bool true]) ∧ Below w.heap.size w w' := by
  have hu32 := Try.underlying32
  have hu39 := Try.underlying39
  have hu35 := Try.underlying35
  have L_U := Aside0.mk (show w.heap.size ≤ w.heap.size from Nat.le_refl _)
  have L_O := Aside0.mk (show w.heap.size ≤ w.heap.size + 1 from by have := L_U.out; omega)
  have NE_U_O := Aside0.mk (show w.heap.size ≠ w.heap.size + 1 by omega)
  have L_An := Aside0.mk (show w.heap.size ≤ w.heap.size + 1 + 1 from by have := L_U.out; omega)
  have NE_U_An := Aside0.mk (show w.heap.size ≠ w.heap.size + 1 + 1 by omega)
  have NE_O_An := Aside0.mk (show w.heap.size + 1 ≠ w.heap.size + 1 + 1 by omega)
  have L_R := Aside0.mk (show w.heap.size ≤ w.heap.size + 1 + 1 + 1 from by have := L_U.out; omega)
  have NE_U_R := Aside0.mk (show w.heap.size ≠ w.heap.size + 1 + 1 + 1 by omega)
  have NE_O_R := Aside0.mk (show w.heap.size + 1 ≠ w.heap.size + 1 + 1 + 1 by omega)
  have NE_An_R := Aside0.mk (show w.heap.size + 1 + 1 ≠ w.heap.size + 1 + 1 + 1 by omega)
  have U_1 := Aside0.mk (blk_alloc (blk_alloc (blk_alloc (blk_new (w) (.cells (#[.slice A u.length c]) 32)) (.cells (#[.int .i64 1, .int .u64 k, .int .u64 v, .int .i64 z]) 39)) (.cells (#[.int .i64 6, .bool false, .int .u64 0]) 35)) (.cells #[.slice none 0 0] 32))
  have O_2 := Aside0.mk (blk_alloc (blk_alloc (blk_new2 (w) (.cells (#[.slice A u.length c]) 32) (.cells (#[.int .i64 1, .int .u64 k, .int .u64 v, .int .i64 z]) 39)) (.cells (#[.int .i64 6, .bool false, .int .u64 0]) 35)) (.cells #[.slice none 0 0] 32))
  have An_3 := Aside0.mk (blk_alloc (blk_new3 (w) (.cells (#[.slice A u.length c]) 32) (.cells (#[.int .i64 1, .int .u64 k, .int .u64 v, .int .i64 z]) 39) (.cells (#[.int .i64 6, .bool false, .int .u64 0]) 35)) (.cells #[.slice none 0 0] 32))
  have R_4 := Aside0.mk (blk_new4 (w) (.cells (#[.slice A u.length c]) 32) (.cells (#[.int .i64 1, .int .u64 k, .int .u64 v, .int .i64 z]) 39) (.cells (#[.int .i64 6, .bool false, .int .u64 0]) 35) (.cells #[.slice none 0 0] 32))
  have B5 := Aside0.mk (below_alloc (below_alloc (below_alloc (below_alloc (Below.refl w.heap.size w) (.cells (#[.slice A u.length c]) 32)) (.cells (#[.int .i64 1, .int .u64 k, .int .u64 v, .int .i64 z]) 39)) (.cells (#[.int .i64 6, .bool false, .int .u64 0]) 35)) (.cells #[.slice none 0 0] 32))
  go_enter Try.func19, Try.ntmps19
  go_wp2_with fail
  have R_504 := Aside0.mk (blk_new4 (w) (.cells (#[.slice A u.length c]) 32) (.cells (#[.int .i64 1, .int .u64 k, .int .u64 v, .int .i64 z]) 39) (.cells (#[.int .i64 6, .bool false, .int .u64 0]) 35) (.cells (#[.slice A u.length c]) 32))
  have B505 := Aside0.mk (below_alloc (below_alloc (below_alloc (below_alloc (Below.refl w.heap.size w) (.cells (#[.slice A u.length c]) 32)) (.cells (#[.int .i64 1, .int .u64 k, .int .u64 v, .int .i64 z]) 39)) (.cells (#[.int .i64 6, .bool false, .int .u64 0]) 35)) (.cells (#[.slice A u.length c]) 32))
  exact bodyPost_ret (results_cell2 rfl _ _ (w.heap.size + 1 + 1 + 1) 32 #[.slice A u.length c] (0, 0) _ rfl R_504.out Try.underlying32 rfl (by kernel_rfl) rfl) rfl ⟨rfl, B505.out⟩
set_option maxHeartbeats 8000000 in
set_option maxRecDepth 100000 in
theorem rmay17_T (u : List S57) (A : Option Addr) (c : Nat) ( k v z : Int) (w : World) :
    Calls Try.prog 19 #[.agg #[.slice A u.length c], .agg #[.int .i64 1, .int .u64 k, .int .u64 v, .int .i64 z], .agg #[.int .i64 7, .bool false, .int .u64 0]] w fun e_ w' => e_ = .returned (.tuple #[.agg #[.slice A u.length c], .bool true]) ∧ Below w.heap.size w w' := by
  have hu32 := Try.underlying32
  have hu39 := Try.underlying39
  have hu35 := Try.underlying35
  have L_U := Aside0.mk (show w.heap.size ≤ w.heap.size from Nat.le_refl _)
  have L_O := Aside0.mk (show w.heap.size ≤ w.heap.size + 1 from by have := L_U.out; omega)
  have NE_U_O := Aside0.mk (show w.heap.size ≠ w.heap.size + 1 by omega)
  have L_An := Aside0.mk (show w.heap.size ≤ w.heap.size + 1 + 1 from by have := L_U.out; omega)
  have NE_U_An := Aside0.mk (show w.heap.size ≠ w.heap.size + 1 + 1 by omega)
  have NE_O_An := Aside0.mk (show w.heap.size + 1 ≠ w.heap.size + 1 + 1 by omega)
  have L_R := Aside0.mk (show w.heap.size ≤ w.heap.size + 1 + 1 + 1 from by have := L_U.out; omega)
  have NE_U_R := Aside0.mk (show w.heap.size ≠ w.heap.size + 1 + 1 + 1 by omega)
  have NE_O_R := Aside0.mk (show w.heap.size + 1 ≠ w.heap.size + 1 + 1 + 1 by omega)
  have NE_An_R := Aside0.mk (show w.heap.size + 1 + 1 ≠ w.heap.size + 1 + 1 + 1 by omega)
  have U_1 := Aside0.mk (blk_alloc (blk_alloc (blk_alloc (blk_new (w) (.cells (#[.slice A u.length c]) 32)) (.cells (#[.int .i64 1, .int .u64 k, .int .u64 v, .int .i64 z]) 39)) (.cells (#[.int .i64 7, .bool false, .int .u64 0]) 35)) (.cells #[.slice none 0 0] 32))
  have O_2 := Aside0.mk (blk_alloc (blk_alloc (blk_new2 (w) (.cells (#[.slice A u.length c]) 32) (.cells (#[.int .i64 1, .int .u64 k, .int .u64 v, .int .i64 z]) 39)) (.cells (#[.int .i64 7, .bool false, .int .u64 0]) 35)) (.cells #[.slice none 0 0] 32))
  have An_3 := Aside0.mk (blk_alloc (blk_new3 (w) (.cells (#[.slice A u.length c]) 32) (.cells (#[.int .i64 1, .int .u64 k, .int .u64 v, .int .i64 z]) 39) (.cells (#[.int .i64 7, .bool false, .int .u64 0]) 35)) (.cells #[.slice none 0 0] 32))
  have R_4 := Aside0.mk (blk_new4 (w) (.cells (#[.slice A u.length c]) 32) (.cells (#[.int .i64 1, .int .u64 k, .int .u64 v, .int .i64 z]) 39) (.cells (#[.int .i64 7, .bool false, .int .u64 0]) 35) (.cells #[.slice none 0 0] 32))
  have B5 := Aside0.mk (below_alloc (below_alloc (below_alloc (below_alloc (Below.refl w.heap.size w) (.cells (#[.slice A u.length c]) 32)) (.cells (#[.int .i64 1, .int .u64 k, .int .u64 v, .int .i64 z]) 39)) (.cells (#[.int .i64 7, .bool false, .int .u64 0]) 35)) (.cells #[.slice none 0 0] 32))
  go_enter Try.func19, Try.ntmps19
  go_wp2_with fail
  have R_504 := Aside0.mk (blk_new4 (w) (.cells (#[.slice A u.length c]) 32) (.cells (#[.int .i64 1, .int .u64 k, .int .u64 v, .int .i64 z]) 39) (.cells (#[.int .i64 7, .bool false, .int .u64 0]) 35) (.cells (#[.slice A u.length c]) 32))
  have B505 := Aside0.mk (below_alloc (below_alloc (below_alloc (below_alloc (Below.refl w.heap.size w) (.cells (#[.slice A u.length c]) 32)) (.cells (#[.int .i64 1, .int .u64 k, .int .u64 v, .int .i64 z]) 39)) (.cells (#[.int .i64 7, .bool false, .int .u64 0]) 35)) (.cells (#[.slice A u.length c]) 32))
  exact bodyPost_ret (results_cell2 rfl _ _ (w.heap.size + 1 + 1 + 1) 32 #[.slice A u.length c] (0, 0) _ rfl R_504.out Try.underlying32 rfl (by kernel_rfl) rfl) rfl ⟨rfl, B505.out⟩
set_option maxHeartbeats 8000000 in
set_option maxRecDepth 100000 in
theorem rmay1E_T (u : List S57) (A : Option Addr) (c : Nat) (e k v z : Int) (w : World) (h0 : e ≠ 0) (h6 : e ≠ 6) (h7 : e ≠ 7) :
    Calls Try.prog 19 #[.agg #[.slice A u.length c], .agg #[.int .i64 1, .int .u64 k, .int .u64 v, .int .i64 z], .agg #[.int .i64 e, .bool false, .int .u64 0]] w fun e_ w' => e_ = .returned (.tuple #[.agg #[.slice none 0 0], .bool false]) ∧ Below w.heap.size w w' := by
  have hu32 := Try.underlying32
  have hu39 := Try.underlying39
  have hu35 := Try.underlying35
  have h01 := eq_false h0
  have h02 : (e == 0) = false := beq_eq_false_iff_ne.2 h0
  have h03 : (e != 0) = true := by simp [h0]
  clear h0
  have h61 := eq_false h6
  have h62 : (e == 6) = false := beq_eq_false_iff_ne.2 h6
  have h63 : (e != 6) = true := by simp [h6]
  clear h6
  have h71 := eq_false h7
  have h72 : (e == 7) = false := beq_eq_false_iff_ne.2 h7
  have h73 : (e != 7) = true := by simp [h7]
  clear h7
  have L_U := Aside0.mk (show w.heap.size ≤ w.heap.size from Nat.le_refl _)
  have L_O := Aside0.mk (show w.heap.size ≤ w.heap.size + 1 from by have := L_U.out; omega)
  have NE_U_O := Aside0.mk (show w.heap.size ≠ w.heap.size + 1 by omega)
  have L_An := Aside0.mk (show w.heap.size ≤ w.heap.size + 1 + 1 from by have := L_U.out; omega)
  have NE_U_An := Aside0.mk (show w.heap.size ≠ w.heap.size + 1 + 1 by omega)
  have NE_O_An := Aside0.mk (show w.heap.size + 1 ≠ w.heap.size + 1 + 1 by omega)
  have L_R := Aside0.mk (show w.heap.size ≤ w.heap.size + 1 + 1 + 1 from by have := L_U.out; omega)
  have NE_U_R := Aside0.mk (show w.heap.size ≠ w.heap.size + 1 + 1 + 1 by omega)
  have NE_O_R := Aside0.mk (show w.heap.size + 1 ≠ w.heap.size + 1 + 1 + 1 by omega)
  have NE_An_R := Aside0.mk (show w.heap.size + 1 + 1 ≠ w.heap.size + 1 + 1 + 1 by omega)
  have U_1 := Aside0.mk (blk_alloc (blk_alloc (blk_alloc (blk_new (w) (.cells (#[.slice A u.length c]) 32)) (.cells (#[.int .i64 1, .int .u64 k, .int .u64 v, .int .i64 z]) 39)) (.cells (#[.int .i64 e, .bool false, .int .u64 0]) 35)) (.cells #[.slice none 0 0] 32))
  have O_2 := Aside0.mk (blk_alloc (blk_alloc (blk_new2 (w) (.cells (#[.slice A u.length c]) 32) (.cells (#[.int .i64 1, .int .u64 k, .int .u64 v, .int .i64 z]) 39)) (.cells (#[.int .i64 e, .bool false, .int .u64 0]) 35)) (.cells #[.slice none 0 0] 32))
  have An_3 := Aside0.mk (blk_alloc (blk_new3 (w) (.cells (#[.slice A u.length c]) 32) (.cells (#[.int .i64 1, .int .u64 k, .int .u64 v, .int .i64 z]) 39) (.cells (#[.int .i64 e, .bool false, .int .u64 0]) 35)) (.cells #[.slice none 0 0] 32))
  have R_4 := Aside0.mk (blk_new4 (w) (.cells (#[.slice A u.length c]) 32) (.cells (#[.int .i64 1, .int .u64 k, .int .u64 v, .int .i64 z]) 39) (.cells (#[.int .i64 e, .bool false, .int .u64 0]) 35) (.cells #[.slice none 0 0] 32))
  have B5 := Aside0.mk (below_alloc (below_alloc (below_alloc (below_alloc (Below.refl w.heap.size w) (.cells (#[.slice A u.length c]) 32)) (.cells (#[.int .i64 1, .int .u64 k, .int .u64 v, .int .i64 z]) 39)) (.cells (#[.int .i64 e, .bool false, .int .u64 0]) 35)) (.cells #[.slice none 0 0] 32))
  go_enter Try.func19, Try.ntmps19
  go_wp2_with fail
  have R_504 := Aside0.mk (blk_new4 (w) (.cells (#[.slice A u.length c]) 32) (.cells (#[.int .i64 1, .int .u64 k, .int .u64 v, .int .i64 z]) 39) (.cells (#[.int .i64 e, .bool false, .int .u64 0]) 35) (.cells (#[.slice none 0 0]) 32))
  have B505 := Aside0.mk (below_alloc (below_alloc (below_alloc (below_alloc (Below.refl w.heap.size w) (.cells (#[.slice A u.length c]) 32)) (.cells (#[.int .i64 1, .int .u64 k, .int .u64 v, .int .i64 z]) 39)) (.cells (#[.int .i64 e, .bool false, .int .u64 0]) 35)) (.cells (#[.slice none 0 0]) 32))
  exact bodyPost_ret (results_cell2 rfl _ _ (w.heap.size + 1 + 1 + 1) 32 #[.slice none 0 0] (0, 0) _ rfl R_504.out Try.underlying32 rfl (by kernel_rfl) rfl) rfl ⟨rfl, B505.out⟩
set_option maxHeartbeats 8000000 in
set_option maxRecDepth 100000 in
theorem rmay46_T (u : List S57) (A : Option Addr) (c : Nat) ( k v z : Int) (w : World) :
    Calls Try.prog 19 #[.agg #[.slice A u.length c], .agg #[.int .i64 4, .int .u64 k, .int .u64 v, .int .i64 z], .agg #[.int .i64 6, .bool false, .int .u64 0]] w fun e_ w' => e_ = .returned (.tuple #[.agg #[.slice A u.length c], .bool true]) ∧ Below w.heap.size w w' := by
  have hu32 := Try.underlying32
  have hu39 := Try.underlying39
  have hu35 := Try.underlying35
  have L_U := Aside0.mk (show w.heap.size ≤ w.heap.size from Nat.le_refl _)
  have L_O := Aside0.mk (show w.heap.size ≤ w.heap.size + 1 from by have := L_U.out; omega)
  have NE_U_O := Aside0.mk (show w.heap.size ≠ w.heap.size + 1 by omega)
  have L_An := Aside0.mk (show w.heap.size ≤ w.heap.size + 1 + 1 from by have := L_U.out; omega)
  have NE_U_An := Aside0.mk (show w.heap.size ≠ w.heap.size + 1 + 1 by omega)
  have NE_O_An := Aside0.mk (show w.heap.size + 1 ≠ w.heap.size + 1 + 1 by omega)
  have L_R := Aside0.mk (show w.heap.size ≤ w.heap.size + 1 + 1 + 1 from by have := L_U.out; omega)
  have NE_U_R := Aside0.mk (show w.heap.size ≠ w.heap.size + 1 + 1 + 1 by omega)
  have NE_O_R := Aside0.mk (show w.heap.size + 1 ≠ w.heap.size + 1 + 1 + 1 by omega)
  have NE_An_R := Aside0.mk (show w.heap.size + 1 + 1 ≠ w.heap.size + 1 + 1 + 1 by omega)
  have U_1 := Aside0.mk (blk_alloc (blk_alloc (blk_alloc (blk_new (w) (.cells (#[.slice A u.length c]) 32)) (.cells (#[.int .i64 4, .int .u64 k, .int .u64 v, .int .i64 z]) 39)) (.cells (#[.int .i64 6, .bool false, .int .u64 0]) 35)) (.cells #[.slice none 0 0] 32))
  have O_2 := Aside0.mk (blk_alloc (blk_alloc (blk_new2 (w) (.cells (#[.slice A u.length c]) 32) (.cells (#[.int .i64 4, .int .u64 k, .int .u64 v, .int .i64 z]) 39)) (.cells (#[.int .i64 6, .bool false, .int .u64 0]) 35)) (.cells #[.slice none 0 0] 32))
  have An_3 := Aside0.mk (blk_alloc (blk_new3 (w) (.cells (#[.slice A u.length c]) 32) (.cells (#[.int .i64 4, .int .u64 k, .int .u64 v, .int .i64 z]) 39) (.cells (#[.int .i64 6, .bool false, .int .u64 0]) 35)) (.cells #[.slice none 0 0] 32))
  have R_4 := Aside0.mk (blk_new4 (w) (.cells (#[.slice A u.length c]) 32) (.cells (#[.int .i64 4, .int .u64 k, .int .u64 v, .int .i64 z]) 39) (.cells (#[.int .i64 6, .bool false, .int .u64 0]) 35) (.cells #[.slice none 0 0] 32))
  have B5 := Aside0.mk (below_alloc (below_alloc (below_alloc (below_alloc (Below.refl w.heap.size w) (.cells (#[.slice A u.length c]) 32)) (.cells (#[.int .i64 4, .int .u64 k, .int .u64 v, .int .i64 z]) 39)) (.cells (#[.int .i64 6, .bool false, .int .u64 0]) 35)) (.cells #[.slice none 0 0] 32))
  go_enter Try.func19, Try.ntmps19
  go_wp2_with fail
  have R_504 := Aside0.mk (blk_new4 (w) (.cells (#[.slice A u.length c]) 32) (.cells (#[.int .i64 4, .int .u64 k, .int .u64 v, .int .i64 z]) 39) (.cells (#[.int .i64 6, .bool false, .int .u64 0]) 35) (.cells (#[.slice A u.length c]) 32))
  have B505 := Aside0.mk (below_alloc (below_alloc (below_alloc (below_alloc (Below.refl w.heap.size w) (.cells (#[.slice A u.length c]) 32)) (.cells (#[.int .i64 4, .int .u64 k, .int .u64 v, .int .i64 z]) 39)) (.cells (#[.int .i64 6, .bool false, .int .u64 0]) 35)) (.cells (#[.slice A u.length c]) 32))
  exact bodyPost_ret (results_cell2 rfl _ _ (w.heap.size + 1 + 1 + 1) 32 #[.slice A u.length c] (0, 0) _ rfl R_504.out Try.underlying32 rfl (by kernel_rfl) rfl) rfl ⟨rfl, B505.out⟩
set_option maxHeartbeats 8000000 in
set_option maxRecDepth 100000 in
theorem rmay47_T (u : List S57) (A : Option Addr) (c : Nat) ( k v z : Int) (w : World) :
    Calls Try.prog 19 #[.agg #[.slice A u.length c], .agg #[.int .i64 4, .int .u64 k, .int .u64 v, .int .i64 z], .agg #[.int .i64 7, .bool false, .int .u64 0]] w fun e_ w' => e_ = .returned (.tuple #[.agg #[.slice A u.length c], .bool true]) ∧ Below w.heap.size w w' := by
  have hu32 := Try.underlying32
  have hu39 := Try.underlying39
  have hu35 := Try.underlying35
  have L_U := Aside0.mk (show w.heap.size ≤ w.heap.size from Nat.le_refl _)
  have L_O := Aside0.mk (show w.heap.size ≤ w.heap.size + 1 from by have := L_U.out; omega)
  have NE_U_O := Aside0.mk (show w.heap.size ≠ w.heap.size + 1 by omega)
  have L_An := Aside0.mk (show w.heap.size ≤ w.heap.size + 1 + 1 from by have := L_U.out; omega)
  have NE_U_An := Aside0.mk (show w.heap.size ≠ w.heap.size + 1 + 1 by omega)
  have NE_O_An := Aside0.mk (show w.heap.size + 1 ≠ w.heap.size + 1 + 1 by omega)
  have L_R := Aside0.mk (show w.heap.size ≤ w.heap.size + 1 + 1 + 1 from by have := L_U.out; omega)
  have NE_U_R := Aside0.mk (show w.heap.size ≠ w.heap.size + 1 + 1 + 1 by omega)
  have NE_O_R := Aside0.mk (show w.heap.size + 1 ≠ w.heap.size + 1 + 1 + 1 by omega)
  have NE_An_R := Aside0.mk (show w.heap.size + 1 + 1 ≠ w.heap.size + 1 + 1 + 1 by omega)
  have U_1 := Aside0.mk (blk_alloc (blk_alloc (blk_alloc (blk_new (w) (.cells (#[.slice A u.length c]) 32)) (.cells (#[.int .i64 4, .int .u64 k, .int .u64 v, .int .i64 z]) 39)) (.cells (#[.int .i64 7, .bool false, .int .u64 0]) 35)) (.cells #[.slice none 0 0] 32))
  have O_2 := Aside0.mk (blk_alloc (blk_alloc (blk_new2 (w) (.cells (#[.slice A u.length c]) 32) (.cells (#[.int .i64 4, .int .u64 k, .int .u64 v, .int .i64 z]) 39)) (.cells (#[.int .i64 7, .bool false, .int .u64 0]) 35)) (.cells #[.slice none 0 0] 32))
  have An_3 := Aside0.mk (blk_alloc (blk_new3 (w) (.cells (#[.slice A u.length c]) 32) (.cells (#[.int .i64 4, .int .u64 k, .int .u64 v, .int .i64 z]) 39) (.cells (#[.int .i64 7, .bool false, .int .u64 0]) 35)) (.cells #[.slice none 0 0] 32))
  have R_4 := Aside0.mk (blk_new4 (w) (.cells (#[.slice A u.length c]) 32) (.cells (#[.int .i64 4, .int .u64 k, .int .u64 v, .int .i64 z]) 39) (.cells (#[.int .i64 7, .bool false, .int .u64 0]) 35) (.cells #[.slice none 0 0] 32))
  have B5 := Aside0.mk (below_alloc (below_alloc (below_alloc (below_alloc (Below.refl w.heap.size w) (.cells (#[.slice A u.length c]) 32)) (.cells (#[.int .i64 4, .int .u64 k, .int .u64 v, .int .i64 z]) 39)) (.cells (#[.int .i64 7, .bool false, .int .u64 0]) 35)) (.cells #[.slice none 0 0] 32))
  go_enter Try.func19, Try.ntmps19
  go_wp2_with fail
  have R_504 := Aside0.mk (blk_new4 (w) (.cells (#[.slice A u.length c]) 32) (.cells (#[.int .i64 4, .int .u64 k, .int .u64 v, .int .i64 z]) 39) (.cells (#[.int .i64 7, .bool false, .int .u64 0]) 35) (.cells (#[.slice A u.length c]) 32))
  have B505 := Aside0.mk (below_alloc (below_alloc (below_alloc (below_alloc (Below.refl w.heap.size w) (.cells (#[.slice A u.length c]) 32)) (.cells (#[.int .i64 4, .int .u64 k, .int .u64 v, .int .i64 z]) 39)) (.cells (#[.int .i64 7, .bool false, .int .u64 0]) 35)) (.cells (#[.slice A u.length c]) 32))
  exact bodyPost_ret (results_cell2 rfl _ _ (w.heap.size + 1 + 1 + 1) 32 #[.slice A u.length c] (0, 0) _ rfl R_504.out Try.underlying32 rfl (by kernel_rfl) rfl) rfl ⟨rfl, B505.out⟩
set_option maxHeartbeats 8000000 in
set_option maxRecDepth 100000 in
theorem rmay4E_T (u : List S57) (A : Option Addr) (c : Nat) (e k v z : Int) (w : World) (h0 : e ≠ 0) (h6 : e ≠ 6) (h7 : e ≠ 7) :
    Calls Try.prog 19 #[.agg #[.slice A u.length c], .agg #[.int .i64 4, .int .u64 k, .int .u64 v, .int .i64 z], .agg #[.int .i64 e, .bool false, .int .u64 0]] w fun e_ w' => e_ = .returned (.tuple #[.agg #[.slice none 0 0], .bool false]) ∧ Below w.heap.size w w' := by
  have hu32 := Try.underlying32
  have hu39 := Try.underlying39
  have hu35 := Try.underlying35
  have h01 := eq_false h0
  have h02 : (e == 0) = false := beq_eq_false_iff_ne.2 h0
  have h03 : (e != 0) = true := by simp [h0]
  clear h0
  have h61 := eq_false h6
  have h62 : (e == 6) = false := beq_eq_false_iff_ne.2 h6
  have h63 : (e != 6) = true := by simp [h6]
  clear h6
  have h71 := eq_false h7
  have h72 : (e == 7) = false := beq_eq_false_iff_ne.2 h7
  have h73 : (e != 7) = true := by simp [h7]
  clear h7
  have L_U := Aside0.mk (show w.heap.size ≤ w.heap.size from Nat.le_refl _)
  have L_O := Aside0.mk (show w.heap.size ≤ w.heap.size + 1 from by have := L_U.out; omega)
  have NE_U_O := Aside0.mk (show w.heap.size ≠ w.heap.size + 1 by omega)
  have L_An := Aside0.mk (show w.heap.size ≤ w.heap.size + 1 + 1 from by have := L_U.out; omega)
  have NE_U_An := Aside0.mk (show w.heap.size ≠ w.heap.size + 1 + 1 by omega)
  have NE_O_An := Aside0.mk (show w.heap.size + 1 ≠ w.heap.size + 1 + 1 by omega)
  have L_R := Aside0.mk (show w.heap.size ≤ w.heap.size + 1 + 1 + 1 from by have := L_U.out; omega)
  have NE_U_R := Aside0.mk (show w.heap.size ≠ w.heap.size + 1 + 1 + 1 by omega)
  have NE_O_R := Aside0.mk (show w.heap.size + 1 ≠ w.heap.size + 1 + 1 + 1 by omega)
  have NE_An_R := Aside0.mk (show w.heap.size + 1 + 1 ≠ w.heap.size + 1 + 1 + 1 by omega)
  have U_1 := Aside0.mk (blk_alloc (blk_alloc (blk_alloc (blk_new (w) (.cells (#[.slice A u.length c]) 32)) (.cells (#[.int .i64 4, .int .u64 k, .int .u64 v, .int .i64 z]) 39)) (.cells (#[.int .i64 e, .bool false, .int .u64 0]) 35)) (.cells #[.slice none 0 0] 32))
  have O_2 := Aside0.mk (blk_alloc (blk_alloc (blk_new2 (w) (.cells (#[.slice A u.length c]) 32) (.cells (#[.int .i64 4, .int .u64 k, .int .u64 v, .int .i64 z]) 39)) (.cells (#[.int .i64 e, .bool false, .int .u64 0]) 35)) (.cells #[.slice none 0 0] 32))
  have An_3 := Aside0.mk (blk_alloc (blk_new3 (w) (.cells (#[.slice A u.length c]) 32) (.cells (#[.int .i64 4, .int .u64 k, .int .u64 v, .int .i64 z]) 39) (.cells (#[.int .i64 e, .bool false, .int .u64 0]) 35)) (.cells #[.slice none 0 0] 32))
  have R_4 := Aside0.mk (blk_new4 (w) (.cells (#[.slice A u.length c]) 32) (.cells (#[.int .i64 4, .int .u64 k, .int .u64 v, .int .i64 z]) 39) (.cells (#[.int .i64 e, .bool false, .int .u64 0]) 35) (.cells #[.slice none 0 0] 32))
  have B5 := Aside0.mk (below_alloc (below_alloc (below_alloc (below_alloc (Below.refl w.heap.size w) (.cells (#[.slice A u.length c]) 32)) (.cells (#[.int .i64 4, .int .u64 k, .int .u64 v, .int .i64 z]) 39)) (.cells (#[.int .i64 e, .bool false, .int .u64 0]) 35)) (.cells #[.slice none 0 0] 32))
  go_enter Try.func19, Try.ntmps19
  go_wp2_with fail
  have R_504 := Aside0.mk (blk_new4 (w) (.cells (#[.slice A u.length c]) 32) (.cells (#[.int .i64 4, .int .u64 k, .int .u64 v, .int .i64 z]) 39) (.cells (#[.int .i64 e, .bool false, .int .u64 0]) 35) (.cells (#[.slice none 0 0]) 32))
  have B505 := Aside0.mk (below_alloc (below_alloc (below_alloc (below_alloc (Below.refl w.heap.size w) (.cells (#[.slice A u.length c]) 32)) (.cells (#[.int .i64 4, .int .u64 k, .int .u64 v, .int .i64 z]) 39)) (.cells (#[.int .i64 e, .bool false, .int .u64 0]) 35)) (.cells (#[.slice none 0 0]) 32))
  exact bodyPost_ret (results_cell2 rfl _ _ (w.heap.size + 1 + 1 + 1) 32 #[.slice none 0 0] (0, 0) _ rfl R_504.out Try.underlying32 rfl (by kernel_rfl) rfl) rfl ⟨rfl, B505.out⟩
set_option maxHeartbeats 8000000 in
set_option maxRecDepth 100000 in
theorem rmay56_T (u : List S57) (A : Option Addr) (c : Nat) ( k v z : Int) (w : World) :
    Calls Try.prog 19 #[.agg #[.slice A u.length c], .agg #[.int .i64 5, .int .u64 k, .int .u64 v, .int .i64 z], .agg #[.int .i64 6, .bool false, .int .u64 0]] w fun e_ w' => e_ = .returned (.tuple #[.agg #[.slice A u.length c], .bool true]) ∧ Below w.heap.size w w' := by
  have hu32 := Try.underlying32
  have hu39 := Try.underlying39
  have hu35 := Try.underlying35
  have L_U := Aside0.mk (show w.heap.size ≤ w.heap.size from Nat.le_refl _)
  have L_O := Aside0.mk (show w.heap.size ≤ w.heap.size + 1 from by have := L_U.out; omega)
  have NE_U_O := Aside0.mk (show w.heap.size ≠ w.heap.size + 1 by omega)
  have L_An := Aside0.mk (show w.heap.size ≤ w.heap.size + 1 + 1 from by have := L_U.out; omega)
  have NE_U_An := Aside0.mk (show w.heap.size ≠ w.heap.size + 1 + 1 by omega)
  have NE_O_An := Aside0.mk (show w.heap.size + 1 ≠ w.heap.size + 1 + 1 by omega)
  have L_R := Aside0.mk (show w.heap.size ≤ w.heap.size + 1 + 1 + 1 from by have := L_U.out; omega)
  have NE_U_R := Aside0.mk (show w.heap.size ≠ w.heap.size + 1 + 1 + 1 by omega)
  have NE_O_R := Aside0.mk (show w.heap.size + 1 ≠ w.heap.size + 1 + 1 + 1 by omega)
  have NE_An_R := Aside0.mk (show w.heap.size + 1 + 1 ≠ w.heap.size + 1 + 1 + 1 by omega)
  have U_1 := Aside0.mk (blk_alloc (blk_alloc (blk_alloc (blk_new (w) (.cells (#[.slice A u.length c]) 32)) (.cells (#[.int .i64 5, .int .u64 k, .int .u64 v, .int .i64 z]) 39)) (.cells (#[.int .i64 6, .bool false, .int .u64 0]) 35)) (.cells #[.slice none 0 0] 32))
  have O_2 := Aside0.mk (blk_alloc (blk_alloc (blk_new2 (w) (.cells (#[.slice A u.length c]) 32) (.cells (#[.int .i64 5, .int .u64 k, .int .u64 v, .int .i64 z]) 39)) (.cells (#[.int .i64 6, .bool false, .int .u64 0]) 35)) (.cells #[.slice none 0 0] 32))
  have An_3 := Aside0.mk (blk_alloc (blk_new3 (w) (.cells (#[.slice A u.length c]) 32) (.cells (#[.int .i64 5, .int .u64 k, .int .u64 v, .int .i64 z]) 39) (.cells (#[.int .i64 6, .bool false, .int .u64 0]) 35)) (.cells #[.slice none 0 0] 32))
  have R_4 := Aside0.mk (blk_new4 (w) (.cells (#[.slice A u.length c]) 32) (.cells (#[.int .i64 5, .int .u64 k, .int .u64 v, .int .i64 z]) 39) (.cells (#[.int .i64 6, .bool false, .int .u64 0]) 35) (.cells #[.slice none 0 0] 32))
  have B5 := Aside0.mk (below_alloc (below_alloc (below_alloc (below_alloc (Below.refl w.heap.size w) (.cells (#[.slice A u.length c]) 32)) (.cells (#[.int .i64 5, .int .u64 k, .int .u64 v, .int .i64 z]) 39)) (.cells (#[.int .i64 6, .bool false, .int .u64 0]) 35)) (.cells #[.slice none 0 0] 32))
  go_enter Try.func19, Try.ntmps19
  go_wp2_with fail
  have R_504 := Aside0.mk (blk_new4 (w) (.cells (#[.slice A u.length c]) 32) (.cells (#[.int .i64 5, .int .u64 k, .int .u64 v, .int .i64 z]) 39) (.cells (#[.int .i64 6, .bool false, .int .u64 0]) 35) (.cells (#[.slice A u.length c]) 32))
  have B505 := Aside0.mk (below_alloc (below_alloc (below_alloc (below_alloc (Below.refl w.heap.size w) (.cells (#[.slice A u.length c]) 32)) (.cells (#[.int .i64 5, .int .u64 k, .int .u64 v, .int .i64 z]) 39)) (.cells (#[.int .i64 6, .bool false, .int .u64 0]) 35)) (.cells (#[.slice A u.length c]) 32))
  exact bodyPost_ret (results_cell2 rfl _ _ (w.heap.size + 1 + 1 + 1) 32 #[.slice A u.length c] (0, 0) _ rfl R_504.out Try.underlying32 rfl (by kernel_rfl) rfl) rfl ⟨rfl, B505.out⟩
set_option maxHeartbeats 8000000 in
set_option maxRecDepth 100000 in
theorem rmay57_T (u : List S57) (A : Option Addr) (c : Nat) ( k v z : Int) (w : World) :
    Calls Try.prog 19 #[.agg #[.slice A u.length c], .agg #[.int .i64 5, .int .u64 k, .int .u64 v, .int .i64 z], .agg #[.int .i64 7, .bool false, .int .u64 0]] w fun e_ w' => e_ = .returned (.tuple #[.agg #[.slice A u.length c], .bool true]) ∧ Below w.heap.size w w' := by
  have hu32 := Try.underlying32
  have hu39 := Try.underlying39
  have hu35 := Try.underlying35
  have L_U := Aside0.mk (show w.heap.size ≤ w.heap.size from Nat.le_refl _)
  have L_O := Aside0.mk (show w.heap.size ≤ w.heap.size + 1 from by have := L_U.out; omega)
  have NE_U_O := Aside0.mk (show w.heap.size ≠ w.heap.size + 1 by omega)
  have L_An := Aside0.mk (show w.heap.size ≤ w.heap.size + 1 + 1 from by have := L_U.out; omega)
  have NE_U_An := Aside0.mk (show w.heap.size ≠ w.heap.size + 1 + 1 by omega)
  have NE_O_An := Aside0.mk (show w.heap.size + 1 ≠ w.heap.size + 1 + 1 by omega)
  have L_R := Aside0.mk (show w.heap.size ≤ w.heap.size + 1 + 1 + 1 from by have := L_U.out; omega)
  have NE_U_R := Aside0.mk (show w.heap.size ≠ w.heap.size + 1 + 1 + 1 by omega)
  have NE_O_R := Aside0.mk (show w.heap.size + 1 ≠ w.heap.size + 1 + 1 + 1 by omega)
  have NE_An_R := Aside0.mk (show w.heap.size + 1 + 1 ≠ w.heap.size + 1 + 1 + 1 by omega)
  have U_1 := Aside0.mk (blk_alloc (blk_alloc (blk_alloc (blk_new (w) (.cells (#[.slice A u.length c]) 32)) (.cells (#[.int .i64 5, .int .u64 k, .int .u64 v, .int .i64 z]) 39)) (.cells (#[.int .i64 7, .bool false, .int .u64 0]) 35)) (.cells #[.slice none 0 0] 32))
  have O_2 := Aside0.mk (blk_alloc (blk_alloc (blk_new2 (w) (.cells (#[.slice A u.length c]) 32) (.cells (#[.int .i64 5, .int .u64 k, .int .u64 v, .int .i64 z]) 39)) (.cells (#[.int .i64 7, .bool false, .int .u64 0]) 35)) (.cells #[.slice none 0 0] 32))
  have An_3 := Aside0.mk (blk_alloc (blk_new3 (w) (.cells (#[.slice A u.length c]) 32) (.cells (#[.int .i64 5, .int .u64 k, .int .u64 v, .int .i64 z]) 39) (.cells (#[.int .i64 7, .bool false, .int .u64 0]) 35)) (.cells #[.slice none 0 0] 32))
  have R_4 := Aside0.mk (blk_new4 (w) (.cells (#[.slice A u.length c]) 32) (.cells (#[.int .i64 5, .int .u64 k, .int .u64 v, .int .i64 z]) 39) (.cells (#[.int .i64 7, .bool false, .int .u64 0]) 35) (.cells #[.slice none 0 0] 32))
  have B5 := Aside0.mk (below_alloc (below_alloc (below_alloc (below_alloc (Below.refl w.heap.size w) (.cells (#[.slice A u.length c]) 32)) (.cells (#[.int .i64 5, .int .u64 k, .int .u64 v, .int .i64 z]) 39)) (.cells (#[.int .i64 7, .bool false, .int .u64 0]) 35)) (.cells #[.slice none 0 0] 32))
  go_enter Try.func19, Try.ntmps19
  go_wp2_with fail
  have R_504 := Aside0.mk (blk_new4 (w) (.cells (#[.slice A u.length c]) 32) (.cells (#[.int .i64 5, .int .u64 k, .int .u64 v, .int .i64 z]) 39) (.cells (#[.int .i64 7, .bool false, .int .u64 0]) 35) (.cells (#[.slice A u.length c]) 32))
  have B505 := Aside0.mk (below_alloc (below_alloc (below_alloc (below_alloc (Below.refl w.heap.size w) (.cells (#[.slice A u.length c]) 32)) (.cells (#[.int .i64 5, .int .u64 k, .int .u64 v, .int .i64 z]) 39)) (.cells (#[.int .i64 7, .bool false, .int .u64 0]) 35)) (.cells (#[.slice A u.length c]) 32))
  exact bodyPost_ret (results_cell2 rfl _ _ (w.heap.size + 1 + 1 + 1) 32 #[.slice A u.length c] (0, 0) _ rfl R_504.out Try.underlying32 rfl (by kernel_rfl) rfl) rfl ⟨rfl, B505.out⟩
set_option maxHeartbeats 8000000 in
set_option maxRecDepth 100000 in
theorem rmay5E_T (u : List S57) (A : Option Addr) (c : Nat) (e k v z : Int) (w : World) (h0 : e ≠ 0) (h6 : e ≠ 6) (h7 : e ≠ 7) :
    Calls Try.prog 19 #[.agg #[.slice A u.length c], .agg #[.int .i64 5, .int .u64 k, .int .u64 v, .int .i64 z], .agg #[.int .i64 e, .bool false, .int .u64 0]] w fun e_ w' => e_ = .returned (.tuple #[.agg #[.slice none 0 0], .bool false]) ∧ Below w.heap.size w w' := by
  have hu32 := Try.underlying32
  have hu39 := Try.underlying39
  have hu35 := Try.underlying35
  have h01 := eq_false h0
  have h02 : (e == 0) = false := beq_eq_false_iff_ne.2 h0
  have h03 : (e != 0) = true := by simp [h0]
  clear h0
  have h61 := eq_false h6
  have h62 : (e == 6) = false := beq_eq_false_iff_ne.2 h6
  have h63 : (e != 6) = true := by simp [h6]
  clear h6
  have h71 := eq_false h7
  have h72 : (e == 7) = false := beq_eq_false_iff_ne.2 h7
  have h73 : (e != 7) = true := by simp [h7]
  clear h7
  have L_U := Aside0.mk (show w.heap.size ≤ w.heap.size from Nat.le_refl _)
  have L_O := Aside0.mk (show w.heap.size ≤ w.heap.size + 1 from by have := L_U.out; omega)
  have NE_U_O := Aside0.mk (show w.heap.size ≠ w.heap.size + 1 by omega)
  have L_An := Aside0.mk (show w.heap.size ≤ w.heap.size + 1 + 1 from by have := L_U.out; omega)
  have NE_U_An := Aside0.mk (show w.heap.size ≠ w.heap.size + 1 + 1 by omega)
  have NE_O_An := Aside0.mk (show w.heap.size + 1 ≠ w.heap.size + 1 + 1 by omega)
  have L_R := Aside0.mk (show w.heap.size ≤ w.heap.size + 1 + 1 + 1 from by have := L_U.out; omega)
  have NE_U_R := Aside0.mk (show w.heap.size ≠ w.heap.size + 1 + 1 + 1 by omega)
  have NE_O_R := Aside0.mk (show w.heap.size + 1 ≠ w.heap.size + 1 + 1 + 1 by omega)
  have NE_An_R := Aside0.mk (show w.heap.size + 1 + 1 ≠ w.heap.size + 1 + 1 + 1 by omega)
  have U_1 := Aside0.mk (blk_alloc (blk_alloc (blk_alloc (blk_new (w) (.cells (#[.slice A u.length c]) 32)) (.cells (#[.int .i64 5, .int .u64 k, .int .u64 v, .int .i64 z]) 39)) (.cells (#[.int .i64 e, .bool false, .int .u64 0]) 35)) (.cells #[.slice none 0 0] 32))
  have O_2 := Aside0.mk (blk_alloc (blk_alloc (blk_new2 (w) (.cells (#[.slice A u.length c]) 32) (.cells (#[.int .i64 5, .int .u64 k, .int .u64 v, .int .i64 z]) 39)) (.cells (#[.int .i64 e, .bool false, .int .u64 0]) 35)) (.cells #[.slice none 0 0] 32))
  have An_3 := Aside0.mk (blk_alloc (blk_new3 (w) (.cells (#[.slice A u.length c]) 32) (.cells (#[.int .i64 5, .int .u64 k, .int .u64 v, .int .i64 z]) 39) (.cells (#[.int .i64 e, .bool false, .int .u64 0]) 35)) (.cells #[.slice none 0 0] 32))
  have R_4 := Aside0.mk (blk_new4 (w) (.cells (#[.slice A u.length c]) 32) (.cells (#[.int .i64 5, .int .u64 k, .int .u64 v, .int .i64 z]) 39) (.cells (#[.int .i64 e, .bool false, .int .u64 0]) 35) (.cells #[.slice none 0 0] 32))
  have B5 := Aside0.mk (below_alloc (below_alloc (below_alloc (below_alloc (Below.refl w.heap.size w) (.cells (#[.slice A u.length c]) 32)) (.cells (#[.int .i64 5, .int .u64 k, .int .u64 v, .int .i64 z]) 39)) (.cells (#[.int .i64 e, .bool false, .int .u64 0]) 35)) (.cells #[.slice none 0 0] 32))
  go_enter Try.func19, Try.ntmps19
  go_wp2_with fail
  have R_504 := Aside0.mk (blk_new4 (w) (.cells (#[.slice A u.length c]) 32) (.cells (#[.int .i64 5, .int .u64 k, .int .u64 v, .int .i64 z]) 39) (.cells (#[.int .i64 e, .bool false, .int .u64 0]) 35) (.cells (#[.slice none 0 0]) 32))
  have B505 := Aside0.mk (below_alloc (below_alloc (below_alloc (below_alloc (Below.refl w.heap.size w) (.cells (#[.slice A u.length c]) 32)) (.cells (#[.int .i64 5, .int .u64 k, .int .u64 v, .int .i64 z]) 39)) (.cells (#[.int .i64 e, .bool false, .int .u64 0]) 35)) (.cells (#[.slice none 0 0]) 32))
  exact bodyPost_ret (results_cell2 rfl _ _ (w.heap.size + 1 + 1 + 1) 32 #[.slice none 0 0] (0, 0) _ rfl R_504.out Try.underlying32 rfl (by kernel_rfl) rfl) rfl ⟨rfl, B505.out⟩
set_option maxHeartbeats 8000000 in
set_option maxRecDepth 100000 in
theorem rmay86_T (u : List S57) (A : Option Addr) (c : Nat) ( k v z : Int) (w : World) :
    Calls Try.prog 19 #[.agg #[.slice A u.length c], .agg #[.int .i64 8, .int .u64 k, .int .u64 v, .int .i64 z], .agg #[.int .i64 6, .bool false, .int .u64 0]] w fun e_ w' => e_ = .returned (.tuple #[.agg #[.slice none 0 0], .bool false]) ∧ Below w.heap.size w w' := by
  have hu32 := Try.underlying32
  have hu39 := Try.underlying39
  have hu35 := Try.underlying35
  have L_U := Aside0.mk (show w.heap.size ≤ w.heap.size from Nat.le_refl _)
  have L_O := Aside0.mk (show w.heap.size ≤ w.heap.size + 1 from by have := L_U.out; omega)
  have NE_U_O := Aside0.mk (show w.heap.size ≠ w.heap.size + 1 by omega)
  have L_An := Aside0.mk (show w.heap.size ≤ w.heap.size + 1 + 1 from by have := L_U.out; omega)
  have NE_U_An := Aside0.mk (show w.heap.size ≠ w.heap.size + 1 + 1 by omega)
  have NE_O_An := Aside0.mk (show w.heap.size + 1 ≠ w.heap.size + 1 + 1 by omega)
  have L_R := Aside0.mk (show w.heap.size ≤ w.heap.size + 1 + 1 + 1 from by have := L_U.out; omega)
  have NE_U_R := Aside0.mk (show w.heap.size ≠ w.heap.size + 1 + 1 + 1 by omega)
  have NE_O_R := Aside0.mk (show w.heap.size + 1 ≠ w.heap.size + 1 + 1 + 1 by omega)
  have NE_An_R := Aside0.mk (show w.heap.size + 1 + 1 ≠ w.heap.size + 1 + 1 + 1 by omega)
  have U_1 := Aside0.mk (blk_alloc (blk_alloc (blk_alloc (blk_new (w) (.cells (#[.slice A u.length c]) 32)) (.cells (#[.int .i64 8, .int .u64 k, .int .u64 v, .int .i64 z]) 39)) (.cells (#[.int .i64 6, .bool false, .int .u64 0]) 35)) (.cells #[.slice none 0 0] 32))
  have O_2 := Aside0.mk (blk_alloc (blk_alloc (blk_new2 (w) (.cells (#[.slice A u.length c]) 32) (.cells (#[.int .i64 8, .int .u64 k, .int .u64 v, .int .i64 z]) 39)) (.cells (#[.int .i64 6, .bool false, .int .u64 0]) 35)) (.cells #[.slice none 0 0] 32))
  have An_3 := Aside0.mk (blk_alloc (blk_new3 (w) (.cells (#[.slice A u.length c]) 32) (.cells (#[.int .i64 8, .int .u64 k, .int .u64 v, .int .i64 z]) 39) (.cells (#[.int .i64 6, .bool false, .int .u64 0]) 35)) (.cells #[.slice none 0 0] 32))
  have R_4 := Aside0.mk (blk_new4 (w) (.cells (#[.slice A u.length c]) 32) (.cells (#[.int .i64 8, .int .u64 k, .int .u64 v, .int .i64 z]) 39) (.cells (#[.int .i64 6, .bool false, .int .u64 0]) 35) (.cells #[.slice none 0 0] 32))
  have B5 := Aside0.mk (below_alloc (below_alloc (below_alloc (below_alloc (Below.refl w.heap.size w) (.cells (#[.slice A u.length c]) 32)) (.cells (#[.int .i64 8, .int .u64 k, .int .u64 v, .int .i64 z]) 39)) (.cells (#[.int .i64 6, .bool false, .int .u64 0]) 35)) (.cells #[.slice none 0 0] 32))
  go_enter Try.func19, Try.ntmps19
  go_wp2_with fail
  have R_504 := Aside0.mk (blk_new4 (w) (.cells (#[.slice A u.length c]) 32) (.cells (#[.int .i64 8, .int .u64 k, .int .u64 v, .int .i64 z]) 39) (.cells (#[.int .i64 6, .bool false, .int .u64 0]) 35) (.cells (#[.slice none 0 0]) 32))
  have B505 := Aside0.mk (below_alloc (below_alloc (below_alloc (below_alloc (Below.refl w.heap.size w) (.cells (#[.slice A u.length c]) 32)) (.cells (#[.int .i64 8, .int .u64 k, .int .u64 v, .int .i64 z]) 39)) (.cells (#[.int .i64 6, .bool false, .int .u64 0]) 35)) (.cells (#[.slice none 0 0]) 32))
  exact bodyPost_ret (results_cell2 rfl _ _ (w.heap.size + 1 + 1 + 1) 32 #[.slice none 0 0] (0, 0) _ rfl R_504.out Try.underlying32 rfl (by kernel_rfl) rfl) rfl ⟨rfl, B505.out⟩
set_option maxHeartbeats 8000000 in
set_option maxRecDepth 100000 in
theorem rmay87_T (u : List S57) (A : Option Addr) (c : Nat) ( k v z : Int) (w : World) :
    Calls Try.prog 19 #[.agg #[.slice A u.length c], .agg #[.int .i64 8, .int .u64 k, .int .u64 v, .int .i64 z], .agg #[.int .i64 7, .bool false, .int .u64 0]] w fun e_ w' => e_ = .returned (.tuple #[.agg #[.slice A u.length c], .bool true]) ∧ Below w.heap.size w w' := by
  have hu32 := Try.underlying32
  have hu39 := Try.underlying39
  have hu35 := Try.underlying35
  have L_U := Aside0.mk (show w.heap.size ≤ w.heap.size from Nat.le_refl _)
  have L_O := Aside0.mk (show w.heap.size ≤ w.heap.size + 1 from by have := L_U.out; omega)
  have NE_U_O := Aside0.mk (show w.heap.size ≠ w.heap.size + 1 by omega)
  have L_An := Aside0.mk (show w.heap.size ≤ w.heap.size + 1 + 1 from by have := L_U.out; omega)
  have NE_U_An := Aside0.mk (show w.heap.size ≠ w.heap.size + 1 + 1 by omega)
  have NE_O_An := Aside0.mk (show w.heap.size + 1 ≠ w.heap.size + 1 + 1 by omega)
  have L_R := Aside0.mk (show w.heap.size ≤ w.heap.size + 1 + 1 + 1 from by have := L_U.out; omega)
  have NE_U_R := Aside0.mk (show w.heap.size ≠ w.heap.size + 1 + 1 + 1 by omega)
  have NE_O_R := Aside0.mk (show w.heap.size + 1 ≠ w.heap.size + 1 + 1 + 1 by omega)
  have NE_An_R := Aside0.mk (show w.heap.size + 1 + 1 ≠ w.heap.size + 1 + 1 + 1 by omega)
  have U_1 := Aside0.mk (blk_alloc (blk_alloc (blk_alloc (blk_new (w) (.cells (#[.slice A u.length c]) 32)) (.cells (#[.int .i64 8, .int .u64 k, .int .u64 v, .int .i64 z]) 39)) (.cells (#[.int .i64 7, .bool false, .int .u64 0]) 35)) (.cells #[.slice none 0 0] 32))
  have O_2 := Aside0.mk (blk_alloc (blk_alloc (blk_new2 (w) (.cells (#[.slice A u.length c]) 32) (.cells (#[.int .i64 8, .int .u64 k, .int .u64 v, .int .i64 z]) 39)) (.cells (#[.int .i64 7, .bool false, .int .u64 0]) 35)) (.cells #[.slice none 0 0] 32))
  have An_3 := Aside0.mk (blk_alloc (blk_new3 (w) (.cells (#[.slice A u.length c]) 32) (.cells (#[.int .i64 8, .int .u64 k, .int .u64 v, .int .i64 z]) 39) (.cells (#[.int .i64 7, .bool false, .int .u64 0]) 35)) (.cells #[.slice none 0 0] 32))
  have R_4 := Aside0.mk (blk_new4 (w) (.cells (#[.slice A u.length c]) 32) (.cells (#[.int .i64 8, .int .u64 k, .int .u64 v, .int .i64 z]) 39) (.cells (#[.int .i64 7, .bool false, .int .u64 0]) 35) (.cells #[.slice none 0 0] 32))
  have B5 := Aside0.mk (below_alloc (below_alloc (below_alloc (below_alloc (Below.refl w.heap.size w) (.cells (#[.slice A u.length c]) 32)) (.cells (#[.int .i64 8, .int .u64 k, .int .u64 v, .int .i64 z]) 39)) (.cells (#[.int .i64 7, .bool false, .int .u64 0]) 35)) (.cells #[.slice none 0 0] 32))
  go_enter Try.func19, Try.ntmps19
  go_wp2_with fail
  have R_504 := Aside0.mk (blk_new4 (w) (.cells (#[.slice A u.length c]) 32) (.cells (#[.int .i64 8, .int .u64 k, .int .u64 v, .int .i64 z]) 39) (.cells (#[.int .i64 7, .bool false, .int .u64 0]) 35) (.cells (#[.slice A u.length c]) 32))
  have B505 := Aside0.mk (below_alloc (below_alloc (below_alloc (below_alloc (Below.refl w.heap.size w) (.cells (#[.slice A u.length c]) 32)) (.cells (#[.int .i64 8, .int .u64 k, .int .u64 v, .int .i64 z]) 39)) (.cells (#[.int .i64 7, .bool false, .int .u64 0]) 35)) (.cells (#[.slice A u.length c]) 32))
  exact bodyPost_ret (results_cell2 rfl _ _ (w.heap.size + 1 + 1 + 1) 32 #[.slice A u.length c] (0, 0) _ rfl R_504.out Try.underlying32 rfl (by kernel_rfl) rfl) rfl ⟨rfl, B505.out⟩
set_option maxHeartbeats 8000000 in
set_option maxRecDepth 100000 in
theorem rmay8E_T (u : List S57) (A : Option Addr) (c : Nat) (e k v z : Int) (w : World) (h0 : e ≠ 0) (h6 : e ≠ 6) (h7 : e ≠ 7) :
    Calls Try.prog 19 #[.agg #[.slice A u.length c], .agg #[.int .i64 8, .int .u64 k, .int .u64 v, .int .i64 z], .agg #[.int .i64 e, .bool false, .int .u64 0]] w fun e_ w' => e_ = .returned (.tuple #[.agg #[.slice none 0 0], .bool false]) ∧ Below w.heap.size w w' := by
  have hu32 := Try.underlying32
  have hu39 := Try.underlying39
  have hu35 := Try.underlying35
  have h01 := eq_false h0
  have h02 : (e == 0) = false := beq_eq_false_iff_ne.2 h0
  have h03 : (e != 0) = true := by simp [h0]
  clear h0
  have h61 := eq_false h6
  have h62 : (e == 6) = false := beq_eq_false_iff_ne.2 h6
  have h63 : (e != 6) = true := by simp [h6]
  clear h6
  have h71 := eq_false h7
  have h72 : (e == 7) = false := beq_eq_false_iff_ne.2 h7
  have h73 : (e != 7) = true := by simp [h7]
  clear h7
  have L_U := Aside0.mk (show w.heap.size ≤ w.heap.size from Nat.le_refl _)
  have L_O := Aside0.mk (show w.heap.size ≤ w.heap.size + 1 from by have := L_U.out; omega)
  have NE_U_O := Aside0.mk (show w.heap.size ≠ w.heap.size + 1 by omega)
  have L_An := Aside0.mk (show w.heap.size ≤ w.heap.size + 1 + 1 from by have := L_U.out; omega)
  have NE_U_An := Aside0.mk (show w.heap.size ≠ w.heap.size + 1 + 1 by omega)
  have NE_O_An := Aside0.mk (show w.heap.size + 1 ≠ w.heap.size + 1 + 1 by omega)
  have L_R := Aside0.mk (show w.heap.size ≤ w.heap.size + 1 + 1 + 1 from by have := L_U.out; omega)
  have NE_U_R := Aside0.mk (show w.heap.size ≠ w.heap.size + 1 + 1 + 1 by omega)
  have NE_O_R := Aside0.mk (show w.heap.size + 1 ≠ w.heap.size + 1 + 1 + 1 by omega)
  have NE_An_R := Aside0.mk (show w.heap.size + 1 + 1 ≠ w.heap.size + 1 + 1 + 1 by omega)
  have U_1 := Aside0.mk (blk_alloc (blk_alloc (blk_alloc (blk_new (w) (.cells (#[.slice A u.length c]) 32)) (.cells (#[.int .i64 8, .int .u64 k, .int .u64 v, .int .i64 z]) 39)) (.cells (#[.int .i64 e, .bool false, .int .u64 0]) 35)) (.cells #[.slice none 0 0] 32))
  have O_2 := Aside0.mk (blk_alloc (blk_alloc (blk_new2 (w) (.cells (#[.slice A u.length c]) 32) (.cells (#[.int .i64 8, .int .u64 k, .int .u64 v, .int .i64 z]) 39)) (.cells (#[.int .i64 e, .bool false, .int .u64 0]) 35)) (.cells #[.slice none 0 0] 32))
  have An_3 := Aside0.mk (blk_alloc (blk_new3 (w) (.cells (#[.slice A u.length c]) 32) (.cells (#[.int .i64 8, .int .u64 k, .int .u64 v, .int .i64 z]) 39) (.cells (#[.int .i64 e, .bool false, .int .u64 0]) 35)) (.cells #[.slice none 0 0] 32))
  have R_4 := Aside0.mk (blk_new4 (w) (.cells (#[.slice A u.length c]) 32) (.cells (#[.int .i64 8, .int .u64 k, .int .u64 v, .int .i64 z]) 39) (.cells (#[.int .i64 e, .bool false, .int .u64 0]) 35) (.cells #[.slice none 0 0] 32))
  have B5 := Aside0.mk (below_alloc (below_alloc (below_alloc (below_alloc (Below.refl w.heap.size w) (.cells (#[.slice A u.length c]) 32)) (.cells (#[.int .i64 8, .int .u64 k, .int .u64 v, .int .i64 z]) 39)) (.cells (#[.int .i64 e, .bool false, .int .u64 0]) 35)) (.cells #[.slice none 0 0] 32))
  go_enter Try.func19, Try.ntmps19
  go_wp2_with fail
  have R_504 := Aside0.mk (blk_new4 (w) (.cells (#[.slice A u.length c]) 32) (.cells (#[.int .i64 8, .int .u64 k, .int .u64 v, .int .i64 z]) 39) (.cells (#[.int .i64 e, .bool false, .int .u64 0]) 35) (.cells (#[.slice none 0 0]) 32))
  have B505 := Aside0.mk (below_alloc (below_alloc (below_alloc (below_alloc (Below.refl w.heap.size w) (.cells (#[.slice A u.length c]) 32)) (.cells (#[.int .i64 8, .int .u64 k, .int .u64 v, .int .i64 z]) 39)) (.cells (#[.int .i64 e, .bool false, .int .u64 0]) 35)) (.cells (#[.slice none 0 0]) 32))
  exact bodyPost_ret (results_cell2 rfl _ _ (w.heap.size + 1 + 1 + 1) 32 #[.slice none 0 0] (0, 0) _ rfl R_504.out Try.underlying32 rfl (by kernel_rfl) rfl) rfl ⟨rfl, B505.out⟩
set_option maxHeartbeats 8000000 in
set_option maxRecDepth 100000 in
theorem rmayN6_T (u : List S57) (A : Option Addr) (c : Nat) (kd k v z : Int) (w : World) (hk : ¬ (kd = 1 ∨ kd = 4 ∨ kd = 5 ∨ kd = 8)) :
    Calls Try.prog 19 #[.agg #[.slice A u.length c], .agg #[.int .i64 kd, .int .u64 k, .int .u64 v, .int .i64 z], .agg #[.int .i64 6, .bool false, .int .u64 0]] w fun e_ w' => e_ = .returned (.tuple #[.agg #[.slice none 0 0], .bool false]) ∧ Below w.heap.size w w' := by
  have hu32 := Try.underlying32
  have hu39 := Try.underlying39
  have hu35 := Try.underlying35
  have k1 : kd ≠ 1 := by omega
  have k11 := eq_false k1
  have k12 : (kd == 1) = false := beq_eq_false_iff_ne.2 k1
  have k13 : (kd != 1) = true := by simp [k1]
  clear k1
  have k4 : kd ≠ 4 := by omega
  have k41 := eq_false k4
  have k42 : (kd == 4) = false := beq_eq_false_iff_ne.2 k4
  have k43 : (kd != 4) = true := by simp [k4]
  clear k4
  have k5 : kd ≠ 5 := by omega
  have k51 := eq_false k5
  have k52 : (kd == 5) = false := beq_eq_false_iff_ne.2 k5
  have k53 : (kd != 5) = true := by simp [k5]
  clear k5
  have k8 : kd ≠ 8 := by omega
  have k81 := eq_false k8
  have k82 : (kd == 8) = false := beq_eq_false_iff_ne.2 k8
  have k83 : (kd != 8) = true := by simp [k8]
  clear k8
  clear hk
  have L_U := Aside0.mk (show w.heap.size ≤ w.heap.size from Nat.le_refl _)
  have L_O := Aside0.mk (show w.heap.size ≤ w.heap.size + 1 from by have := L_U.out; omega)
  have NE_U_O := Aside0.mk (show w.heap.size ≠ w.heap.size + 1 by omega)
  have L_An := Aside0.mk (show w.heap.size ≤ w.heap.size + 1 + 1 from by have := L_U.out; omega)
  have NE_U_An := Aside0.mk (show w.heap.size ≠ w.heap.size + 1 + 1 by omega)
  have NE_O_An := Aside0.mk (show w.heap.size + 1 ≠ w.heap.size + 1 + 1 by omega)
  have L_R := Aside0.mk (show w.heap.size ≤ w.heap.size + 1 + 1 + 1 from by have := L_U.out; omega)
  have NE_U_R := Aside0.mk (show w.heap.size ≠ w.heap.size + 1 + 1 + 1 by omega)
  have NE_O_R := Aside0.mk (show w.heap.size + 1 ≠ w.heap.size + 1 + 1 + 1 by omega)
  have NE_An_R := Aside0.mk (show w.heap.size + 1 + 1 ≠ w.heap.size + 1 + 1 + 1 by omega)
  have U_1 := Aside0.mk (blk_alloc (blk_alloc (blk_alloc (blk_new (w) (.cells (#[.slice A u.length c]) 32)) (.cells (#[.int .i64 kd, .int .u64 k, .int .u64 v, .int .i64 z]) 39)) (.cells (#[.int .i64 6, .bool false, .int .u64 0]) 35)) (.cells #[.slice none 0 0] 32))
  have O_2 := Aside0.mk (blk_alloc (blk_alloc (blk_new2 (w) (.cells (#[.slice A u.length c]) 32) (.cells (#[.int .i64 kd, .int .u64 k, .int .u64 v, .int .i64 z]) 39)) (.cells (#[.int .i64 6, .bool false, .int .u64 0]) 35)) (.cells #[.slice none 0 0] 32))
  have An_3 := Aside0.mk (blk_alloc (blk_new3 (w) (.cells (#[.slice A u.length c]) 32) (.cells (#[.int .i64 kd, .int .u64 k, .int .u64 v, .int .i64 z]) 39) (.cells (#[.int .i64 6, .bool false, .int .u64 0]) 35)) (.cells #[.slice none 0 0] 32))
  have R_4 := Aside0.mk (blk_new4 (w) (.cells (#[.slice A u.length c]) 32) (.cells (#[.int .i64 kd, .int .u64 k, .int .u64 v, .int .i64 z]) 39) (.cells (#[.int .i64 6, .bool false, .int .u64 0]) 35) (.cells #[.slice none 0 0] 32))
  have B5 := Aside0.mk (below_alloc (below_alloc (below_alloc (below_alloc (Below.refl w.heap.size w) (.cells (#[.slice A u.length c]) 32)) (.cells (#[.int .i64 kd, .int .u64 k, .int .u64 v, .int .i64 z]) 39)) (.cells (#[.int .i64 6, .bool false, .int .u64 0]) 35)) (.cells #[.slice none 0 0] 32))
  go_enter Try.func19, Try.ntmps19
  go_wp2_with fail
  have R_504 := Aside0.mk (blk_new4 (w) (.cells (#[.slice A u.length c]) 32) (.cells (#[.int .i64 kd, .int .u64 k, .int .u64 v, .int .i64 z]) 39) (.cells (#[.int .i64 6, .bool false, .int .u64 0]) 35) (.cells (#[.slice none 0 0]) 32))
  have B505 := Aside0.mk (below_alloc (below_alloc (below_alloc (below_alloc (Below.refl w.heap.size w) (.cells (#[.slice A u.length c]) 32)) (.cells (#[.int .i64 kd, .int .u64 k, .int .u64 v, .int .i64 z]) 39)) (.cells (#[.int .i64 6, .bool false, .int .u64 0]) 35)) (.cells (#[.slice none 0 0]) 32))
  exact bodyPost_ret (results_cell2 rfl _ _ (w.heap.size + 1 + 1 + 1) 32 #[.slice none 0 0] (0, 0) _ rfl R_504.out Try.underlying32 rfl (by kernel_rfl) rfl) rfl ⟨rfl, B505.out⟩
set_option maxHeartbeats 8000000 in
set_option maxRecDepth 100000 in
theorem rmayN7_T (u : List S57) (A : Option Addr) (c : Nat) (kd k v z : Int) (w : World) (hk : ¬ (kd = 1 ∨ kd = 4 ∨ kd = 5 ∨ kd = 8)) :
    Calls Try.prog 19 #[.agg #[.slice A u.length c], .agg #[.int .i64 kd, .int .u64 k, .int .u64 v, .int .i64 z], .agg #[.int .i64 7, .bool false, .int .u64 0]] w fun e_ w' => e_ = .returned (.tuple #[.agg #[.slice none 0 0], .bool false]) ∧ Below w.heap.size w w' := by
  have hu32 := Try.underlying32
  have hu39 := Try.underlying39
  have hu35 := Try.underlying35
  have k1 : kd ≠ 1 := by omega
  have k11 := eq_false k1
  have k12 : (kd == 1) = false := beq_eq_false_iff_ne.2 k1
  have k13 : (kd != 1) = true := by simp [k1]
  clear k1
  have k4 : kd ≠ 4 := by omega
  have k41 := eq_false k4
  have k42 : (kd == 4) = false := beq_eq_false_iff_ne.2 k4
  have k43 : (kd != 4) = true := by simp [k4]
  clear k4
  have k5 : kd ≠ 5 := by omega
  have k51 := eq_false k5
  have k52 : (kd == 5) = false := beq_eq_false_iff_ne.2 k5
  have k53 : (kd != 5) = true := by simp [k5]
  clear k5
  have k8 : kd ≠ 8 := by omega
  have k81 := eq_false k8
  have k82 : (kd == 8) = false := beq_eq_false_iff_ne.2 k8
  have k83 : (kd != 8) = true := by simp [k8]
  clear k8
  clear hk
  have L_U := Aside0.mk (show w.heap.size ≤ w.heap.size from Nat.le_refl _)
  have L_O := Aside0.mk (show w.heap.size ≤ w.heap.size + 1 from by have := L_U.out; omega)
  have NE_U_O := Aside0.mk (show w.heap.size ≠ w.heap.size + 1 by omega)
  have L_An := Aside0.mk (show w.heap.size ≤ w.heap.size + 1 + 1 from by have := L_U.out; omega)
  have NE_U_An := Aside0.mk (show w.heap.size ≠ w.heap.size + 1 + 1 by omega)
  have NE_O_An := Aside0.mk (show w.heap.size + 1 ≠ w.heap.size + 1 + 1 by omega)
  have L_R := Aside0.mk (show w.heap.size ≤ w.heap.size + 1 + 1 + 1 from by have := L_U.out; omega)
  have NE_U_R := Aside0.mk (show w.heap.size ≠ w.heap.size + 1 + 1 + 1 by omega)
  have NE_O_R := Aside0.mk (show w.heap.size + 1 ≠ w.heap.size + 1 + 1 + 1 by omega)
  have NE_An_R := Aside0.mk (show w.heap.size + 1 + 1 ≠ w.heap.size + 1 + 1 + 1 by omega)
  have U_1 := Aside0.mk (blk_alloc (blk_alloc (blk_alloc (blk_new (w) (.cells (#[.slice A u.length c]) 32)) (.cells (#[.int .i64 kd, .int .u64 k, .int .u64 v, .int .i64 z]) 39)) (.cells (#[.int .i64 7, .bool false, .int .u64 0]) 35)) (.cells #[.slice none 0 0] 32))
  have O_2 := Aside0.mk (blk_alloc (blk_alloc (blk_new2 (w) (.cells (#[.slice A u.length c]) 32) (.cells (#[.int .i64 kd, .int .u64 k, .int .u64 v, .int .i64 z]) 39)) (.cells (#[.int .i64 7, .bool false, .int .u64 0]) 35)) (.cells #[.slice none 0 0] 32))
  have An_3 := Aside0.mk (blk_alloc (blk_new3 (w) (.cells (#[.slice A u.length c]) 32) (.cells (#[.int .i64 kd, .int .u64 k, .int .u64 v, .int .i64 z]) 39) (.cells (#[.int .i64 7, .bool false, .int .u64 0]) 35)) (.cells #[.slice none 0 0] 32))
  have R_4 := Aside0.mk (blk_new4 (w) (.cells (#[.slice A u.length c]) 32) (.cells (#[.int .i64 kd, .int .u64 k, .int .u64 v, .int .i64 z]) 39) (.cells (#[.int .i64 7, .bool false, .int .u64 0]) 35) (.cells #[.slice none 0 0] 32))
  have B5 := Aside0.mk (below_alloc (below_alloc (below_alloc (below_alloc (Below.refl w.heap.size w) (.cells (#[.slice A u.length c]) 32)) (.cells (#[.int .i64 kd, .int .u64 k, .int .u64 v, .int .i64 z]) 39)) (.cells (#[.int .i64 7, .bool false, .int .u64 0]) 35)) (.cells #[.slice none 0 0] 32))
  go_enter Try.func19, Try.ntmps19
  go_wp2_with fail
  have R_504 := Aside0.mk (blk_new4 (w) (.cells (#[.slice A u.length c]) 32) (.cells (#[.int .i64 kd, .int .u64 k, .int .u64 v, .int .i64 z]) 39) (.cells (#[.int .i64 7, .bool false, .int .u64 0]) 35) (.cells (#[.slice none 0 0]) 32))
  have B505 := Aside0.mk (below_alloc (below_alloc (below_alloc (below_alloc (Below.refl w.heap.size w) (.cells (#[.slice A u.length c]) 32)) (.cells (#[.int .i64 kd, .int .u64 k, .int .u64 v, .int .i64 z]) 39)) (.cells (#[.int .i64 7, .bool false, .int .u64 0]) 35)) (.cells (#[.slice none 0 0]) 32))
  exact bodyPost_ret (results_cell2 rfl _ _ (w.heap.size + 1 + 1 + 1) 32 #[.slice none 0 0] (0, 0) _ rfl R_504.out Try.underlying32 rfl (by kernel_rfl) rfl) rfl ⟨rfl, B505.out⟩
set_option maxHeartbeats 8000000 in
set_option maxRecDepth 100000 in
theorem rmayNE_T (u : List S57) (A : Option Addr) (c : Nat) (kd e k v z : Int) (w : World) (hk : ¬ (kd = 1 ∨ kd = 4 ∨ kd = 5 ∨ kd = 8)) (h0 : e ≠ 0) (h6 : e ≠ 6) (h7 : e ≠ 7) :
    Calls Try.prog 19 #[.agg #[.slice A u.length c], .agg #[.int .i64 kd, .int .u64 k, .int .u64 v, .int .i64 z], .agg #[.int .i64 e, .bool false, .int .u64 0]] w fun e_ w' => e_ = .returned (.tuple #[.agg #[.slice none 0 0], .bool false]) ∧ Below w.heap.size w w' := by
  have hu32 := Try.underlying32
  have hu39 := Try.underlying39
  have hu35 := Try.underlying35
  have k1 : kd ≠ 1 := by omega
  have k11 := eq_false k1
  have k12 : (kd == 1) = false := beq_eq_false_iff_ne.2 k1
  have k13 : (kd != 1) = true := by simp [k1]
  clear k1
  have k4 : kd ≠ 4 := by omega
  have k41 := eq_false k4
  have k42 : (kd == 4) = false := beq_eq_false_iff_ne.2 k4
  have k43 : (kd != 4) = true := by simp [k4]
  clear k4
  have k5 : kd ≠ 5 := by omega
  have k51 := eq_false k5
  have k52 : (kd == 5) = false := beq_eq_false_iff_ne.2 k5
  have k53 : (kd != 5) = true := by simp [k5]
  clear k5
  have k8 : kd ≠ 8 := by omega
  have k81 := eq_false k8
  have k82 : (kd == 8) = false := beq_eq_false_iff_ne.2 k8
  have k83 : (kd != 8) = true := by simp [k8]
  clear k8
  clear hk
  have h01 := eq_false h0
  have h02 : (e == 0) = false := beq_eq_false_iff_ne.2 h0
  have h03 : (e != 0) = true := by simp [h0]
  clear h0
  have h61 := eq_false h6
  have h62 : (e == 6) = false := beq_eq_false_iff_ne.2 h6
  have h63 : (e != 6) = true := by simp [h6]
  clear h6
  have h71 := eq_false h7
  have h72 : (e == 7) = false := beq_eq_false_iff_ne.2 h7
  have h73 : (e != 7) = true := by simp [h7]
  clear h7
  have L_U := Aside0.mk (show w.heap.size ≤ w.heap.size from Nat.le_refl _)
  have L_O := Aside0.mk (show w.heap.size ≤ w.heap.size + 1 from by have := L_U.out; omega)
  have NE_U_O := Aside0.mk (show w.heap.size ≠ w.heap.size + 1 by omega)
  have L_An := Aside0.mk (show w.heap.size ≤ w.heap.size + 1 + 1 from by have := L_U.out; omega)
  have NE_U_An := Aside0.mk (show w.heap.size ≠ w.heap.size + 1 + 1 by omega)
  have NE_O_An := Aside0.mk (show w.heap.size + 1 ≠ w.heap.size + 1 + 1 by omega)
  have L_R := Aside0.mk (show w.heap.size ≤ w.heap.size + 1 + 1 + 1 from by have := L_U.out; omega)
  have NE_U_R := Aside0.mk (show w.heap.size ≠ w.heap.size + 1 + 1 + 1 by omega)
  have NE_O_R := Aside0.mk (show w.heap.size + 1 ≠ w.heap.size + 1 + 1 + 1 by omega)
  have NE_An_R := Aside0.mk (show w.heap.size + 1 + 1 ≠ w.heap.size + 1 + 1 + 1 by omega)
  have U_1 := Aside0.mk (blk_alloc (blk_alloc (blk_alloc (blk_new (w) (.cells (#[.slice A u.length c]) 32)) (.cells (#[.int .i64 kd, .int .u64 k, .int .u64 v, .int .i64 z]) 39)) (.cells (#[.int .i64 e, .bool false, .int .u64 0]) 35)) (.cells #[.slice none 0 0] 32))
  have O_2 := Aside0.mk (blk_alloc (blk_alloc (blk_new2 (w) (.cells (#[.slice A u.length c]) 32) (.cells (#[.int .i64 kd, .int .u64 k, .int .u64 v, .int .i64 z]) 39)) (.cells (#[.int .i64 e, .bool false, .int .u64 0]) 35)) (.cells #[.slice none 0 0] 32))
  have An_3 := Aside0.mk (blk_alloc (blk_new3 (w) (.cells (#[.slice A u.length c]) 32) (.cells (#[.int .i64 kd, .int .u64 k, .int .u64 v, .int .i64 z]) 39) (.cells (#[.int .i64 e, .bool false, .int .u64 0]) 35)) (.cells #[.slice none 0 0] 32))
  have R_4 := Aside0.mk (blk_new4 (w) (.cells (#[.slice A u.length c]) 32) (.cells (#[.int .i64 kd, .int .u64 k, .int .u64 v, .int .i64 z]) 39) (.cells (#[.int .i64 e, .bool false, .int .u64 0]) 35) (.cells #[.slice none 0 0] 32))
  have B5 := Aside0.mk (below_alloc (below_alloc (below_alloc (below_alloc (Below.refl w.heap.size w) (.cells (#[.slice A u.length c]) 32)) (.cells (#[.int .i64 kd, .int .u64 k, .int .u64 v, .int .i64 z]) 39)) (.cells (#[.int .i64 e, .bool false, .int .u64 0]) 35)) (.cells #[.slice none 0 0] 32))
  go_enter Try.func19, Try.ntmps19
  go_wp2_with fail
  have R_504 := Aside0.mk (blk_new4 (w) (.cells (#[.slice A u.length c]) 32) (.cells (#[.int .i64 kd, .int .u64 k, .int .u64 v, .int .i64 z]) 39) (.cells (#[.int .i64 e, .bool false, .int .u64 0]) 35) (.cells (#[.slice none 0 0]) 32))
  have B505 := Aside0.mk (below_alloc (below_alloc (below_alloc (below_alloc (Below.refl w.heap.size w) (.cells (#[.slice A u.length c]) 32)) (.cells (#[.int .i64 kd, .int .u64 k, .int .u64 v, .int .i64 z]) 39)) (.cells (#[.int .i64 e, .bool false, .int .u64 0]) 35)) (.cells (#[.slice none 0 0]) 32))
  exact bodyPost_ret (results_cell2 rfl _ _ (w.heap.size + 1 + 1 + 1) 32 #[.slice none 0 0] (0, 0) _ rfl R_504.out Try.underlying32 rfl (by kernel_rfl) rfl) rfl ⟨rfl, B505.out⟩
set_option maxHeartbeats 8000000 in
set_option maxRecDepth 100000 in
theorem rmayc_T (u m : List S57) (A : Option Addr) (c : Nat) (kd x k v z : Int) (d : Bool) (d2 : Bool) (x2 c2 : Int) (w : World) (B : Nat) (hR : Kd.R k57 57 w B (fun _ => True) (.slice A u.length c) u) (hc : u.length ≤ c) (hB : B ≤ w.heap.size) (hl : u.length ≤ 16) (hD : doU u kd k v = (m, (0, d2, x2), c2)) (h2 : c2 ≠ 0) :
    Calls Try.prog 19 #[.agg #[.slice A u.length c], .agg #[.int .i64 kd, .int .u64 k, .int .u64 v, .int .i64 z], .agg #[.int .i64 0, .bool d, .int .u64 x]] w fun e_ w' => e_ = .returned (.tuple #[.agg #[.slice none 0 0], .bool false]) ∧ Below w.heap.size w w' := by
  have hu32 := Try.underlying32
  have hu39 := Try.underlying39
  have hu35 := Try.underlying35
  have h21 := eq_false h2
  have h22 : (c2 == 0) = false := beq_eq_false_iff_ne.2 h2
  have h23 : (c2 != 0) = true := by simp [h2]
  clear h2
  have HR := Aside0.mk hR
  have HC := Aside0.mk hc
  have HB := Aside0.mk hB
  have HL := Aside0.mk hl
  have HD := Aside0.mk hD
  clear hR hc hB hl hD
  have L_U := Aside0.mk (show w.heap.size ≤ w.heap.size from Nat.le_refl _)
  have L_O := Aside0.mk (show w.heap.size ≤ w.heap.size + 1 from by have := L_U.out; omega)
  have NE_U_O := Aside0.mk (show w.heap.size ≠ w.heap.size + 1 by omega)
  have L_An := Aside0.mk (show w.heap.size ≤ w.heap.size + 1 + 1 from by have := L_U.out; omega)
  have NE_U_An := Aside0.mk (show w.heap.size ≠ w.heap.size + 1 + 1 by omega)
  have NE_O_An := Aside0.mk (show w.heap.size + 1 ≠ w.heap.size + 1 + 1 by omega)
  have L_R := Aside0.mk (show w.heap.size ≤ w.heap.size + 1 + 1 + 1 from by have := L_U.out; omega)
  have NE_U_R := Aside0.mk (show w.heap.size ≠ w.heap.size + 1 + 1 + 1 by omega)
  have NE_O_R := Aside0.mk (show w.heap.size + 1 ≠ w.heap.size + 1 + 1 + 1 by omega)
  have NE_An_R := Aside0.mk (show w.heap.size + 1 + 1 ≠ w.heap.size + 1 + 1 + 1 by omega)
  have U_1 := Aside0.mk (blk_alloc (blk_alloc (blk_alloc (blk_new (w) (.cells (#[.slice A u.length c]) 32)) (.cells (#[.int .i64 kd, .int .u64 k, .int .u64 v, .int .i64 z]) 39)) (.cells (#[.int .i64 0, .bool d, .int .u64 x]) 35)) (.cells #[.slice none 0 0] 32))
  have O_2 := Aside0.mk (blk_alloc (blk_alloc (blk_new2 (w) (.cells (#[.slice A u.length c]) 32) (.cells (#[.int .i64 kd, .int .u64 k, .int .u64 v, .int .i64 z]) 39)) (.cells (#[.int .i64 0, .bool d, .int .u64 x]) 35)) (.cells #[.slice none 0 0] 32))
  have An_3 := Aside0.mk (blk_alloc (blk_new3 (w) (.cells (#[.slice A u.length c]) 32) (.cells (#[.int .i64 kd, .int .u64 k, .int .u64 v, .int .i64 z]) 39) (.cells (#[.int .i64 0, .bool d, .int .u64 x]) 35)) (.cells #[.slice none 0 0] 32))
  have R_4 := Aside0.mk (blk_new4 (w) (.cells (#[.slice A u.length c]) 32) (.cells (#[.int .i64 kd, .int .u64 k, .int .u64 v, .int .i64 z]) 39) (.cells (#[.int .i64 0, .bool d, .int .u64 x]) 35) (.cells #[.slice none 0 0] 32))
  have B5 := Aside0.mk (below_alloc (below_alloc (below_alloc (below_alloc (Below.refl w.heap.size w) (.cells (#[.slice A u.length c]) 32)) (.cells (#[.int .i64 kd, .int .u64 k, .int .u64 v, .int .i64 z]) 39)) (.cells (#[.int .i64 0, .bool d, .int .u64 x]) 35)) (.cells #[.slice none 0 0] 32))
  go_enter Try.func19, Try.ntmps19
  go_wp2_with (first
    | ((with_reducible refine wpLd 32 (.tmp 3) ?_); refine wpList_load_row_g (by rfl) 32 (.tmp 3) rfl (w.heap.size) rfl 32 (#[.slice A u.length c]) (0, 0) _ U_1.out Try.underlying32 rfl (by kernel_rfl) ?_)
    | ((with_reducible refine wpLd 39 (.tmp 4) ?_); refine wpList_load_row_g (by rfl) 39 (.tmp 4) rfl (w.heap.size + 1) rfl 39 (#[.int .i64 kd, .int .u64 k, .int .u64 v, .int .i64 z]) (0, 0) _ O_2.out Try.underlying39 rfl (by kernel_rfl) ?_))
  refine (doU_T u A c kd k v z B _ (Kd.R_below HR.out B5.out) HC.out (Nat.le_trans HB.out B5.out.size) HL.out).mono ?_
  rw [HD.out]
  rintro e_ w3 ⟨v0, rfl, hR, hb⟩
  obtain ⟨A2, c2_, rfl, hc2, -⟩ := Kd.R_reads hR
  have HC2 := Aside0.mk hc2
  have X_950 := Aside0.mk hR
  clear hR hc2
  have U_6 := Aside0.mk (blk_below U_1.out hb)
  have O_7 := Aside0.mk (blk_below O_2.out hb)
  have An_8 := Aside0.mk (blk_below An_3.out hb)
  have R_9 := Aside0.mk (blk_below R_4.out hb)
  have B10 := Aside0.mk (below_step B5.out hb)
  clear hb B5 U_1 O_2 An_3 R_4
  have L_N := Aside0.mk (show w.heap.size ≤ w3.heap.size from B10.out.size)
  have NE_U_N := Aside0.mk (show w.heap.size ≠ w3.heap.size by have := blk_lt U_6.out; omega)
  have NE_O_N := Aside0.mk (show w.heap.size + 1 ≠ w3.heap.size by have := blk_lt O_7.out; omega)
  have NE_An_N := Aside0.mk (show w.heap.size + 1 + 1 ≠ w3.heap.size by have := blk_lt An_8.out; omega)
  have NE_R_N := Aside0.mk (show w.heap.size + 1 + 1 + 1 ≠ w3.heap.size by have := blk_lt R_9.out; omega)
  have L_W := Aside0.mk (show w.heap.size ≤ w3.heap.size + 1 from by have := L_N.out; omega)
  have NE_U_W := Aside0.mk (show w.heap.size ≠ w3.heap.size + 1 by have := blk_lt U_6.out; omega)
  have NE_O_W := Aside0.mk (show w.heap.size + 1 ≠ w3.heap.size + 1 by have := blk_lt O_7.out; omega)
  have NE_An_W := Aside0.mk (show w.heap.size + 1 + 1 ≠ w3.heap.size + 1 by have := blk_lt An_8.out; omega)
  have NE_R_W := Aside0.mk (show w.heap.size + 1 + 1 + 1 ≠ w3.heap.size + 1 by have := blk_lt R_9.out; omega)
  have NE_N_W := Aside0.mk (show w3.heap.size ≠ w3.heap.size + 1 by omega)
  have U_11 := Aside0.mk (blk_alloc (blk_alloc U_6.out (.cells #[.slice none 0 0] 32)) (.cells #[.int .i64 0, .bool false, .int .u64 0] 35))
  have O_12 := Aside0.mk (blk_alloc (blk_alloc O_7.out (.cells #[.slice none 0 0] 32)) (.cells #[.int .i64 0, .bool false, .int .u64 0] 35))
  have An_13 := Aside0.mk (blk_alloc (blk_alloc An_8.out (.cells #[.slice none 0 0] 32)) (.cells #[.int .i64 0, .bool false, .int .u64 0] 35))
  have R_14 := Aside0.mk (blk_alloc (blk_alloc R_9.out (.cells #[.slice none 0 0] 32)) (.cells #[.int .i64 0, .bool false, .int .u64 0] 35))
  have N_15 := Aside0.mk (blk_alloc (blk_new (w3) (.cells #[.slice none 0 0] 32)) (.cells #[.int .i64 0, .bool false, .int .u64 0] 35))
  have W_16 := Aside0.mk (blk_new2 (w3) (.cells #[.slice none 0 0] 32) (.cells #[.int .i64 0, .bool false, .int .u64 0] 35))
  have B17 := Aside0.mk (below_alloc (below_alloc B10.out (.cells #[.slice none 0 0] 32)) (.cells #[.int .i64 0, .bool false, .int .u64 0] 35))
  clear U_6 O_7 An_8 R_9 B10
  have X_18 := Aside0.mk (Kd.R_alloc (Kd.R_alloc (X_950.out) (.cells #[.slice none 0 0] 32)) (.cells #[.int .i64 0, .bool false, .int .u64 0] 35))
  clear X_950
  go_wp2_with (first
    | ((with_reducible refine wpSt 32 (.tmp 9) (.tmp 61) ?_); refine store_whole (w := w) (B := w.heap.size) rfl rfl 32 (.tmp 9) (.tmp 61) rfl (g := w3.heap.size) (cs := #[.slice A2 m.length c2_]) rfl _ rfl rfl (by kernel_rfl) (by simp [Value.oneCell']) N_15.out (rfl) L_N.out B17.out ?_; intro w_19 h1 h2 h3 h4; have X_20 := Aside0.mk (row_far X_18.out N_15.out (by decide) h3); have U_21 := Aside0.mk ((h3 _ NE_U_N.out).trans U_11.out); have O_22 := Aside0.mk ((h3 _ NE_O_N.out).trans O_12.out); have An_23 := Aside0.mk ((h3 _ NE_An_N.out).trans An_13.out); have R_24 := Aside0.mk ((h3 _ NE_R_N.out).trans R_14.out); have N_25 := Aside0.mk (h1); have W_26 := Aside0.mk ((h3 _ (Ne.symm NE_N_W.out)).trans W_16.out); have B27 := Aside0.mk (h2); clear h1 h2 h3 h4 X_18 U_11 O_12 An_13 R_14 N_15 W_16 B17)
    | ((with_reducible refine wpSt 35 (.tmp 10) (.tmp 62) ?_); refine store_whole (w := w) (B := w.heap.size) rfl rfl 35 (.tmp 10) (.tmp 62) rfl (g := w3.heap.size + 1) (cs := #[.int .i64 0, .bool d2, .int .u64 x2]) rfl _ rfl rfl (by kernel_rfl) (by simp [Value.oneCell']) W_26.out (rfl) L_W.out B27.out ?_; intro w_28 h1 h2 h3 h4; have X_29 := Aside0.mk (row_far X_20.out W_26.out (by decide) h3); have U_30 := Aside0.mk ((h3 _ NE_U_W.out).trans U_21.out); have O_31 := Aside0.mk ((h3 _ NE_O_W.out).trans O_22.out); have An_32 := Aside0.mk ((h3 _ NE_An_W.out).trans An_23.out); have R_33 := Aside0.mk ((h3 _ NE_R_W.out).trans R_24.out); have N_34 := Aside0.mk ((h3 _ NE_N_W.out).trans N_25.out); have W_35 := Aside0.mk (h1); have B36 := Aside0.mk (h2); clear h1 h2 h3 h4 X_20 U_21 O_22 An_23 R_24 N_25 W_26 B27; have ca0 : w_28.cell? ⟨w.heap.size + 1 + 1, 0, none⟩ = some (.int .i64 0) := (blk_cell An_32.out 0).trans rfl; have ca1 : w_28.cell? ⟨w.heap.size + 1 + 1, 1, none⟩ = some (.bool d) := (blk_cell An_32.out 1).trans rfl; have ca2 : w_28.cell? ⟨w.heap.size + 1 + 1, 2, none⟩ = some (.int .u64 x) := (blk_cell An_32.out 2).trans rfl; have cw0 : w_28.cell? ⟨w3.heap.size + 1, 0, none⟩ = some (.int .i64 0) := (blk_cell W_35.out 0).trans rfl; have cw1 : w_28.cell? ⟨w3.heap.size + 1, 1, none⟩ = some (.bool d2) := (blk_cell W_35.out 1).trans rfl; have cw2 : w_28.cell? ⟨w3.heap.size + 1, 2, none⟩ = some (.int .u64 x2) := (blk_cell W_35.out 2).trans rfl; have co0 : w_28.cell? ⟨w.heap.size + 1, 0, none⟩ = some (.int .i64 kd) := (blk_cell O_31.out 0).trans rfl; have co1 : w_28.cell? ⟨w.heap.size + 1, 1, none⟩ = some (.int .u64 k) := (blk_cell O_31.out 1).trans rfl; have co2 : w_28.cell? ⟨w.heap.size + 1, 2, none⟩ = some (.int .u64 v) := (blk_cell O_31.out 2).trans rfl)
    | ((with_reducible refine wpSt 32 (.tmp 6) (.tmp 85) ?_); refine store_whole (w := w) (B := w.heap.size) rfl rfl 32 (.tmp 6) (.tmp 85) rfl (g := w.heap.size + 1 + 1 + 1) (cs := #[.slice none 0 0]) rfl _ rfl rfl (by kernel_rfl) (by simp [Value.oneCell']) R_33.out (rfl) L_R.out B36.out ?_; intro w_37 h1 h2 h3 h4; have X_38 := Aside0.mk (row_far X_29.out R_33.out (by decide) h3); have U_39 := Aside0.mk ((h3 _ NE_U_R.out).trans U_30.out); have O_40 := Aside0.mk ((h3 _ NE_O_R.out).trans O_31.out); have An_41 := Aside0.mk ((h3 _ NE_An_R.out).trans An_32.out); have R_42 := Aside0.mk (h1); have N_43 := Aside0.mk ((h3 _ (Ne.symm NE_R_N.out)).trans N_34.out); have W_44 := Aside0.mk ((h3 _ (Ne.symm NE_R_W.out)).trans W_35.out); have B45 := Aside0.mk (h2); clear h1 h2 h3 h4 X_29 U_30 O_31 An_32 R_33 N_34 W_35 B36))
  exact bodyPost_ret (results_cell2 rfl _ _ (w.heap.size + 1 + 1 + 1) 32 #[.slice none 0 0] (0, 0) _ rfl R_42.out Try.underlying32 rfl (by kernel_rfl) rfl) rfl ⟨rfl, B45.out⟩
set_option maxHeartbeats 8000000 in
set_option maxRecDepth 100000 in
theorem rmayb_T (u m : List S57) (A : Option Addr) (c : Nat) (kd x k v z : Int) (d : Bool) (d2 : Bool) (x2 c2 : Int) (w : World) (B : Nat) (hR : Kd.R k57 57 w B (fun _ => True) (.slice A u.length c) u) (hc : u.length ≤ c) (hB : B ≤ w.heap.size) (hl : u.length ≤ 16) (hD : doU u kd k v = (m, (0, d2, x2), 0)) (h2 : d ≠ d2) :
    Calls Try.prog 19 #[.agg #[.slice A u.length c], .agg #[.int .i64 kd, .int .u64 k, .int .u64 v, .int .i64 z], .agg #[.int .i64 0, .bool d, .int .u64 x]] w fun e_ w' => e_ = .returned (.tuple #[.agg #[.slice none 0 0], .bool false]) ∧ Below w.heap.size w w' := by
  have hu32 := Try.underlying32
  have hu39 := Try.underlying39
  have hu35 := Try.underlying35
  have h23 : (d != d2) = true := by simp [h2]
  have h22 : (d == d2) = false := beq_eq_false_iff_ne.2 h2
  have h21 := eq_false h2
  clear h2
  have HR := Aside0.mk hR
  have HC := Aside0.mk hc
  have HB := Aside0.mk hB
  have HL := Aside0.mk hl
  have HD := Aside0.mk hD
  clear hR hc hB hl hD
  have L_U := Aside0.mk (show w.heap.size ≤ w.heap.size from Nat.le_refl _)
  have L_O := Aside0.mk (show w.heap.size ≤ w.heap.size + 1 from by have := L_U.out; omega)
  have NE_U_O := Aside0.mk (show w.heap.size ≠ w.heap.size + 1 by omega)
  have L_An := Aside0.mk (show w.heap.size ≤ w.heap.size + 1 + 1 from by have := L_U.out; omega)
  have NE_U_An := Aside0.mk (show w.heap.size ≠ w.heap.size + 1 + 1 by omega)
  have NE_O_An := Aside0.mk (show w.heap.size + 1 ≠ w.heap.size + 1 + 1 by omega)
  have L_R := Aside0.mk (show w.heap.size ≤ w.heap.size + 1 + 1 + 1 from by have := L_U.out; omega)
  have NE_U_R := Aside0.mk (show w.heap.size ≠ w.heap.size + 1 + 1 + 1 by omega)
  have NE_O_R := Aside0.mk (show w.heap.size + 1 ≠ w.heap.size + 1 + 1 + 1 by omega)
  have NE_An_R := Aside0.mk (show w.heap.size + 1 + 1 ≠ w.heap.size + 1 + 1 + 1 by omega)
  have U_1 := Aside0.mk (blk_alloc (blk_alloc (blk_alloc (blk_new (w) (.cells (#[.slice A u.length c]) 32)) (.cells (#[.int .i64 kd, .int .u64 k, .int .u64 v, .int .i64 z]) 39)) (.cells (#[.int .i64 0, .bool d, .int .u64 x]) 35)) (.cells #[.slice none 0 0] 32))
  have O_2 := Aside0.mk (blk_alloc (blk_alloc (blk_new2 (w) (.cells (#[.slice A u.length c]) 32) (.cells (#[.int .i64 kd, .int .u64 k, .int .u64 v, .int .i64 z]) 39)) (.cells (#[.int .i64 0, .bool d, .int .u64 x]) 35)) (.cells #[.slice none 0 0] 32))
  have An_3 := Aside0.mk (blk_alloc (blk_new3 (w) (.cells (#[.slice A u.length c]) 32) (.cells (#[.int .i64 kd, .int .u64 k, .int .u64 v, .int .i64 z]) 39) (.cells (#[.int .i64 0, .bool d, .int .u64 x]) 35)) (.cells #[.slice none 0 0] 32))
  have R_4 := Aside0.mk (blk_new4 (w) (.cells (#[.slice A u.length c]) 32) (.cells (#[.int .i64 kd, .int .u64 k, .int .u64 v, .int .i64 z]) 39) (.cells (#[.int .i64 0, .bool d, .int .u64 x]) 35) (.cells #[.slice none 0 0] 32))
  have B5 := Aside0.mk (below_alloc (below_alloc (below_alloc (below_alloc (Below.refl w.heap.size w) (.cells (#[.slice A u.length c]) 32)) (.cells (#[.int .i64 kd, .int .u64 k, .int .u64 v, .int .i64 z]) 39)) (.cells (#[.int .i64 0, .bool d, .int .u64 x]) 35)) (.cells #[.slice none 0 0] 32))
  go_enter Try.func19, Try.ntmps19
  go_wp2_with (first
    | ((with_reducible refine wpLd 32 (.tmp 3) ?_); refine wpList_load_row_g (by rfl) 32 (.tmp 3) rfl (w.heap.size) rfl 32 (#[.slice A u.length c]) (0, 0) _ U_1.out Try.underlying32 rfl (by kernel_rfl) ?_)
    | ((with_reducible refine wpLd 39 (.tmp 4) ?_); refine wpList_load_row_g (by rfl) 39 (.tmp 4) rfl (w.heap.size + 1) rfl 39 (#[.int .i64 kd, .int .u64 k, .int .u64 v, .int .i64 z]) (0, 0) _ O_2.out Try.underlying39 rfl (by kernel_rfl) ?_))
  refine (doU_T u A c kd k v z B _ (Kd.R_below HR.out B5.out) HC.out (Nat.le_trans HB.out B5.out.size) HL.out).mono ?_
  rw [HD.out]
  rintro e_ w3 ⟨v0, rfl, hR, hb⟩
  obtain ⟨A2, c2_, rfl, hc2, -⟩ := Kd.R_reads hR
  have HC2 := Aside0.mk hc2
  have X_950 := Aside0.mk hR
  clear hR hc2
  have U_6 := Aside0.mk (blk_below U_1.out hb)
  have O_7 := Aside0.mk (blk_below O_2.out hb)
  have An_8 := Aside0.mk (blk_below An_3.out hb)
  have R_9 := Aside0.mk (blk_below R_4.out hb)
  have B10 := Aside0.mk (below_step B5.out hb)
  clear hb B5 U_1 O_2 An_3 R_4
  have L_N := Aside0.mk (show w.heap.size ≤ w3.heap.size from B10.out.size)
  have NE_U_N := Aside0.mk (show w.heap.size ≠ w3.heap.size by have := blk_lt U_6.out; omega)
  have NE_O_N := Aside0.mk (show w.heap.size + 1 ≠ w3.heap.size by have := blk_lt O_7.out; omega)
  have NE_An_N := Aside0.mk (show w.heap.size + 1 + 1 ≠ w3.heap.size by have := blk_lt An_8.out; omega)
  have NE_R_N := Aside0.mk (show w.heap.size + 1 + 1 + 1 ≠ w3.heap.size by have := blk_lt R_9.out; omega)
  have L_W := Aside0.mk (show w.heap.size ≤ w3.heap.size + 1 from by have := L_N.out; omega)
  have NE_U_W := Aside0.mk (show w.heap.size ≠ w3.heap.size + 1 by have := blk_lt U_6.out; omega)
  have NE_O_W := Aside0.mk (show w.heap.size + 1 ≠ w3.heap.size + 1 by have := blk_lt O_7.out; omega)
  have NE_An_W := Aside0.mk (show w.heap.size + 1 + 1 ≠ w3.heap.size + 1 by have := blk_lt An_8.out; omega)
  have NE_R_W := Aside0.mk (show w.heap.size + 1 + 1 + 1 ≠ w3.heap.size + 1 by have := blk_lt R_9.out; omega)
  have NE_N_W := Aside0.mk (show w3.heap.size ≠ w3.heap.size + 1 by omega)
  have U_11 := Aside0.mk (blk_alloc (blk_alloc U_6.out (.cells #[.slice none 0 0] 32)) (.cells #[.int .i64 0, .bool false, .int .u64 0] 35))
  have O_12 := Aside0.mk (blk_alloc (blk_alloc O_7.out (.cells #[.slice none 0 0] 32)) (.cells #[.int .i64 0, .bool false, .int .u64 0] 35))
  have An_13 := Aside0.mk (blk_alloc (blk_alloc An_8.out (.cells #[.slice none 0 0] 32)) (.cells #[.int .i64 0, .bool false, .int .u64 0] 35))
  have R_14 := Aside0.mk (blk_alloc (blk_alloc R_9.out (.cells #[.slice none 0 0] 32)) (.cells #[.int .i64 0, .bool false, .int .u64 0] 35))
  have N_15 := Aside0.mk (blk_alloc (blk_new (w3) (.cells #[.slice none 0 0] 32)) (.cells #[.int .i64 0, .bool false, .int .u64 0] 35))
  have W_16 := Aside0.mk (blk_new2 (w3) (.cells #[.slice none 0 0] 32) (.cells #[.int .i64 0, .bool false, .int .u64 0] 35))
  have B17 := Aside0.mk (below_alloc (below_alloc B10.out (.cells #[.slice none 0 0] 32)) (.cells #[.int .i64 0, .bool false, .int .u64 0] 35))
  clear U_6 O_7 An_8 R_9 B10
  have X_18 := Aside0.mk (Kd.R_alloc (Kd.R_alloc (X_950.out) (.cells #[.slice none 0 0] 32)) (.cells #[.int .i64 0, .bool false, .int .u64 0] 35))
  clear X_950
  go_wp2_with (first
    | ((with_reducible refine wpSt 32 (.tmp 9) (.tmp 61) ?_); refine store_whole (w := w) (B := w.heap.size) rfl rfl 32 (.tmp 9) (.tmp 61) rfl (g := w3.heap.size) (cs := #[.slice A2 m.length c2_]) rfl _ rfl rfl (by kernel_rfl) (by simp [Value.oneCell']) N_15.out (rfl) L_N.out B17.out ?_; intro w_19 h1 h2 h3 h4; have X_20 := Aside0.mk (row_far X_18.out N_15.out (by decide) h3); have U_21 := Aside0.mk ((h3 _ NE_U_N.out).trans U_11.out); have O_22 := Aside0.mk ((h3 _ NE_O_N.out).trans O_12.out); have An_23 := Aside0.mk ((h3 _ NE_An_N.out).trans An_13.out); have R_24 := Aside0.mk ((h3 _ NE_R_N.out).trans R_14.out); have N_25 := Aside0.mk (h1); have W_26 := Aside0.mk ((h3 _ (Ne.symm NE_N_W.out)).trans W_16.out); have B27 := Aside0.mk (h2); clear h1 h2 h3 h4 X_18 U_11 O_12 An_13 R_14 N_15 W_16 B17)
    | ((with_reducible refine wpSt 35 (.tmp 10) (.tmp 62) ?_); refine store_whole (w := w) (B := w.heap.size) rfl rfl 35 (.tmp 10) (.tmp 62) rfl (g := w3.heap.size + 1) (cs := #[.int .i64 0, .bool d2, .int .u64 x2]) rfl _ rfl rfl (by kernel_rfl) (by simp [Value.oneCell']) W_26.out (rfl) L_W.out B27.out ?_; intro w_28 h1 h2 h3 h4; have X_29 := Aside0.mk (row_far X_20.out W_26.out (by decide) h3); have U_30 := Aside0.mk ((h3 _ NE_U_W.out).trans U_21.out); have O_31 := Aside0.mk ((h3 _ NE_O_W.out).trans O_22.out); have An_32 := Aside0.mk ((h3 _ NE_An_W.out).trans An_23.out); have R_33 := Aside0.mk ((h3 _ NE_R_W.out).trans R_24.out); have N_34 := Aside0.mk ((h3 _ NE_N_W.out).trans N_25.out); have W_35 := Aside0.mk (h1); have B36 := Aside0.mk (h2); clear h1 h2 h3 h4 X_20 U_21 O_22 An_23 R_24 N_25 W_26 B27; have ca0 : w_28.cell? ⟨w.heap.size + 1 + 1, 0, none⟩ = some (.int .i64 0) := (blk_cell An_32.out 0).trans rfl; have ca1 : w_28.cell? ⟨w.heap.size + 1 + 1, 1, none⟩ = some (.bool d) := (blk_cell An_32.out 1).trans rfl; have ca2 : w_28.cell? ⟨w.heap.size + 1 + 1, 2, none⟩ = some (.int .u64 x) := (blk_cell An_32.out 2).trans rfl; have cw0 : w_28.cell? ⟨w3.heap.size + 1, 0, none⟩ = some (.int .i64 0) := (blk_cell W_35.out 0).trans rfl; have cw1 : w_28.cell? ⟨w3.heap.size + 1, 1, none⟩ = some (.bool d2) := (blk_cell W_35.out 1).trans rfl; have cw2 : w_28.cell? ⟨w3.heap.size + 1, 2, none⟩ = some (.int .u64 x2) := (blk_cell W_35.out 2).trans rfl; have co0 : w_28.cell? ⟨w.heap.size + 1, 0, none⟩ = some (.int .i64 kd) := (blk_cell O_31.out 0).trans rfl; have co1 : w_28.cell? ⟨w.heap.size + 1, 1, none⟩ = some (.int .u64 k) := (blk_cell O_31.out 1).trans rfl; have co2 : w_28.cell? ⟨w.heap.size + 1, 2, none⟩ = some (.int .u64 v) := (blk_cell O_31.out 2).trans rfl)
    | ((with_reducible refine wpSt 32 (.tmp 6) (.tmp 85) ?_); refine store_whole (w := w) (B := w.heap.size) rfl rfl 32 (.tmp 6) (.tmp 85) rfl (g := w.heap.size + 1 + 1 + 1) (cs := #[.slice none 0 0]) rfl _ rfl rfl (by kernel_rfl) (by simp [Value.oneCell']) R_33.out (rfl) L_R.out B36.out ?_; intro w_37 h1 h2 h3 h4; have X_38 := Aside0.mk (row_far X_29.out R_33.out (by decide) h3); have U_39 := Aside0.mk ((h3 _ NE_U_R.out).trans U_30.out); have O_40 := Aside0.mk ((h3 _ NE_O_R.out).trans O_31.out); have An_41 := Aside0.mk ((h3 _ NE_An_R.out).trans An_32.out); have R_42 := Aside0.mk (h1); have N_43 := Aside0.mk ((h3 _ (Ne.symm NE_R_N.out)).trans N_34.out); have W_44 := Aside0.mk ((h3 _ (Ne.symm NE_R_W.out)).trans W_35.out); have B45 := Aside0.mk (h2); clear h1 h2 h3 h4 X_29 U_30 O_31 An_32 R_33 N_34 W_35 B36))
  exact bodyPost_ret (results_cell2 rfl _ _ (w.heap.size + 1 + 1 + 1) 32 #[.slice none 0 0] (0, 0) _ rfl R_42.out Try.underlying32 rfl (by kernel_rfl) rfl) rfl ⟨rfl, B45.out⟩
set_option maxHeartbeats 8000000 in
set_option maxRecDepth 100000 in
theorem rmayx_T (u m : List S57) (A : Option Addr) (c : Nat) (kd x k v z : Int) (d2 : Bool) (x2 c2 : Int) (w : World) (B : Nat) (hR : Kd.R k57 57 w B (fun _ => True) (.slice A u.length c) u) (hc : u.length ≤ c) (hB : B ≤ w.heap.size) (hl : u.length ≤ 16) (hD : doU u kd k v = (m, (0, d2, x2), 0)) (h2 : x ≠ x2) (h8 : kd ≠ 8) :
    Calls Try.prog 19 #[.agg #[.slice A u.length c], .agg #[.int .i64 kd, .int .u64 k, .int .u64 v, .int .i64 z], .agg #[.int .i64 0, .bool d2, .int .u64 x]] w fun e_ w' => e_ = .returned (.tuple #[.agg #[.slice none 0 0], .bool false]) ∧ Below w.heap.size w w' := by
  have hu32 := Try.underlying32
  have hu39 := Try.underlying39
  have hu35 := Try.underlying35
  have t1 : (d2 != d2) = false := by simp
  have h21 := eq_false h2
  have h22 : (x == x2) = false := beq_eq_false_iff_ne.2 h2
  have h23 : (x != x2) = true := by simp [h2]
  clear h2
  have h81 := eq_false h8
  have h82 : (kd == 8) = false := beq_eq_false_iff_ne.2 h8
  have h83 : (kd != 8) = true := by simp [h8]
  clear h8
  have HR := Aside0.mk hR
  have HC := Aside0.mk hc
  have HB := Aside0.mk hB
  have HL := Aside0.mk hl
  have HD := Aside0.mk hD
  clear hR hc hB hl hD
  have L_U := Aside0.mk (show w.heap.size ≤ w.heap.size from Nat.le_refl _)
  have L_O := Aside0.mk (show w.heap.size ≤ w.heap.size + 1 from by have := L_U.out; omega)
  have NE_U_O := Aside0.mk (show w.heap.size ≠ w.heap.size + 1 by omega)
  have L_An := Aside0.mk (show w.heap.size ≤ w.heap.size + 1 + 1 from by have := L_U.out; omega)
  have NE_U_An := Aside0.mk (show w.heap.size ≠ w.heap.size + 1 + 1 by omega)
  have NE_O_An := Aside0.mk (show w.heap.size + 1 ≠ w.heap.size + 1 + 1 by omega)
  have L_R := Aside0.mk (show w.heap.size ≤ w.heap.size + 1 + 1 + 1 from by have := L_U.out; omega)
  have NE_U_R := Aside0.mk (show w.heap.size ≠ w.heap.size + 1 + 1 + 1 by omega)
  have NE_O_R := Aside0.mk (show w.heap.size + 1 ≠ w.heap.size + 1 + 1 + 1 by omega)
  have NE_An_R := Aside0.mk (show w.heap.size + 1 + 1 ≠ w.heap.size + 1 + 1 + 1 by omega)
  have U_1 := Aside0.mk (blk_alloc (blk_alloc (blk_alloc (blk_new (w) (.cells (#[.slice A u.length c]) 32)) (.cells (#[.int .i64 kd, .int .u64 k, .int .u64 v, .int .i64 z]) 39)) (.cells (#[.int .i64 0, .bool d2, .int .u64 x]) 35)) (.cells #[.slice none 0 0] 32))
  have O_2 := Aside0.mk (blk_alloc (blk_alloc (blk_new2 (w) (.cells (#[.slice A u.length c]) 32) (.cells (#[.int .i64 kd, .int .u64 k, .int .u64 v, .int .i64 z]) 39)) (.cells (#[.int .i64 0, .bool d2, .int .u64 x]) 35)) (.cells #[.slice none 0 0] 32))
  have An_3 := Aside0.mk (blk_alloc (blk_new3 (w) (.cells (#[.slice A u.length c]) 32) (.cells (#[.int .i64 kd, .int .u64 k, .int .u64 v, .int .i64 z]) 39) (.cells (#[.int .i64 0, .bool d2, .int .u64 x]) 35)) (.cells #[.slice none 0 0] 32))
  have R_4 := Aside0.mk (blk_new4 (w) (.cells (#[.slice A u.length c]) 32) (.cells (#[.int .i64 kd, .int .u64 k, .int .u64 v, .int .i64 z]) 39) (.cells (#[.int .i64 0, .bool d2, .int .u64 x]) 35) (.cells #[.slice none 0 0] 32))
  have B5 := Aside0.mk (below_alloc (below_alloc (below_alloc (below_alloc (Below.refl w.heap.size w) (.cells (#[.slice A u.length c]) 32)) (.cells (#[.int .i64 kd, .int .u64 k, .int .u64 v, .int .i64 z]) 39)) (.cells (#[.int .i64 0, .bool d2, .int .u64 x]) 35)) (.cells #[.slice none 0 0] 32))
  go_enter Try.func19, Try.ntmps19
  go_wp2_with (first
    | ((with_reducible refine wpLd 32 (.tmp 3) ?_); refine wpList_load_row_g (by rfl) 32 (.tmp 3) rfl (w.heap.size) rfl 32 (#[.slice A u.length c]) (0, 0) _ U_1.out Try.underlying32 rfl (by kernel_rfl) ?_)
    | ((with_reducible refine wpLd 39 (.tmp 4) ?_); refine wpList_load_row_g (by rfl) 39 (.tmp 4) rfl (w.heap.size + 1) rfl 39 (#[.int .i64 kd, .int .u64 k, .int .u64 v, .int .i64 z]) (0, 0) _ O_2.out Try.underlying39 rfl (by kernel_rfl) ?_))
  refine (doU_T u A c kd k v z B _ (Kd.R_below HR.out B5.out) HC.out (Nat.le_trans HB.out B5.out.size) HL.out).mono ?_
  rw [HD.out]
  rintro e_ w3 ⟨v0, rfl, hR, hb⟩
  obtain ⟨A2, c2_, rfl, hc2, -⟩ := Kd.R_reads hR
  have HC2 := Aside0.mk hc2
  have X_950 := Aside0.mk hR
  clear hR hc2
  have U_6 := Aside0.mk (blk_below U_1.out hb)
  have O_7 := Aside0.mk (blk_below O_2.out hb)
  have An_8 := Aside0.mk (blk_below An_3.out hb)
  have R_9 := Aside0.mk (blk_below R_4.out hb)
  have B10 := Aside0.mk (below_step B5.out hb)
  clear hb B5 U_1 O_2 An_3 R_4
  have L_N := Aside0.mk (show w.heap.size ≤ w3.heap.size from B10.out.size)
  have NE_U_N := Aside0.mk (show w.heap.size ≠ w3.heap.size by have := blk_lt U_6.out; omega)
  have NE_O_N := Aside0.mk (show w.heap.size + 1 ≠ w3.heap.size by have := blk_lt O_7.out; omega)
  have NE_An_N := Aside0.mk (show w.heap.size + 1 + 1 ≠ w3.heap.size by have := blk_lt An_8.out; omega)
  have NE_R_N := Aside0.mk (show w.heap.size + 1 + 1 + 1 ≠ w3.heap.size by have := blk_lt R_9.out; omega)
  have L_W := Aside0.mk (show w.heap.size ≤ w3.heap.size + 1 from by have := L_N.out; omega)
  have NE_U_W := Aside0.mk (show w.heap.size ≠ w3.heap.size + 1 by have := blk_lt U_6.out; omega)
  have NE_O_W := Aside0.mk (show w.heap.size + 1 ≠ w3.heap.size + 1 by have := blk_lt O_7.out; omega)
  have NE_An_W := Aside0.mk (show w.heap.size + 1 + 1 ≠ w3.heap.size + 1 by have := blk_lt An_8.out; omega)
  have NE_R_W := Aside0.mk (show w.heap.size + 1 + 1 + 1 ≠ w3.heap.size + 1 by have := blk_lt R_9.out; omega)
  have NE_N_W := Aside0.mk (show w3.heap.size ≠ w3.heap.size + 1 by omega)
  have U_11 := Aside0.mk (blk_alloc (blk_alloc U_6.out (.cells #[.slice none 0 0] 32)) (.cells #[.int .i64 0, .bool false, .int .u64 0] 35))
  have O_12 := Aside0.mk (blk_alloc (blk_alloc O_7.out (.cells #[.slice none 0 0] 32)) (.cells #[.int .i64 0, .bool false, .int .u64 0] 35))
  have An_13 := Aside0.mk (blk_alloc (blk_alloc An_8.out (.cells #[.slice none 0 0] 32)) (.cells #[.int .i64 0, .bool false, .int .u64 0] 35))
  have R_14 := Aside0.mk (blk_alloc (blk_alloc R_9.out (.cells #[.slice none 0 0] 32)) (.cells #[.int .i64 0, .bool false, .int .u64 0] 35))
  have N_15 := Aside0.mk (blk_alloc (blk_new (w3) (.cells #[.slice none 0 0] 32)) (.cells #[.int .i64 0, .bool false, .int .u64 0] 35))
  have W_16 := Aside0.mk (blk_new2 (w3) (.cells #[.slice none 0 0] 32) (.cells #[.int .i64 0, .bool false, .int .u64 0] 35))
  have B17 := Aside0.mk (below_alloc (below_alloc B10.out (.cells #[.slice none 0 0] 32)) (.cells #[.int .i64 0, .bool false, .int .u64 0] 35))
  clear U_6 O_7 An_8 R_9 B10
  have X_18 := Aside0.mk (Kd.R_alloc (Kd.R_alloc (X_950.out) (.cells #[.slice none 0 0] 32)) (.cells #[.int .i64 0, .bool false, .int .u64 0] 35))
  clear X_950
  go_wp2_with (first
    | ((with_reducible refine wpSt 32 (.tmp 9) (.tmp 61) ?_); refine store_whole (w := w) (B := w.heap.size) rfl rfl 32 (.tmp 9) (.tmp 61) rfl (g := w3.heap.size) (cs := #[.slice A2 m.length c2_]) rfl _ rfl rfl (by kernel_rfl) (by simp [Value.oneCell']) N_15.out (rfl) L_N.out B17.out ?_; intro w_19 h1 h2 h3 h4; have X_20 := Aside0.mk (row_far X_18.out N_15.out (by decide) h3); have U_21 := Aside0.mk ((h3 _ NE_U_N.out).trans U_11.out); have O_22 := Aside0.mk ((h3 _ NE_O_N.out).trans O_12.out); have An_23 := Aside0.mk ((h3 _ NE_An_N.out).trans An_13.out); have R_24 := Aside0.mk ((h3 _ NE_R_N.out).trans R_14.out); have N_25 := Aside0.mk (h1); have W_26 := Aside0.mk ((h3 _ (Ne.symm NE_N_W.out)).trans W_16.out); have B27 := Aside0.mk (h2); clear h1 h2 h3 h4 X_18 U_11 O_12 An_13 R_14 N_15 W_16 B17)
    | ((with_reducible refine wpSt 35 (.tmp 10) (.tmp 62) ?_); refine store_whole (w := w) (B := w.heap.size) rfl rfl 35 (.tmp 10) (.tmp 62) rfl (g := w3.heap.size + 1) (cs := #[.int .i64 0, .bool d2, .int .u64 x2]) rfl _ rfl rfl (by kernel_rfl) (by simp [Value.oneCell']) W_26.out (rfl) L_W.out B27.out ?_; intro w_28 h1 h2 h3 h4; have X_29 := Aside0.mk (row_far X_20.out W_26.out (by decide) h3); have U_30 := Aside0.mk ((h3 _ NE_U_W.out).trans U_21.out); have O_31 := Aside0.mk ((h3 _ NE_O_W.out).trans O_22.out); have An_32 := Aside0.mk ((h3 _ NE_An_W.out).trans An_23.out); have R_33 := Aside0.mk ((h3 _ NE_R_W.out).trans R_24.out); have N_34 := Aside0.mk ((h3 _ NE_N_W.out).trans N_25.out); have W_35 := Aside0.mk (h1); have B36 := Aside0.mk (h2); clear h1 h2 h3 h4 X_20 U_21 O_22 An_23 R_24 N_25 W_26 B27; have ca0 : w_28.cell? ⟨w.heap.size + 1 + 1, 0, none⟩ = some (.int .i64 0) := (blk_cell An_32.out 0).trans rfl; have ca1 : w_28.cell? ⟨w.heap.size + 1 + 1, 1, none⟩ = some (.bool d2) := (blk_cell An_32.out 1).trans rfl; have ca2 : w_28.cell? ⟨w.heap.size + 1 + 1, 2, none⟩ = some (.int .u64 x) := (blk_cell An_32.out 2).trans rfl; have cw0 : w_28.cell? ⟨w3.heap.size + 1, 0, none⟩ = some (.int .i64 0) := (blk_cell W_35.out 0).trans rfl; have cw1 : w_28.cell? ⟨w3.heap.size + 1, 1, none⟩ = some (.bool d2) := (blk_cell W_35.out 1).trans rfl; have cw2 : w_28.cell? ⟨w3.heap.size + 1, 2, none⟩ = some (.int .u64 x2) := (blk_cell W_35.out 2).trans rfl; have co0 : w_28.cell? ⟨w.heap.size + 1, 0, none⟩ = some (.int .i64 kd) := (blk_cell O_31.out 0).trans rfl; have co1 : w_28.cell? ⟨w.heap.size + 1, 1, none⟩ = some (.int .u64 k) := (blk_cell O_31.out 1).trans rfl; have co2 : w_28.cell? ⟨w.heap.size + 1, 2, none⟩ = some (.int .u64 v) := (blk_cell O_31.out 2).trans rfl)
    | ((with_reducible refine wpSt 32 (.tmp 6) (.tmp 85) ?_); refine store_whole (w := w) (B := w.heap.size) rfl rfl 32 (.tmp 6) (.tmp 85) rfl (g := w.heap.size + 1 + 1 + 1) (cs := #[.slice none 0 0]) rfl _ rfl rfl (by kernel_rfl) (by simp [Value.oneCell']) R_33.out (rfl) L_R.out B36.out ?_; intro w_37 h1 h2 h3 h4; have X_38 := Aside0.mk (row_far X_29.out R_33.out (by decide) h3); have U_39 := Aside0.mk ((h3 _ NE_U_R.out).trans U_30.out); have O_40 := Aside0.mk ((h3 _ NE_O_R.out).trans O_31.out); have An_41 := Aside0.mk ((h3 _ NE_An_R.out).trans An_32.out); have R_42 := Aside0.mk (h1); have N_43 := Aside0.mk ((h3 _ (Ne.symm NE_R_N.out)).trans N_34.out); have W_44 := Aside0.mk ((h3 _ (Ne.symm NE_R_W.out)).trans W_35.out); have B45 := Aside0.mk (h2); clear h1 h2 h3 h4 X_29 U_30 O_31 An_32 R_33 N_34 W_35 B36))
  exact bodyPost_ret (results_cell2 rfl _ _ (w.heap.size + 1 + 1 + 1) 32 #[.slice none 0 0] (0, 0) _ rfl R_42.out Try.underlying32 rfl (by kernel_rfl) rfl) rfl ⟨rfl, B45.out⟩
set_option maxHeartbeats 8000000 in
set_option maxRecDepth 100000 in
theorem rmay8_T (u m : List S57) (A : Option Addr) (c : Nat) (x k v z : Int) (d2 : Bool) (x2 c2 : Int) (w : World) (B : Nat) (hR : Kd.R k57 57 w B (fun _ => True) (.slice A u.length c) u) (hc : u.length ≤ c) (hB : B ≤ w.heap.size) (hl : u.length ≤ 16) (hD : doU u 8 k v = (m, (0, d2, x2), 0)) (h2 : x ≠ x2) :
    Calls Try.prog 19 #[.agg #[.slice A u.length c], .agg #[.int .i64 8, .int .u64 k, .int .u64 v, .int .i64 z], .agg #[.int .i64 0, .bool d2, .int .u64 x]] w fun e_ w' => ∃ v0_ : Value, e_ = .returned (.tuple #[.agg #[v0_], .bool true]) ∧ Kd.R k57 57 w' B (fun _ => True) v0_ m ∧ Below w.heap.size w w' := by
  have hu32 := Try.underlying32
  have hu39 := Try.underlying39
  have hu35 := Try.underlying35
  have t1 : (d2 != d2) = false := by simp
  have h21 := eq_false h2
  have h22 : (x == x2) = false := beq_eq_false_iff_ne.2 h2
  have h23 : (x != x2) = true := by simp [h2]
  clear h2
  have HR := Aside0.mk hR
  have HC := Aside0.mk hc
  have HB := Aside0.mk hB
  have HL := Aside0.mk hl
  have HD := Aside0.mk hD
  clear hR hc hB hl hD
  have L_U := Aside0.mk (show w.heap.size ≤ w.heap.size from Nat.le_refl _)
  have L_O := Aside0.mk (show w.heap.size ≤ w.heap.size + 1 from by have := L_U.out; omega)
  have NE_U_O := Aside0.mk (show w.heap.size ≠ w.heap.size + 1 by omega)
  have L_An := Aside0.mk (show w.heap.size ≤ w.heap.size + 1 + 1 from by have := L_U.out; omega)
  have NE_U_An := Aside0.mk (show w.heap.size ≠ w.heap.size + 1 + 1 by omega)
  have NE_O_An := Aside0.mk (show w.heap.size + 1 ≠ w.heap.size + 1 + 1 by omega)
  have L_R := Aside0.mk (show w.heap.size ≤ w.heap.size + 1 + 1 + 1 from by have := L_U.out; omega)
  have NE_U_R := Aside0.mk (show w.heap.size ≠ w.heap.size + 1 + 1 + 1 by omega)
  have NE_O_R := Aside0.mk (show w.heap.size + 1 ≠ w.heap.size + 1 + 1 + 1 by omega)
  have NE_An_R := Aside0.mk (show w.heap.size + 1 + 1 ≠ w.heap.size + 1 + 1 + 1 by omega)
  have U_1 := Aside0.mk (blk_alloc (blk_alloc (blk_alloc (blk_new (w) (.cells (#[.slice A u.length c]) 32)) (.cells (#[.int .i64 8, .int .u64 k, .int .u64 v, .int .i64 z]) 39)) (.cells (#[.int .i64 0, .bool d2, .int .u64 x]) 35)) (.cells #[.slice none 0 0] 32))
  have O_2 := Aside0.mk (blk_alloc (blk_alloc (blk_new2 (w) (.cells (#[.slice A u.length c]) 32) (.cells (#[.int .i64 8, .int .u64 k, .int .u64 v, .int .i64 z]) 39)) (.cells (#[.int .i64 0, .bool d2, .int .u64 x]) 35)) (.cells #[.slice none 0 0] 32))
  have An_3 := Aside0.mk (blk_alloc (blk_new3 (w) (.cells (#[.slice A u.length c]) 32) (.cells (#[.int .i64 8, .int .u64 k, .int .u64 v, .int .i64 z]) 39) (.cells (#[.int .i64 0, .bool d2, .int .u64 x]) 35)) (.cells #[.slice none 0 0] 32))
  have R_4 := Aside0.mk (blk_new4 (w) (.cells (#[.slice A u.length c]) 32) (.cells (#[.int .i64 8, .int .u64 k, .int .u64 v, .int .i64 z]) 39) (.cells (#[.int .i64 0, .bool d2, .int .u64 x]) 35) (.cells #[.slice none 0 0] 32))
  have B5 := Aside0.mk (below_alloc (below_alloc (below_alloc (below_alloc (Below.refl w.heap.size w) (.cells (#[.slice A u.length c]) 32)) (.cells (#[.int .i64 8, .int .u64 k, .int .u64 v, .int .i64 z]) 39)) (.cells (#[.int .i64 0, .bool d2, .int .u64 x]) 35)) (.cells #[.slice none 0 0] 32))
  go_enter Try.func19, Try.ntmps19
  go_wp2_with (first
    | ((with_reducible refine wpLd 32 (.tmp 3) ?_); refine wpList_load_row_g (by rfl) 32 (.tmp 3) rfl (w.heap.size) rfl 32 (#[.slice A u.length c]) (0, 0) _ U_1.out Try.underlying32 rfl (by kernel_rfl) ?_)
    | ((with_reducible refine wpLd 39 (.tmp 4) ?_); refine wpList_load_row_g (by rfl) 39 (.tmp 4) rfl (w.heap.size + 1) rfl 39 (#[.int .i64 8, .int .u64 k, .int .u64 v, .int .i64 z]) (0, 0) _ O_2.out Try.underlying39 rfl (by kernel_rfl) ?_))
  refine (doU_T u A c 8 k v z B _ (Kd.R_below HR.out B5.out) HC.out (Nat.le_trans HB.out B5.out.size) HL.out).mono ?_
  rw [HD.out]
  rintro e_ w3 ⟨v0, rfl, hR, hb⟩
  obtain ⟨A2, c2_, rfl, hc2, -⟩ := Kd.R_reads hR
  have HC2 := Aside0.mk hc2
  have X_950 := Aside0.mk hR
  clear hR hc2
  have U_6 := Aside0.mk (blk_below U_1.out hb)
  have O_7 := Aside0.mk (blk_below O_2.out hb)
  have An_8 := Aside0.mk (blk_below An_3.out hb)
  have R_9 := Aside0.mk (blk_below R_4.out hb)
  have B10 := Aside0.mk (below_step B5.out hb)
  clear hb B5 U_1 O_2 An_3 R_4
  have L_N := Aside0.mk (show w.heap.size ≤ w3.heap.size from B10.out.size)
  have NE_U_N := Aside0.mk (show w.heap.size ≠ w3.heap.size by have := blk_lt U_6.out; omega)
  have NE_O_N := Aside0.mk (show w.heap.size + 1 ≠ w3.heap.size by have := blk_lt O_7.out; omega)
  have NE_An_N := Aside0.mk (show w.heap.size + 1 + 1 ≠ w3.heap.size by have := blk_lt An_8.out; omega)
  have NE_R_N := Aside0.mk (show w.heap.size + 1 + 1 + 1 ≠ w3.heap.size by have := blk_lt R_9.out; omega)
  have L_W := Aside0.mk (show w.heap.size ≤ w3.heap.size + 1 from by have := L_N.out; omega)
  have NE_U_W := Aside0.mk (show w.heap.size ≠ w3.heap.size + 1 by have := blk_lt U_6.out; omega)
  have NE_O_W := Aside0.mk (show w.heap.size + 1 ≠ w3.heap.size + 1 by have := blk_lt O_7.out; omega)
  have NE_An_W := Aside0.mk (show w.heap.size + 1 + 1 ≠ w3.heap.size + 1 by have := blk_lt An_8.out; omega)
  have NE_R_W := Aside0.mk (show w.heap.size + 1 + 1 + 1 ≠ w3.heap.size + 1 by have := blk_lt R_9.out; omega)
  have NE_N_W := Aside0.mk (show w3.heap.size ≠ w3.heap.size + 1 by omega)
  have U_11 := Aside0.mk (blk_alloc (blk_alloc U_6.out (.cells #[.slice none 0 0] 32)) (.cells #[.int .i64 0, .bool false, .int .u64 0] 35))
  have O_12 := Aside0.mk (blk_alloc (blk_alloc O_7.out (.cells #[.slice none 0 0] 32)) (.cells #[.int .i64 0, .bool false, .int .u64 0] 35))
  have An_13 := Aside0.mk (blk_alloc (blk_alloc An_8.out (.cells #[.slice none 0 0] 32)) (.cells #[.int .i64 0, .bool false, .int .u64 0] 35))
  have R_14 := Aside0.mk (blk_alloc (blk_alloc R_9.out (.cells #[.slice none 0 0] 32)) (.cells #[.int .i64 0, .bool false, .int .u64 0] 35))
  have N_15 := Aside0.mk (blk_alloc (blk_new (w3) (.cells #[.slice none 0 0] 32)) (.cells #[.int .i64 0, .bool false, .int .u64 0] 35))
  have W_16 := Aside0.mk (blk_new2 (w3) (.cells #[.slice none 0 0] 32) (.cells #[.int .i64 0, .bool false, .int .u64 0] 35))
  have B17 := Aside0.mk (below_alloc (below_alloc B10.out (.cells #[.slice none 0 0] 32)) (.cells #[.int .i64 0, .bool false, .int .u64 0] 35))
  clear U_6 O_7 An_8 R_9 B10
  have X_18 := Aside0.mk (Kd.R_alloc (Kd.R_alloc (X_950.out) (.cells #[.slice none 0 0] 32)) (.cells #[.int .i64 0, .bool false, .int .u64 0] 35))
  clear X_950
  go_wp2_with (first
    | ((with_reducible refine wpSt 32 (.tmp 9) (.tmp 61) ?_); refine store_whole (w := w) (B := w.heap.size) rfl rfl 32 (.tmp 9) (.tmp 61) rfl (g := w3.heap.size) (cs := #[.slice A2 m.length c2_]) rfl _ rfl rfl (by kernel_rfl) (by simp [Value.oneCell']) N_15.out (rfl) L_N.out B17.out ?_; intro w_19 h1 h2 h3 h4; have X_20 := Aside0.mk (row_far X_18.out N_15.out (by decide) h3); have U_21 := Aside0.mk ((h3 _ NE_U_N.out).trans U_11.out); have O_22 := Aside0.mk ((h3 _ NE_O_N.out).trans O_12.out); have An_23 := Aside0.mk ((h3 _ NE_An_N.out).trans An_13.out); have R_24 := Aside0.mk ((h3 _ NE_R_N.out).trans R_14.out); have N_25 := Aside0.mk (h1); have W_26 := Aside0.mk ((h3 _ (Ne.symm NE_N_W.out)).trans W_16.out); have B27 := Aside0.mk (h2); clear h1 h2 h3 h4 X_18 U_11 O_12 An_13 R_14 N_15 W_16 B17)
    | ((with_reducible refine wpSt 35 (.tmp 10) (.tmp 62) ?_); refine store_whole (w := w) (B := w.heap.size) rfl rfl 35 (.tmp 10) (.tmp 62) rfl (g := w3.heap.size + 1) (cs := #[.int .i64 0, .bool d2, .int .u64 x2]) rfl _ rfl rfl (by kernel_rfl) (by simp [Value.oneCell']) W_26.out (rfl) L_W.out B27.out ?_; intro w_28 h1 h2 h3 h4; have X_29 := Aside0.mk (row_far X_20.out W_26.out (by decide) h3); have U_30 := Aside0.mk ((h3 _ NE_U_W.out).trans U_21.out); have O_31 := Aside0.mk ((h3 _ NE_O_W.out).trans O_22.out); have An_32 := Aside0.mk ((h3 _ NE_An_W.out).trans An_23.out); have R_33 := Aside0.mk ((h3 _ NE_R_W.out).trans R_24.out); have N_34 := Aside0.mk ((h3 _ NE_N_W.out).trans N_25.out); have W_35 := Aside0.mk (h1); have B36 := Aside0.mk (h2); clear h1 h2 h3 h4 X_20 U_21 O_22 An_23 R_24 N_25 W_26 B27; have ca0 : w_28.cell? ⟨w.heap.size + 1 + 1, 0, none⟩ = some (.int .i64 0) := (blk_cell An_32.out 0).trans rfl; have ca1 : w_28.cell? ⟨w.heap.size + 1 + 1, 1, none⟩ = some (.bool d2) := (blk_cell An_32.out 1).trans rfl; have ca2 : w_28.cell? ⟨w.heap.size + 1 + 1, 2, none⟩ = some (.int .u64 x) := (blk_cell An_32.out 2).trans rfl; have cw0 : w_28.cell? ⟨w3.heap.size + 1, 0, none⟩ = some (.int .i64 0) := (blk_cell W_35.out 0).trans rfl; have cw1 : w_28.cell? ⟨w3.heap.size + 1, 1, none⟩ = some (.bool d2) := (blk_cell W_35.out 1).trans rfl; have cw2 : w_28.cell? ⟨w3.heap.size + 1, 2, none⟩ = some (.int .u64 x2) := (blk_cell W_35.out 2).trans rfl; have co0 : w_28.cell? ⟨w.heap.size + 1, 0, none⟩ = some (.int .i64 8) := (blk_cell O_31.out 0).trans rfl; have co1 : w_28.cell? ⟨w.heap.size + 1, 1, none⟩ = some (.int .u64 k) := (blk_cell O_31.out 1).trans rfl; have co2 : w_28.cell? ⟨w.heap.size + 1, 2, none⟩ = some (.int .u64 v) := (blk_cell O_31.out 2).trans rfl)
    | ((with_reducible refine wpLd 32 (.tmp 9) ?_); refine wpList_load_row_g (by rfl) 32 (.tmp 9) rfl (w3.heap.size) rfl 32 (#[.slice A2 m.length c2_]) (0, 0) _ N_34.out Try.underlying32 rfl (by kernel_rfl) ?_)
    | ((with_reducible refine wpSt 32 (.tmp 6) (.tmp 86) ?_); refine store_whole (w := w) (B := w.heap.size) rfl rfl 32 (.tmp 6) (.tmp 86) rfl (g := w.heap.size + 1 + 1 + 1) (cs := #[.slice A2 m.length c2_]) rfl _ rfl rfl (by kernel_rfl) (by simp [Value.oneCell']) R_33.out (rfl) L_R.out B36.out ?_; intro w_37 h1 h2 h3 h4; have X_38 := Aside0.mk (row_far X_29.out R_33.out (by decide) h3); have U_39 := Aside0.mk ((h3 _ NE_U_R.out).trans U_30.out); have O_40 := Aside0.mk ((h3 _ NE_O_R.out).trans O_31.out); have An_41 := Aside0.mk ((h3 _ NE_An_R.out).trans An_32.out); have R_42 := Aside0.mk (h1); have N_43 := Aside0.mk ((h3 _ (Ne.symm NE_R_N.out)).trans N_34.out); have W_44 := Aside0.mk ((h3 _ (Ne.symm NE_R_W.out)).trans W_35.out); have B45 := Aside0.mk (h2); clear h1 h2 h3 h4 X_29 U_30 O_31 An_32 R_33 N_34 W_35 B36))
  exact bodyPost_ret (results_cell2 rfl _ _ (w.heap.size + 1 + 1 + 1) 32 #[.slice A2 m.length c2_] (0, 0) _ rfl R_42.out Try.underlying32 rfl (by kernel_rfl) rfl) rfl ⟨_, rfl, X_38.out, B45.out⟩
set_option maxHeartbeats 8000000 in
set_option maxRecDepth 100000 in
theorem rmayo_T (u m : List S57) (A : Option Addr) (c : Nat) (kd k v z : Int) (d2 : Bool) (x2 c2 : Int) (w : World) (B : Nat) (hR : Kd.R k57 57 w B (fun _ => True) (.slice A u.length c) u) (hc : u.length ≤ c) (hB : B ≤ w.heap.size) (hl : u.length ≤ 16) (hD : doU u kd k v = (m, (0, d2, x2), 0)) :
    Calls Try.prog 19 #[.agg #[.slice A u.length c], .agg #[.int .i64 kd, .int .u64 k, .int .u64 v, .int .i64 z], .agg #[.int .i64 0, .bool d2, .int .u64 x2]] w fun e_ w' => ∃ v0_ : Value, e_ = .returned (.tuple #[.agg #[v0_], .bool true]) ∧ Kd.R k57 57 w' B (fun _ => True) v0_ m ∧ Below w.heap.size w w' := by
  have hu32 := Try.underlying32
  have hu39 := Try.underlying39
  have hu35 := Try.underlying35
  have t1 : (d2 != d2) = false := by simp
  have t2 : (x2 != x2) = false := by simp
  have HR := Aside0.mk hR
  have HC := Aside0.mk hc
  have HB := Aside0.mk hB
  have HL := Aside0.mk hl
  have HD := Aside0.mk hD
  clear hR hc hB hl hD
  have L_U := Aside0.mk (show w.heap.size ≤ w.heap.size from Nat.le_refl _)
  have L_O := Aside0.mk (show w.heap.size ≤ w.heap.size + 1 from by have := L_U.out; omega)
  have NE_U_O := Aside0.mk (show w.heap.size ≠ w.heap.size + 1 by omega)
  have L_An := Aside0.mk (show w.heap.size ≤ w.heap.size + 1 + 1 from by have := L_U.out; omega)
  have NE_U_An := Aside0.mk (show w.heap.size ≠ w.heap.size + 1 + 1 by omega)
  have NE_O_An := Aside0.mk (show w.heap.size + 1 ≠ w.heap.size + 1 + 1 by omega)
  have L_R := Aside0.mk (show w.heap.size ≤ w.heap.size + 1 + 1 + 1 from by have := L_U.out; omega)
  have NE_U_R := Aside0.mk (show w.heap.size ≠ w.heap.size + 1 + 1 + 1 by omega)
  have NE_O_R := Aside0.mk (show w.heap.size + 1 ≠ w.heap.size + 1 + 1 + 1 by omega)
  have NE_An_R := Aside0.mk (show w.heap.size + 1 + 1 ≠ w.heap.size + 1 + 1 + 1 by omega)
  have U_1 := Aside0.mk (blk_alloc (blk_alloc (blk_alloc (blk_new (w) (.cells (#[.slice A u.length c]) 32)) (.cells (#[.int .i64 kd, .int .u64 k, .int .u64 v, .int .i64 z]) 39)) (.cells (#[.int .i64 0, .bool d2, .int .u64 x2]) 35)) (.cells #[.slice none 0 0] 32))
  have O_2 := Aside0.mk (blk_alloc (blk_alloc (blk_new2 (w) (.cells (#[.slice A u.length c]) 32) (.cells (#[.int .i64 kd, .int .u64 k, .int .u64 v, .int .i64 z]) 39)) (.cells (#[.int .i64 0, .bool d2, .int .u64 x2]) 35)) (.cells #[.slice none 0 0] 32))
  have An_3 := Aside0.mk (blk_alloc (blk_new3 (w) (.cells (#[.slice A u.length c]) 32) (.cells (#[.int .i64 kd, .int .u64 k, .int .u64 v, .int .i64 z]) 39) (.cells (#[.int .i64 0, .bool d2, .int .u64 x2]) 35)) (.cells #[.slice none 0 0] 32))
  have R_4 := Aside0.mk (blk_new4 (w) (.cells (#[.slice A u.length c]) 32) (.cells (#[.int .i64 kd, .int .u64 k, .int .u64 v, .int .i64 z]) 39) (.cells (#[.int .i64 0, .bool d2, .int .u64 x2]) 35) (.cells #[.slice none 0 0] 32))
  have B5 := Aside0.mk (below_alloc (below_alloc (below_alloc (below_alloc (Below.refl w.heap.size w) (.cells (#[.slice A u.length c]) 32)) (.cells (#[.int .i64 kd, .int .u64 k, .int .u64 v, .int .i64 z]) 39)) (.cells (#[.int .i64 0, .bool d2, .int .u64 x2]) 35)) (.cells #[.slice none 0 0] 32))
  go_enter Try.func19, Try.ntmps19
  go_wp2_with (first
    | ((with_reducible refine wpLd 32 (.tmp 3) ?_); refine wpList_load_row_g (by rfl) 32 (.tmp 3) rfl (w.heap.size) rfl 32 (#[.slice A u.length c]) (0, 0) _ U_1.out Try.underlying32 rfl (by kernel_rfl) ?_)
    | ((with_reducible refine wpLd 39 (.tmp 4) ?_); refine wpList_load_row_g (by rfl) 39 (.tmp 4) rfl (w.heap.size + 1) rfl 39 (#[.int .i64 kd, .int .u64 k, .int .u64 v, .int .i64 z]) (0, 0) _ O_2.out Try.underlying39 rfl (by kernel_rfl) ?_))
  refine (doU_T u A c kd k v z B _ (Kd.R_below HR.out B5.out) HC.out (Nat.le_trans HB.out B5.out.size) HL.out).mono ?_
  rw [HD.out]
  rintro e_ w3 ⟨v0, rfl, hR, hb⟩
  obtain ⟨A2, c2_, rfl, hc2, -⟩ := Kd.R_reads hR
  have HC2 := Aside0.mk hc2
  have X_950 := Aside0.mk hR
  clear hR hc2
  have U_6 := Aside0.mk (blk_below U_1.out hb)
  have O_7 := Aside0.mk (blk_below O_2.out hb)
  have An_8 := Aside0.mk (blk_below An_3.out hb)
  have R_9 := Aside0.mk (blk_below R_4.out hb)
  have B10 := Aside0.mk (below_step B5.out hb)
  clear hb B5 U_1 O_2 An_3 R_4
  have L_N := Aside0.mk (show w.heap.size ≤ w3.heap.size from B10.out.size)
  have NE_U_N := Aside0.mk (show w.heap.size ≠ w3.heap.size by have := blk_lt U_6.out; omega)
  have NE_O_N := Aside0.mk (show w.heap.size + 1 ≠ w3.heap.size by have := blk_lt O_7.out; omega)
  have NE_An_N := Aside0.mk (show w.heap.size + 1 + 1 ≠ w3.heap.size by have := blk_lt An_8.out; omega)
  have NE_R_N := Aside0.mk (show w.heap.size + 1 + 1 + 1 ≠ w3.heap.size by have := blk_lt R_9.out; omega)
  have L_W := Aside0.mk (show w.heap.size ≤ w3.heap.size + 1 from by have := L_N.out; omega)
  have NE_U_W := Aside0.mk (show w.heap.size ≠ w3.heap.size + 1 by have := blk_lt U_6.out; omega)
  have NE_O_W := Aside0.mk (show w.heap.size + 1 ≠ w3.heap.size + 1 by have := blk_lt O_7.out; omega)
  have NE_An_W := Aside0.mk (show w.heap.size + 1 + 1 ≠ w3.heap.size + 1 by have := blk_lt An_8.out; omega)
  have NE_R_W := Aside0.mk (show w.heap.size + 1 + 1 + 1 ≠ w3.heap.size + 1 by have := blk_lt R_9.out; omega)
  have NE_N_W := Aside0.mk (show w3.heap.size ≠ w3.heap.size + 1 by omega)
  have U_11 := Aside0.mk (blk_alloc (blk_alloc U_6.out (.cells #[.slice none 0 0] 32)) (.cells #[.int .i64 0, .bool false, .int .u64 0] 35))
  have O_12 := Aside0.mk (blk_alloc (blk_alloc O_7.out (.cells #[.slice none 0 0] 32)) (.cells #[.int .i64 0, .bool false, .int .u64 0] 35))
  have An_13 := Aside0.mk (blk_alloc (blk_alloc An_8.out (.cells #[.slice none 0 0] 32)) (.cells #[.int .i64 0, .bool false, .int .u64 0] 35))
  have R_14 := Aside0.mk (blk_alloc (blk_alloc R_9.out (.cells #[.slice none 0 0] 32)) (.cells #[.int .i64 0, .bool false, .int .u64 0] 35))
  have N_15 := Aside0.mk (blk_alloc (blk_new (w3) (.cells #[.slice none 0 0] 32)) (.cells #[.int .i64 0, .bool false, .int .u64 0] 35))
  have W_16 := Aside0.mk (blk_new2 (w3) (.cells #[.slice none 0 0] 32) (.cells #[.int .i64 0, .bool false, .int .u64 0] 35))
  have B17 := Aside0.mk (below_alloc (below_alloc B10.out (.cells #[.slice none 0 0] 32)) (.cells #[.int .i64 0, .bool false, .int .u64 0] 35))
  clear U_6 O_7 An_8 R_9 B10
  have X_18 := Aside0.mk (Kd.R_alloc (Kd.R_alloc (X_950.out) (.cells #[.slice none 0 0] 32)) (.cells #[.int .i64 0, .bool false, .int .u64 0] 35))
  clear X_950
  go_wp2_with (first
    | ((with_reducible refine wpSt 32 (.tmp 9) (.tmp 61) ?_); refine store_whole (w := w) (B := w.heap.size) rfl rfl 32 (.tmp 9) (.tmp 61) rfl (g := w3.heap.size) (cs := #[.slice A2 m.length c2_]) rfl _ rfl rfl (by kernel_rfl) (by simp [Value.oneCell']) N_15.out (rfl) L_N.out B17.out ?_; intro w_19 h1 h2 h3 h4; have X_20 := Aside0.mk (row_far X_18.out N_15.out (by decide) h3); have U_21 := Aside0.mk ((h3 _ NE_U_N.out).trans U_11.out); have O_22 := Aside0.mk ((h3 _ NE_O_N.out).trans O_12.out); have An_23 := Aside0.mk ((h3 _ NE_An_N.out).trans An_13.out); have R_24 := Aside0.mk ((h3 _ NE_R_N.out).trans R_14.out); have N_25 := Aside0.mk (h1); have W_26 := Aside0.mk ((h3 _ (Ne.symm NE_N_W.out)).trans W_16.out); have B27 := Aside0.mk (h2); clear h1 h2 h3 h4 X_18 U_11 O_12 An_13 R_14 N_15 W_16 B17)
    | ((with_reducible refine wpSt 35 (.tmp 10) (.tmp 62) ?_); refine store_whole (w := w) (B := w.heap.size) rfl rfl 35 (.tmp 10) (.tmp 62) rfl (g := w3.heap.size + 1) (cs := #[.int .i64 0, .bool d2, .int .u64 x2]) rfl _ rfl rfl (by kernel_rfl) (by simp [Value.oneCell']) W_26.out (rfl) L_W.out B27.out ?_; intro w_28 h1 h2 h3 h4; have X_29 := Aside0.mk (row_far X_20.out W_26.out (by decide) h3); have U_30 := Aside0.mk ((h3 _ NE_U_W.out).trans U_21.out); have O_31 := Aside0.mk ((h3 _ NE_O_W.out).trans O_22.out); have An_32 := Aside0.mk ((h3 _ NE_An_W.out).trans An_23.out); have R_33 := Aside0.mk ((h3 _ NE_R_W.out).trans R_24.out); have N_34 := Aside0.mk ((h3 _ NE_N_W.out).trans N_25.out); have W_35 := Aside0.mk (h1); have B36 := Aside0.mk (h2); clear h1 h2 h3 h4 X_20 U_21 O_22 An_23 R_24 N_25 W_26 B27; have ca0 : w_28.cell? ⟨w.heap.size + 1 + 1, 0, none⟩ = some (.int .i64 0) := (blk_cell An_32.out 0).trans rfl; have ca1 : w_28.cell? ⟨w.heap.size + 1 + 1, 1, none⟩ = some (.bool d2) := (blk_cell An_32.out 1).trans rfl; have ca2 : w_28.cell? ⟨w.heap.size + 1 + 1, 2, none⟩ = some (.int .u64 x2) := (blk_cell An_32.out 2).trans rfl; have cw0 : w_28.cell? ⟨w3.heap.size + 1, 0, none⟩ = some (.int .i64 0) := (blk_cell W_35.out 0).trans rfl; have cw1 : w_28.cell? ⟨w3.heap.size + 1, 1, none⟩ = some (.bool d2) := (blk_cell W_35.out 1).trans rfl; have cw2 : w_28.cell? ⟨w3.heap.size + 1, 2, none⟩ = some (.int .u64 x2) := (blk_cell W_35.out 2).trans rfl; have co0 : w_28.cell? ⟨w.heap.size + 1, 0, none⟩ = some (.int .i64 kd) := (blk_cell O_31.out 0).trans rfl; have co1 : w_28.cell? ⟨w.heap.size + 1, 1, none⟩ = some (.int .u64 k) := (blk_cell O_31.out 1).trans rfl; have co2 : w_28.cell? ⟨w.heap.size + 1, 2, none⟩ = some (.int .u64 v) := (blk_cell O_31.out 2).trans rfl)
    | ((with_reducible refine wpLd 32 (.tmp 9) ?_); refine wpList_load_row_g (by rfl) 32 (.tmp 9) rfl (w3.heap.size) rfl 32 (#[.slice A2 m.length c2_]) (0, 0) _ N_34.out Try.underlying32 rfl (by kernel_rfl) ?_)
    | ((with_reducible refine wpSt 32 (.tmp 6) (.tmp 86) ?_); refine store_whole (w := w) (B := w.heap.size) rfl rfl 32 (.tmp 6) (.tmp 86) rfl (g := w.heap.size + 1 + 1 + 1) (cs := #[.slice A2 m.length c2_]) rfl _ rfl rfl (by kernel_rfl) (by simp [Value.oneCell']) R_33.out (rfl) L_R.out B36.out ?_; intro w_37 h1 h2 h3 h4; have X_38 := Aside0.mk (row_far X_29.out R_33.out (by decide) h3); have U_39 := Aside0.mk ((h3 _ NE_U_R.out).trans U_30.out); have O_40 := Aside0.mk ((h3 _ NE_O_R.out).trans O_31.out); have An_41 := Aside0.mk ((h3 _ NE_An_R.out).trans An_32.out); have R_42 := Aside0.mk (h1); have N_43 := Aside0.mk ((h3 _ (Ne.symm NE_R_N.out)).trans N_34.out); have W_44 := Aside0.mk ((h3 _ (Ne.symm NE_R_W.out)).trans W_35.out); have B45 := Aside0.mk (h2); clear h1 h2 h3 h4 X_29 U_30 O_31 An_32 R_33 N_34 W_35 B36))
  exact bodyPost_ret (results_cell2 rfl _ _ (w.heap.size + 1 + 1 + 1) 32 #[.slice A2 m.length c2_] (0, 0) _ rfl R_42.out Try.underlying32 rfl (by kernel_rfl) rfl) rfl ⟨_, rfl, X_38.out, B45.out⟩
/-- Whether an answer may be, and the state then: the document's. -/
def mayU (u : List S57) (kd k v : Int) (a : Int × Bool × Int) : List S57 × Bool :=
  if a.1 = 0 then (if (doU u kd k v).2.2 ≠ 0 then ([], false) else if a.2.1 ≠ (doU u kd k v).2.1.2.1 then ([], false) else if a.2.2 = (doU u kd k v).2.1.2.2 ∨ kd = 8 then ((doU u kd k v).1, true) else ([], false))
  else if refV kd a = true then (u, true) else ([], false)
theorem doU_e (u : List S57) (kd k v : Int) : (doU u kd k v).2.1.1 = 0 := by
  unfold doU putU
  (repeat' split) <;> rfl
theorem rmay_T (u : List S57) (A : Option Addr) (c : Nat) (kd k v z e : Int) (d : Bool) (x : Int) (B : Nat) (w : World) (hR : Kd.R k57 57 w B (fun _ => True) (.slice A u.length c) u) (hc : u.length ≤ c) (hB : B ≤ w.heap.size) (hl : u.length ≤ 16) :
    Calls Try.prog 19 #[.agg #[.slice A u.length c], .agg #[.int .i64 kd, .int .u64 k, .int .u64 v, .int .i64 z], .agg #[.int .i64 e, .bool d, .int .u64 x]] w fun e_ w' => ∃ v0_ : Value, e_ = .returned (.tuple #[.agg #[v0_], .bool (mayU u kd k v (e, d, x)).2]) ∧ Kd.R k57 57 w' B (fun _ => True) v0_ (mayU u kd k v (e, d, x)).1 ∧ Below w.heap.size w w' := by
  have same : ∀ {e : Ending} {w' : World}, e = .returned (.tuple #[.agg #[.slice A u.length c], .bool true]) ∧ Below w.heap.size w w' → ∃ v0_ : Value, e = .returned (.tuple #[.agg #[v0_], .bool true]) ∧ Kd.R k57 57 w' B (fun _ => True) v0_ u ∧ Below w.heap.size w w' := fun h => ⟨_, h.1, Kd.R_below hR h.2, h.2⟩
  have none_ : ∀ {e : Ending} {w' : World}, e = .returned (.tuple #[.agg #[.slice none 0 0], .bool false]) ∧ Below w.heap.size w w' → ∃ v0_ : Value, e = .returned (.tuple #[.agg #[v0_], .bool false]) ∧ Kd.R k57 57 w' B (fun _ => True) v0_ [] ∧ Below w.heap.size w w' := fun h => ⟨_, h.1, Kd.R_nil _ _ _ _ _, h.2⟩
  by_cases h0 : e = 0
  · subst h0
    have he := doU_e u kd k v
    obtain ⟨m, ⟨e2, d2, x2⟩, c2, hD⟩ : ∃ m p c2, doU u kd k v = (m, p, c2) := ⟨_, _, _, rfl⟩
    rw [hD] at he
    have he : e2 = 0 := he
    subst he
    unfold mayU
    rw [if_pos rfl, hD]
    by_cases h2 : c2 = 0
    · subst h2
      rw [if_neg (by simp)]
      by_cases hd : d = d2
      · subst hd
        rw [if_neg (by simp)]
        by_cases h8 : kd = 8
        · subst h8
          rw [if_pos (Or.inr rfl)]
          by_cases hx : x = x2
          · subst hx
            exact rmayo_T u m A c 8 k v z d x 0 w B hR hc hB hl hD
          · exact rmay8_T u m A c x k v z d x2 0 w B hR hc hB hl hD hx
        · by_cases hx : x = x2
          · subst hx
            rw [if_pos (Or.inl rfl)]
            exact rmayo_T u m A c kd k v z d x 0 w B hR hc hB hl hD
          · rw [if_neg (fun h => h.elim hx h8)]
            exact (rmayx_T u m A c kd x k v z d x2 0 w B hR hc hB hl hD hx h8).mono (fun _ _ h => none_ h)
      · rw [if_pos hd]
        exact (rmayb_T u m A c kd x k v z d d2 x2 0 w B hR hc hB hl hD hd).mono (fun _ _ h => none_ h)
    · rw [if_pos h2]
      exact (rmayc_T u m A c kd x k v z d d2 x2 c2 w B hR hc hB hl hD h2).mono (fun _ _ h => none_ h)
  · unfold mayU
    rw [if_neg h0]
    cases d with
    | true =>
      rw [if_neg (by unfold refV; simp)]
      exact (rmayd_T u A c kd e x k v z w h0).mono (fun _ _ h => none_ h)
    | false =>
      by_cases hx : x = 0
      · subst hx
        by_cases h6 : e = 6
        · subst h6
          by_cases h1 : kd = 1
          · subst h1; exact (rmay16_T u A c k v z w).mono (fun _ _ h => same h)
          by_cases h4 : kd = 4
          · subst h4; exact (rmay46_T u A c k v z w).mono (fun _ _ h => same h)
          by_cases h5 : kd = 5
          · subst h5; exact (rmay56_T u A c k v z w).mono (fun _ _ h => same h)
          rw [if_neg (by unfold refV; simp [h1, h4, h5])]
          by_cases h8 : kd = 8
          · subst h8; exact (rmay86_T u A c k v z w).mono (fun _ _ h => none_ h)
          exact (rmayN6_T u A c kd k v z w (by omega)).mono (fun _ _ h => none_ h)
        by_cases h7 : e = 7
        · subst h7
          by_cases h1 : kd = 1
          · subst h1; exact (rmay17_T u A c k v z w).mono (fun _ _ h => same h)
          by_cases h4 : kd = 4
          · subst h4; exact (rmay47_T u A c k v z w).mono (fun _ _ h => same h)
          by_cases h5 : kd = 5
          · subst h5; exact (rmay57_T u A c k v z w).mono (fun _ _ h => same h)
          by_cases h8 : kd = 8
          · subst h8; exact (rmay87_T u A c k v z w).mono (fun _ _ h => same h)
          rw [if_neg (by unfold refV; simp [h1, h4, h5, h8])]
          exact (rmayN7_T u A c kd k v z w (by omega)).mono (fun _ _ h => none_ h)
        rw [if_neg (by unfold refV; simp [h6, h7])]
        by_cases h1 : kd = 1
        · subst h1; exact (rmay1E_T u A c e k v z w h0 h6 h7).mono (fun _ _ h => none_ h)
        by_cases h4 : kd = 4
        · subst h4; exact (rmay4E_T u A c e k v z w h0 h6 h7).mono (fun _ _ h => none_ h)
        by_cases h5 : kd = 5
        · subst h5; exact (rmay5E_T u A c e k v z w h0 h6 h7).mono (fun _ _ h => none_ h)
        by_cases h8 : kd = 8
        · subst h8; exact (rmay8E_T u A c e k v z w h0 h6 h7).mono (fun _ _ h => none_ h)
        exact (rmayNE_T u A c kd e k v z w (by omega) h0 h6 h7).mono (fun _ _ h => none_ h)
      · rw [if_neg (by unfold refV; simp [hx])]
        exact (rmaydx_T u A c kd e x k v z w h0 hx).mono (fun _ _ h => none_ h)
theorem Rel.may {s : List S26} {u : List S57} (h : Rel s u) (hs : s.length ≤ 16) (kd k v : Int) (a : Int × Bool × Int) :
    (mayV s kd k v a).2 = (mayU u kd k v a).2 ∧ Rel (mayV s kd k v a).1 (mayU u kd k v a).1 ∧ (mayV s kd k v a).1.length ≤ 16 ∧ ((mayV s kd k v a).2 = false → (mayV s kd k v a).1 = []) := by
  obtain ⟨hd1, hd2, hd3, hd4⟩ := h.doU hs kd k v
  have he := doU_e u kd k v
  obtain ⟨e, d, x⟩ := a
  unfold mayV mayU wantV
  rw [hd1]
  by_cases h0 : e = 0
  · subst h0
    rw [if_neg (by unfold refV; simp), if_pos rfl]
    obtain ⟨m, ⟨e2, d2, x2⟩, c2, hD⟩ : ∃ m p c2, PSpecExact.doU u kd k v = (m, p, c2) := ⟨_, _, _, rfl⟩
    rw [hD] at he hd1 hd2 ⊢
    have he : e2 = 0 := he
    subst he
    by_cases h2 : c2 = 0
    · subst h2
      by_cases hdd : d = d2
      · subst hdd
        by_cases h8 : kd = 8
        · rw [if_pos ⟨rfl, by rw [if_pos h8]⟩, if_neg (by simp), if_neg (by simp), if_pos (Or.inr h8)]
          exact ⟨rfl, hd2, hd3, fun h => by cases h⟩
        · by_cases hx : x = x2
          · subst hx
            rw [if_pos ⟨rfl, by rw [if_neg h8]⟩, if_neg (by simp), if_neg (by simp), if_pos (Or.inl rfl)]
            exact ⟨rfl, hd2, hd3, fun h => by cases h⟩
          · rw [if_neg (fun h => by have := h.2; rw [if_neg h8] at this; simp at this; exact hx this), if_neg (by simp), if_neg (by simp), if_neg (fun h => h.elim hx h8)]
            exact ⟨rfl, Rel.nil, by simp, fun _ => rfl⟩
      · rw [if_neg (fun h => by have := h.2; split at this <;> simp at this <;> first | exact hdd this | exact hdd this.1), if_neg (by simp), if_pos hdd]
        exact ⟨rfl, Rel.nil, by simp, fun _ => rfl⟩
    · rw [if_neg (fun h => h2 h.1), if_pos h2]
      exact ⟨rfl, Rel.nil, by simp, fun _ => rfl⟩
  · rw [if_neg h0]
    by_cases hr : refV kd (e, d, x) = true
    · rw [if_pos hr, if_pos hr]; exact ⟨rfl, h, hs, fun h => by cases h⟩
    · rw [if_neg hr, if_neg hr]
      rw [if_neg (fun hh => by
        have h3 := hh.2
        split at h3
        · have := congrArg Prod.fst h3; exact h0 (this.trans he)
        · have := congrArg Prod.fst h3; exact h0 (this.trans he))]
      exact ⟨rfl, Rel.nil, by simp, fun _ => rfl⟩
end Go.Proofs.Ytcphmelmieedfab.PSpecExact

