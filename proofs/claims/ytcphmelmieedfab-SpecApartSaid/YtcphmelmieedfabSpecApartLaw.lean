/-
The law SpecApart.
-/
import Derived.Test.YtcphmelmieedfabSpecH
namespace Go.Proofs.Ytcphmelmieedfab.PSpecExact
open Go Go.RowKit Go.Proofs.YtcphmelmieedfabW.PrintWords Go.Proofs.YtcphmelmieedfabW.PrintLast Go.Proofs.YtcphmelmieedfabW.PrintMore
attribute [local go_sem] max2_int min2_int max_two min_two max_three min_three max_four min_four
set_option linter.unusedVariables false
set_option linter.unusedSimpArgs false
set_option maxHeartbeats 16000000 in
set_option maxRecDepth 100000 in
theorem apart_e (A : Option Addr) (c : Nat) (l s : List S26) (kd1 k1 v1 z1 kd2 k2 v2 z2 : Int) (e : Int) (w : World) (hC : Kd.C k26 w A l.length l) (hcc : l.length ≤ c) (hn : l.length ≤ 4611686018427387904) (hnw : newV l = (s, e)) (he : e ≠ 0) :
    Calls Try.prog 4 #[.slice A l.length c, .agg #[.int .i64 kd1, .int .u64 k1, .int .u64 v1, .int .i64 z1], .agg #[.int .i64 kd2, .int .u64 k2, .int .u64 v2, .int .i64 z2]] w fun e w' => e = .returned (.bool true) ∧ Below w.heap.size w w' := by
  have hu29 := Try.underlying29
  have hu39 := Try.underlying39
  have hu35 := Try.underlying35
  have HC := Aside0.mk hC
  have HCC := Aside0.mk hcc
  have HN := Aside0.mk hn
  have HNW := Aside0.mk hnw
  clear hC hcc hn hnw
  have te : (e == 0) = false := beq_eq_false_iff_ne.2 he
  have tf := eq_false he
  clear he
  have L_O1 := Aside0.mk (show w.heap.size ≤ w.heap.size from Nat.le_refl _)
  have L_O2 := Aside0.mk (show w.heap.size ≤ w.heap.size + 1 from by have := L_O1.out; omega)
  have NE_O1_O2 := Aside0.mk (show w.heap.size ≠ w.heap.size + 1 by omega)
  have O1_1 := Aside0.mk (blk_alloc (blk_new w (.cells #[.int .i64 kd1, .int .u64 k1, .int .u64 v1, .int .i64 z1] 39)) (.cells #[.int .i64 kd2, .int .u64 k2, .int .u64 v2, .int .i64 z2] 39))
  have O2_2 := Aside0.mk (blk_new2 w (.cells #[.int .i64 kd1, .int .u64 k1, .int .u64 v1, .int .i64 z1] 39) (.cells #[.int .i64 kd2, .int .u64 k2, .int .u64 v2, .int .i64 z2] 39))
  have B3 := Aside0.mk (below_alloc (below_alloc (Below.refl w.heap.size w) (.cells #[.int .i64 kd1, .int .u64 k1, .int .u64 v1, .int .i64 z1] 39)) (.cells #[.int .i64 kd2, .int .u64 k2, .int .u64 v2, .int .i64 z2] 39))
  go_enter Try.func4, Try.ntmps4
  go_wp2_with fail
  refine (awake_T _).mono ?_
  rintro e_ w2 ⟨rfl, hb⟩
  have O1_4 := Aside0.mk (blk_below O1_1.out hb)
  have O2_5 := Aside0.mk (blk_below O2_2.out hb)
  have B6 := Aside0.mk (below_step B3.out hb)
  clear hb O1_1 O2_2 B3
  go_wp2_with fail
  refine (new_T A c l _ (Kd.C_below HC.out B6.out) HCC.out HN.out).mono ?_
  rintro e_ w3 ⟨rfl, -, hb⟩
  rw [HNW.out]
  have O1_7 := Aside0.mk (blk_below O1_4.out hb)
  have O2_8 := Aside0.mk (blk_below O2_5.out hb)
  have B9 := Aside0.mk (below_step B6.out hb)
  clear hb O1_4 O2_5 B6
  have L_XS := Aside0.mk (show w.heap.size ≤ w3.heap.size from B9.out.size)
  have NE_O1_XS := Aside0.mk (show w.heap.size ≠ w3.heap.size by have := blk_lt O1_7.out; omega)
  have NE_O2_XS := Aside0.mk (show w.heap.size + 1 ≠ w3.heap.size by have := blk_lt O2_8.out; omega)
  have O1_10 := Aside0.mk (blk_alloc O1_7.out (.cells #[.int .i64 0, .int .u64 0, .int .u64 0, .int .u64 0, .int .u64 0, .int .u64 0, .int .u64 0, .int .u64 0, .int .u64 0, .int .u64 0, .int .u64 0, .int .u64 0, .int .u64 0, .int .u64 0, .int .u64 0, .int .u64 0, .int .u64 0, .int .u64 0, .int .u64 0, .int .u64 0, .int .u64 0, .int .u64 0, .int .u64 0, .int .u64 0, .int .u64 0, .int .u64 0, .int .u64 0, .int .u64 0, .int .u64 0, .int .u64 0, .int .u64 0, .int .u64 0, .int .u64 0] 29))
  have O2_11 := Aside0.mk (blk_alloc O2_8.out (.cells #[.int .i64 0, .int .u64 0, .int .u64 0, .int .u64 0, .int .u64 0, .int .u64 0, .int .u64 0, .int .u64 0, .int .u64 0, .int .u64 0, .int .u64 0, .int .u64 0, .int .u64 0, .int .u64 0, .int .u64 0, .int .u64 0, .int .u64 0, .int .u64 0, .int .u64 0, .int .u64 0, .int .u64 0, .int .u64 0, .int .u64 0, .int .u64 0, .int .u64 0, .int .u64 0, .int .u64 0, .int .u64 0, .int .u64 0, .int .u64 0, .int .u64 0, .int .u64 0, .int .u64 0] 29))
  have XS_12 := Aside0.mk (blk_new w3 (.cells #[.int .i64 0, .int .u64 0, .int .u64 0, .int .u64 0, .int .u64 0, .int .u64 0, .int .u64 0, .int .u64 0, .int .u64 0, .int .u64 0, .int .u64 0, .int .u64 0, .int .u64 0, .int .u64 0, .int .u64 0, .int .u64 0, .int .u64 0, .int .u64 0, .int .u64 0, .int .u64 0, .int .u64 0, .int .u64 0, .int .u64 0, .int .u64 0, .int .u64 0, .int .u64 0, .int .u64 0, .int .u64 0, .int .u64 0, .int .u64 0, .int .u64 0, .int .u64 0, .int .u64 0] 29))
  have B13 := Aside0.mk (below_alloc B9.out (.cells #[.int .i64 0, .int .u64 0, .int .u64 0, .int .u64 0, .int .u64 0, .int .u64 0, .int .u64 0, .int .u64 0, .int .u64 0, .int .u64 0, .int .u64 0, .int .u64 0, .int .u64 0, .int .u64 0, .int .u64 0, .int .u64 0, .int .u64 0, .int .u64 0, .int .u64 0, .int .u64 0, .int .u64 0, .int .u64 0, .int .u64 0, .int .u64 0, .int .u64 0, .int .u64 0, .int .u64 0, .int .u64 0, .int .u64 0, .int .u64 0, .int .u64 0, .int .u64 0, .int .u64 0] 29))
  clear O1_7 O2_8 B9
  go_wp2_with (first
    | (refine store_whole (w := w) (B := w.heap.size) rfl rfl 29 (.tmp 7) (.tmp 26) rfl (g := w3.heap.size) (cs := SV s) rfl _ rfl rfl (stot _) (SV_one _) XS_12.out (by first | (rw [SV_size]; done) | (rw [SV_size, SV_size]; done) | (rw [SV_size]; rfl)) L_XS.out B13.out ?_; intro w_14 h1 h2 h3 h4; have O1_15 := Aside0.mk ((h3 _ NE_O1_XS.out).trans O1_10.out); have O2_16 := Aside0.mk ((h3 _ NE_O2_XS.out).trans O2_11.out); have XS_17 := Aside0.mk (h1); have B18 := Aside0.mk (h2); clear h1 h2 h3 h4 O1_10 O2_11 XS_12 B13; have a1 : w_14.cell? ⟨w.heap.size, 1, none⟩ = some (.int .u64 k1) := (blk_cell O1_15.out 1).trans rfl; have a2 : w_14.cell? ⟨w.heap.size + 1, 1, none⟩ = some (.int .u64 k2) := (blk_cell O2_16.out 1).trans rfl))
  go_ret
  exact ⟨rfl, B18.out⟩
set_option maxHeartbeats 16000000 in
set_option maxRecDepth 100000 in
theorem apart_n (A : Option Addr) (c : Nat) (l s : List S26) (kd1 k1 v1 z1 kd2 k2 v2 z2 : Int) (w : World) (hC : Kd.C k26 w A l.length l) (hcc : l.length ≤ c) (hn : l.length ≤ 4611686018427387904) (hnw : newV l = (s, 0)) (hg : 14 < l.length) :
    Calls Try.prog 4 #[.slice A l.length c, .agg #[.int .i64 kd1, .int .u64 k1, .int .u64 v1, .int .i64 z1], .agg #[.int .i64 kd2, .int .u64 k2, .int .u64 v2, .int .i64 z2]] w fun e w' => e = .returned (.bool true) ∧ Below w.heap.size w w' := by
  have hu29 := Try.underlying29
  have hu39 := Try.underlying39
  have hu35 := Try.underlying35
  have HC := Aside0.mk hC
  have HCC := Aside0.mk hcc
  have HN := Aside0.mk hn
  have HNW := Aside0.mk hnw
  clear hC hcc hn hnw
  have t1 : decide ((14 : Int) < (l.length : Int)) = true := decide_eq_true (by omega)
  have t2 := eq_true (show (14 : Int) < (l.length : Int) by omega)
  clear hg
  have L_O1 := Aside0.mk (show w.heap.size ≤ w.heap.size from Nat.le_refl _)
  have L_O2 := Aside0.mk (show w.heap.size ≤ w.heap.size + 1 from by have := L_O1.out; omega)
  have NE_O1_O2 := Aside0.mk (show w.heap.size ≠ w.heap.size + 1 by omega)
  have O1_1 := Aside0.mk (blk_alloc (blk_new w (.cells #[.int .i64 kd1, .int .u64 k1, .int .u64 v1, .int .i64 z1] 39)) (.cells #[.int .i64 kd2, .int .u64 k2, .int .u64 v2, .int .i64 z2] 39))
  have O2_2 := Aside0.mk (blk_new2 w (.cells #[.int .i64 kd1, .int .u64 k1, .int .u64 v1, .int .i64 z1] 39) (.cells #[.int .i64 kd2, .int .u64 k2, .int .u64 v2, .int .i64 z2] 39))
  have B3 := Aside0.mk (below_alloc (below_alloc (Below.refl w.heap.size w) (.cells #[.int .i64 kd1, .int .u64 k1, .int .u64 v1, .int .i64 z1] 39)) (.cells #[.int .i64 kd2, .int .u64 k2, .int .u64 v2, .int .i64 z2] 39))
  go_enter Try.func4, Try.ntmps4
  go_wp2_with fail
  refine (awake_T _).mono ?_
  rintro e_ w2 ⟨rfl, hb⟩
  have O1_4 := Aside0.mk (blk_below O1_1.out hb)
  have O2_5 := Aside0.mk (blk_below O2_2.out hb)
  have B6 := Aside0.mk (below_step B3.out hb)
  clear hb O1_1 O2_2 B3
  go_wp2_with fail
  refine (new_T A c l _ (Kd.C_below HC.out B6.out) HCC.out HN.out).mono ?_
  rintro e_ w3 ⟨rfl, -, hb⟩
  rw [HNW.out]
  have O1_7 := Aside0.mk (blk_below O1_4.out hb)
  have O2_8 := Aside0.mk (blk_below O2_5.out hb)
  have B9 := Aside0.mk (below_step B6.out hb)
  clear hb O1_4 O2_5 B6
  have L_XS := Aside0.mk (show w.heap.size ≤ w3.heap.size from B9.out.size)
  have NE_O1_XS := Aside0.mk (show w.heap.size ≠ w3.heap.size by have := blk_lt O1_7.out; omega)
  have NE_O2_XS := Aside0.mk (show w.heap.size + 1 ≠ w3.heap.size by have := blk_lt O2_8.out; omega)
  have O1_10 := Aside0.mk (blk_alloc O1_7.out (.cells #[.int .i64 0, .int .u64 0, .int .u64 0, .int .u64 0, .int .u64 0, .int .u64 0, .int .u64 0, .int .u64 0, .int .u64 0, .int .u64 0, .int .u64 0, .int .u64 0, .int .u64 0, .int .u64 0, .int .u64 0, .int .u64 0, .int .u64 0, .int .u64 0, .int .u64 0, .int .u64 0, .int .u64 0, .int .u64 0, .int .u64 0, .int .u64 0, .int .u64 0, .int .u64 0, .int .u64 0, .int .u64 0, .int .u64 0, .int .u64 0, .int .u64 0, .int .u64 0, .int .u64 0] 29))
  have O2_11 := Aside0.mk (blk_alloc O2_8.out (.cells #[.int .i64 0, .int .u64 0, .int .u64 0, .int .u64 0, .int .u64 0, .int .u64 0, .int .u64 0, .int .u64 0, .int .u64 0, .int .u64 0, .int .u64 0, .int .u64 0, .int .u64 0, .int .u64 0, .int .u64 0, .int .u64 0, .int .u64 0, .int .u64 0, .int .u64 0, .int .u64 0, .int .u64 0, .int .u64 0, .int .u64 0, .int .u64 0, .int .u64 0, .int .u64 0, .int .u64 0, .int .u64 0, .int .u64 0, .int .u64 0, .int .u64 0, .int .u64 0, .int .u64 0] 29))
  have XS_12 := Aside0.mk (blk_new w3 (.cells #[.int .i64 0, .int .u64 0, .int .u64 0, .int .u64 0, .int .u64 0, .int .u64 0, .int .u64 0, .int .u64 0, .int .u64 0, .int .u64 0, .int .u64 0, .int .u64 0, .int .u64 0, .int .u64 0, .int .u64 0, .int .u64 0, .int .u64 0, .int .u64 0, .int .u64 0, .int .u64 0, .int .u64 0, .int .u64 0, .int .u64 0, .int .u64 0, .int .u64 0, .int .u64 0, .int .u64 0, .int .u64 0, .int .u64 0, .int .u64 0, .int .u64 0, .int .u64 0, .int .u64 0] 29))
  have B13 := Aside0.mk (below_alloc B9.out (.cells #[.int .i64 0, .int .u64 0, .int .u64 0, .int .u64 0, .int .u64 0, .int .u64 0, .int .u64 0, .int .u64 0, .int .u64 0, .int .u64 0, .int .u64 0, .int .u64 0, .int .u64 0, .int .u64 0, .int .u64 0, .int .u64 0, .int .u64 0, .int .u64 0, .int .u64 0, .int .u64 0, .int .u64 0, .int .u64 0, .int .u64 0, .int .u64 0, .int .u64 0, .int .u64 0, .int .u64 0, .int .u64 0, .int .u64 0, .int .u64 0, .int .u64 0, .int .u64 0, .int .u64 0] 29))
  clear O1_7 O2_8 B9
  go_wp2_with (first
    | (refine store_whole (w := w) (B := w.heap.size) rfl rfl 29 (.tmp 7) (.tmp 26) rfl (g := w3.heap.size) (cs := SV s) rfl _ rfl rfl (stot _) (SV_one _) XS_12.out (by first | (rw [SV_size]; done) | (rw [SV_size, SV_size]; done) | (rw [SV_size]; rfl)) L_XS.out B13.out ?_; intro w_14 h1 h2 h3 h4; have O1_15 := Aside0.mk ((h3 _ NE_O1_XS.out).trans O1_10.out); have O2_16 := Aside0.mk ((h3 _ NE_O2_XS.out).trans O2_11.out); have XS_17 := Aside0.mk (h1); have B18 := Aside0.mk (h2); clear h1 h2 h3 h4 O1_10 O2_11 XS_12 B13; have a1 : w_14.cell? ⟨w.heap.size, 1, none⟩ = some (.int .u64 k1) := (blk_cell O1_15.out 1).trans rfl; have a2 : w_14.cell? ⟨w.heap.size + 1, 1, none⟩ = some (.int .u64 k2) := (blk_cell O2_16.out 1).trans rfl))
  go_ret
  exact ⟨rfl, B18.out⟩
set_option maxHeartbeats 16000000 in
set_option maxRecDepth 100000 in
theorem apart_k (A : Option Addr) (c : Nat) (l s : List S26) (kd1 k1 v1 z1 kd2 k2 v2 z2 : Int) (w : World) (hC : Kd.C k26 w A l.length l) (hcc : l.length ≤ c) (hn : l.length ≤ 4611686018427387904) (hnw : newV l = (s, 0)) (hg : l.length ≤ 14) (hs : s.length ≤ 16) (hk : k1 = k2) :
    Calls Try.prog 4 #[.slice A l.length c, .agg #[.int .i64 kd1, .int .u64 k1, .int .u64 v1, .int .i64 z1], .agg #[.int .i64 kd2, .int .u64 k2, .int .u64 v2, .int .i64 z2]] w fun e w' => e = .returned (.bool true) ∧ Below w.heap.size w w' := by
  have hu29 := Try.underlying29
  have hu39 := Try.underlying39
  have hu35 := Try.underlying35
  have HC := Aside0.mk hC
  have HCC := Aside0.mk hcc
  have HN := Aside0.mk hn
  have HNW := Aside0.mk hnw
  clear hC hcc hn hnw
  have t1 : decide ((14 : Int) < (l.length : Int)) = false := decide_eq_false (by omega)
  have t2 := eq_false (show ¬ (14 : Int) < (l.length : Int) by omega)
  have HS := Aside0.mk hs
  clear hg hs
  have t3 : (k1 == k2) = true := beq_iff_eq.2 hk
  have t4 := eq_true hk
  clear hk
  have L_O1 := Aside0.mk (show w.heap.size ≤ w.heap.size from Nat.le_refl _)
  have L_O2 := Aside0.mk (show w.heap.size ≤ w.heap.size + 1 from by have := L_O1.out; omega)
  have NE_O1_O2 := Aside0.mk (show w.heap.size ≠ w.heap.size + 1 by omega)
  have O1_1 := Aside0.mk (blk_alloc (blk_new w (.cells #[.int .i64 kd1, .int .u64 k1, .int .u64 v1, .int .i64 z1] 39)) (.cells #[.int .i64 kd2, .int .u64 k2, .int .u64 v2, .int .i64 z2] 39))
  have O2_2 := Aside0.mk (blk_new2 w (.cells #[.int .i64 kd1, .int .u64 k1, .int .u64 v1, .int .i64 z1] 39) (.cells #[.int .i64 kd2, .int .u64 k2, .int .u64 v2, .int .i64 z2] 39))
  have B3 := Aside0.mk (below_alloc (below_alloc (Below.refl w.heap.size w) (.cells #[.int .i64 kd1, .int .u64 k1, .int .u64 v1, .int .i64 z1] 39)) (.cells #[.int .i64 kd2, .int .u64 k2, .int .u64 v2, .int .i64 z2] 39))
  go_enter Try.func4, Try.ntmps4
  go_wp2_with fail
  refine (awake_T _).mono ?_
  rintro e_ w2 ⟨rfl, hb⟩
  have O1_4 := Aside0.mk (blk_below O1_1.out hb)
  have O2_5 := Aside0.mk (blk_below O2_2.out hb)
  have B6 := Aside0.mk (below_step B3.out hb)
  clear hb O1_1 O2_2 B3
  go_wp2_with fail
  refine (new_T A c l _ (Kd.C_below HC.out B6.out) HCC.out HN.out).mono ?_
  rintro e_ w3 ⟨rfl, -, hb⟩
  rw [HNW.out]
  have O1_7 := Aside0.mk (blk_below O1_4.out hb)
  have O2_8 := Aside0.mk (blk_below O2_5.out hb)
  have B9 := Aside0.mk (below_step B6.out hb)
  clear hb O1_4 O2_5 B6
  have L_XS := Aside0.mk (show w.heap.size ≤ w3.heap.size from B9.out.size)
  have NE_O1_XS := Aside0.mk (show w.heap.size ≠ w3.heap.size by have := blk_lt O1_7.out; omega)
  have NE_O2_XS := Aside0.mk (show w.heap.size + 1 ≠ w3.heap.size by have := blk_lt O2_8.out; omega)
  have O1_10 := Aside0.mk (blk_alloc O1_7.out (.cells #[.int .i64 0, .int .u64 0, .int .u64 0, .int .u64 0, .int .u64 0, .int .u64 0, .int .u64 0, .int .u64 0, .int .u64 0, .int .u64 0, .int .u64 0, .int .u64 0, .int .u64 0, .int .u64 0, .int .u64 0, .int .u64 0, .int .u64 0, .int .u64 0, .int .u64 0, .int .u64 0, .int .u64 0, .int .u64 0, .int .u64 0, .int .u64 0, .int .u64 0, .int .u64 0, .int .u64 0, .int .u64 0, .int .u64 0, .int .u64 0, .int .u64 0, .int .u64 0, .int .u64 0] 29))
  have O2_11 := Aside0.mk (blk_alloc O2_8.out (.cells #[.int .i64 0, .int .u64 0, .int .u64 0, .int .u64 0, .int .u64 0, .int .u64 0, .int .u64 0, .int .u64 0, .int .u64 0, .int .u64 0, .int .u64 0, .int .u64 0, .int .u64 0, .int .u64 0, .int .u64 0, .int .u64 0, .int .u64 0, .int .u64 0, .int .u64 0, .int .u64 0, .int .u64 0, .int .u64 0, .int .u64 0, .int .u64 0, .int .u64 0, .int .u64 0, .int .u64 0, .int .u64 0, .int .u64 0, .int .u64 0, .int .u64 0, .int .u64 0, .int .u64 0] 29))
  have XS_12 := Aside0.mk (blk_new w3 (.cells #[.int .i64 0, .int .u64 0, .int .u64 0, .int .u64 0, .int .u64 0, .int .u64 0, .int .u64 0, .int .u64 0, .int .u64 0, .int .u64 0, .int .u64 0, .int .u64 0, .int .u64 0, .int .u64 0, .int .u64 0, .int .u64 0, .int .u64 0, .int .u64 0, .int .u64 0, .int .u64 0, .int .u64 0, .int .u64 0, .int .u64 0, .int .u64 0, .int .u64 0, .int .u64 0, .int .u64 0, .int .u64 0, .int .u64 0, .int .u64 0, .int .u64 0, .int .u64 0, .int .u64 0] 29))
  have B13 := Aside0.mk (below_alloc B9.out (.cells #[.int .i64 0, .int .u64 0, .int .u64 0, .int .u64 0, .int .u64 0, .int .u64 0, .int .u64 0, .int .u64 0, .int .u64 0, .int .u64 0, .int .u64 0, .int .u64 0, .int .u64 0, .int .u64 0, .int .u64 0, .int .u64 0, .int .u64 0, .int .u64 0, .int .u64 0, .int .u64 0, .int .u64 0, .int .u64 0, .int .u64 0, .int .u64 0, .int .u64 0, .int .u64 0, .int .u64 0, .int .u64 0, .int .u64 0, .int .u64 0, .int .u64 0, .int .u64 0, .int .u64 0] 29))
  clear O1_7 O2_8 B9
  go_wp2_with (first
    | (refine store_whole (w := w) (B := w.heap.size) rfl rfl 29 (.tmp 7) (.tmp 26) rfl (g := w3.heap.size) (cs := SV s) rfl _ rfl rfl (stot _) (SV_one _) XS_12.out (by first | (rw [SV_size]; done) | (rw [SV_size, SV_size]; done) | (rw [SV_size]; rfl)) L_XS.out B13.out ?_; intro w_14 h1 h2 h3 h4; have O1_15 := Aside0.mk ((h3 _ NE_O1_XS.out).trans O1_10.out); have O2_16 := Aside0.mk ((h3 _ NE_O2_XS.out).trans O2_11.out); have XS_17 := Aside0.mk (h1); have B18 := Aside0.mk (h2); clear h1 h2 h3 h4 O1_10 O2_11 XS_12 B13; have a1 : w_14.cell? ⟨w.heap.size, 1, none⟩ = some (.int .u64 k1) := (blk_cell O1_15.out 1).trans rfl; have a2 : w_14.cell? ⟨w.heap.size + 1, 1, none⟩ = some (.int .u64 k2) := (blk_cell O2_16.out 1).trans rfl))
  go_ret
  exact ⟨rfl, B18.out⟩
set_option maxHeartbeats 16000000 in
set_option maxRecDepth 100000 in
theorem apart_f (A : Option Addr) (c : Nat) (l s : List S26) (kd1 k1 v1 z1 kd2 k2 v2 z2 : Int) (a b : List S26) (x0 y0 : Int) (x1 y1 : Bool) (x2 y2 : Int) (f : Int) (g : Int) (w : World) (hC : Kd.C k26 w A l.length l) (hcc : l.length ≤ c) (hn : l.length ≤ 4611686018427387904) (hnw : newV l = (s, 0)) (hg : l.length ≤ 14) (hs : s.length ≤ 16) (hk : k1 ≠ k2) (hd1 : doV s kd1 k1 v1 = (a, (x0, x1, x2), f)) (hd2 : doV s kd2 k2 v2 = (b, (y0, y1, y2), g)) (hf : f ≠ 0) :
    Calls Try.prog 4 #[.slice A l.length c, .agg #[.int .i64 kd1, .int .u64 k1, .int .u64 v1, .int .i64 z1], .agg #[.int .i64 kd2, .int .u64 k2, .int .u64 v2, .int .i64 z2]] w fun e w' => e = .returned (.bool true) ∧ Below w.heap.size w w' := by
  have hu29 := Try.underlying29
  have hu39 := Try.underlying39
  have hu35 := Try.underlying35
  have HC := Aside0.mk hC
  have HCC := Aside0.mk hcc
  have HN := Aside0.mk hn
  have HNW := Aside0.mk hnw
  clear hC hcc hn hnw
  have t1 : decide ((14 : Int) < (l.length : Int)) = false := decide_eq_false (by omega)
  have t2 := eq_false (show ¬ (14 : Int) < (l.length : Int) by omega)
  have HS := Aside0.mk hs
  clear hg hs
  have t3 : (k1 == k2) = false := beq_eq_false_iff_ne.2 hk
  have t4 := eq_false hk
  clear hk
  have D1 := Aside0.mk hd1
  have D2 := Aside0.mk hd2
  clear hd1 hd2
  have te : (f == 0) = false := beq_eq_false_iff_ne.2 hf
  have tf := eq_false hf
  clear hf
  have L_O1 := Aside0.mk (show w.heap.size ≤ w.heap.size from Nat.le_refl _)
  have L_O2 := Aside0.mk (show w.heap.size ≤ w.heap.size + 1 from by have := L_O1.out; omega)
  have NE_O1_O2 := Aside0.mk (show w.heap.size ≠ w.heap.size + 1 by omega)
  have O1_1 := Aside0.mk (blk_alloc (blk_new w (.cells #[.int .i64 kd1, .int .u64 k1, .int .u64 v1, .int .i64 z1] 39)) (.cells #[.int .i64 kd2, .int .u64 k2, .int .u64 v2, .int .i64 z2] 39))
  have O2_2 := Aside0.mk (blk_new2 w (.cells #[.int .i64 kd1, .int .u64 k1, .int .u64 v1, .int .i64 z1] 39) (.cells #[.int .i64 kd2, .int .u64 k2, .int .u64 v2, .int .i64 z2] 39))
  have B3 := Aside0.mk (below_alloc (below_alloc (Below.refl w.heap.size w) (.cells #[.int .i64 kd1, .int .u64 k1, .int .u64 v1, .int .i64 z1] 39)) (.cells #[.int .i64 kd2, .int .u64 k2, .int .u64 v2, .int .i64 z2] 39))
  go_enter Try.func4, Try.ntmps4
  go_wp2_with fail
  refine (awake_T _).mono ?_
  rintro e_ w2 ⟨rfl, hb⟩
  have O1_4 := Aside0.mk (blk_below O1_1.out hb)
  have O2_5 := Aside0.mk (blk_below O2_2.out hb)
  have B6 := Aside0.mk (below_step B3.out hb)
  clear hb O1_1 O2_2 B3
  go_wp2_with fail
  refine (new_T A c l _ (Kd.C_below HC.out B6.out) HCC.out HN.out).mono ?_
  rintro e_ w3 ⟨rfl, -, hb⟩
  rw [HNW.out]
  have O1_7 := Aside0.mk (blk_below O1_4.out hb)
  have O2_8 := Aside0.mk (blk_below O2_5.out hb)
  have B9 := Aside0.mk (below_step B6.out hb)
  clear hb O1_4 O2_5 B6
  have L_XS := Aside0.mk (show w.heap.size ≤ w3.heap.size from B9.out.size)
  have NE_O1_XS := Aside0.mk (show w.heap.size ≠ w3.heap.size by have := blk_lt O1_7.out; omega)
  have NE_O2_XS := Aside0.mk (show w.heap.size + 1 ≠ w3.heap.size by have := blk_lt O2_8.out; omega)
  have O1_10 := Aside0.mk (blk_alloc O1_7.out (.cells #[.int .i64 0, .int .u64 0, .int .u64 0, .int .u64 0, .int .u64 0, .int .u64 0, .int .u64 0, .int .u64 0, .int .u64 0, .int .u64 0, .int .u64 0, .int .u64 0, .int .u64 0, .int .u64 0, .int .u64 0, .int .u64 0, .int .u64 0, .int .u64 0, .int .u64 0, .int .u64 0, .int .u64 0, .int .u64 0, .int .u64 0, .int .u64 0, .int .u64 0, .int .u64 0, .int .u64 0, .int .u64 0, .int .u64 0, .int .u64 0, .int .u64 0, .int .u64 0, .int .u64 0] 29))
  have O2_11 := Aside0.mk (blk_alloc O2_8.out (.cells #[.int .i64 0, .int .u64 0, .int .u64 0, .int .u64 0, .int .u64 0, .int .u64 0, .int .u64 0, .int .u64 0, .int .u64 0, .int .u64 0, .int .u64 0, .int .u64 0, .int .u64 0, .int .u64 0, .int .u64 0, .int .u64 0, .int .u64 0, .int .u64 0, .int .u64 0, .int .u64 0, .int .u64 0, .int .u64 0, .int .u64 0, .int .u64 0, .int .u64 0, .int .u64 0, .int .u64 0, .int .u64 0, .int .u64 0, .int .u64 0, .int .u64 0, .int .u64 0, .int .u64 0] 29))
  have XS_12 := Aside0.mk (blk_new w3 (.cells #[.int .i64 0, .int .u64 0, .int .u64 0, .int .u64 0, .int .u64 0, .int .u64 0, .int .u64 0, .int .u64 0, .int .u64 0, .int .u64 0, .int .u64 0, .int .u64 0, .int .u64 0, .int .u64 0, .int .u64 0, .int .u64 0, .int .u64 0, .int .u64 0, .int .u64 0, .int .u64 0, .int .u64 0, .int .u64 0, .int .u64 0, .int .u64 0, .int .u64 0, .int .u64 0, .int .u64 0, .int .u64 0, .int .u64 0, .int .u64 0, .int .u64 0, .int .u64 0, .int .u64 0] 29))
  have B13 := Aside0.mk (below_alloc B9.out (.cells #[.int .i64 0, .int .u64 0, .int .u64 0, .int .u64 0, .int .u64 0, .int .u64 0, .int .u64 0, .int .u64 0, .int .u64 0, .int .u64 0, .int .u64 0, .int .u64 0, .int .u64 0, .int .u64 0, .int .u64 0, .int .u64 0, .int .u64 0, .int .u64 0, .int .u64 0, .int .u64 0, .int .u64 0, .int .u64 0, .int .u64 0, .int .u64 0, .int .u64 0, .int .u64 0, .int .u64 0, .int .u64 0, .int .u64 0, .int .u64 0, .int .u64 0, .int .u64 0, .int .u64 0] 29))
  clear O1_7 O2_8 B9
  go_wp2_with (first
    | (refine store_whole (w := w) (B := w.heap.size) rfl rfl 29 (.tmp 7) (.tmp 26) rfl (g := w3.heap.size) (cs := SV s) rfl _ rfl rfl (stot _) (SV_one _) XS_12.out (by first | (rw [SV_size]; done) | (rw [SV_size, SV_size]; done) | (rw [SV_size]; rfl)) L_XS.out B13.out ?_; intro w_14 h1 h2 h3 h4; have O1_15 := Aside0.mk ((h3 _ NE_O1_XS.out).trans O1_10.out); have O2_16 := Aside0.mk ((h3 _ NE_O2_XS.out).trans O2_11.out); have XS_17 := Aside0.mk (h1); have B18 := Aside0.mk (h2); clear h1 h2 h3 h4 O1_10 O2_11 XS_12 B13; have a1 : w_14.cell? ⟨w.heap.size, 1, none⟩ = some (.int .u64 k1) := (blk_cell O1_15.out 1).trans rfl; have a2 : w_14.cell? ⟨w.heap.size + 1, 1, none⟩ = some (.int .u64 k2) := (blk_cell O2_16.out 1).trans rfl)
    | (refine wpList_load_row_g (by rfl) 29 (.tmp 7) rfl (w3.heap.size) rfl 29 (SV s) (0, 0) _ XS_17.out Try.underlying29 rfl (info29 _) ?_)
    | (refine wpList_load_row_g (by rfl) 39 (.tmp 4) rfl (w.heap.size) rfl 39 (#[.int .i64 kd1, .int .u64 k1, .int .u64 v1, .int .i64 z1]) (0, 0) _ O1_15.out Try.underlying39 rfl (by kernel_rfl) ?_))
  refine (do_T s kd1 k1 v1 z1 _ HS.out).mono ?_
  rintro e_ w4 ⟨rfl, hb⟩
  rw [D1.out]
  have O1_19 := Aside0.mk (blk_below O1_15.out hb)
  have O2_20 := Aside0.mk (blk_below O2_16.out hb)
  have XS_21 := Aside0.mk (blk_below XS_17.out hb)
  have B22 := Aside0.mk (below_step B18.out hb)
  clear hb O1_15 O2_16 XS_17 B18
  have L_XA := Aside0.mk (show w.heap.size ≤ w4.heap.size from B22.out.size)
  have NE_O1_XA := Aside0.mk (show w.heap.size ≠ w4.heap.size by have := blk_lt O1_19.out; omega)
  have NE_O2_XA := Aside0.mk (show w.heap.size + 1 ≠ w4.heap.size by have := blk_lt O2_20.out; omega)
  have NE_XS_XA := Aside0.mk (show w3.heap.size ≠ w4.heap.size by have := blk_lt XS_21.out; omega)
  have L_XX := Aside0.mk (show w.heap.size ≤ w4.heap.size + 1 from by have := L_XA.out; omega)
  have NE_O1_XX := Aside0.mk (show w.heap.size ≠ w4.heap.size + 1 by have := blk_lt O1_19.out; omega)
  have NE_O2_XX := Aside0.mk (show w.heap.size + 1 ≠ w4.heap.size + 1 by have := blk_lt O2_20.out; omega)
  have NE_XS_XX := Aside0.mk (show w3.heap.size ≠ w4.heap.size + 1 by have := blk_lt XS_21.out; omega)
  have NE_XA_XX := Aside0.mk (show w4.heap.size ≠ w4.heap.size + 1 by omega)
  have O1_23 := Aside0.mk (blk_alloc (blk_alloc O1_19.out (.cells #[.int .i64 0, .int .u64 0, .int .u64 0, .int .u64 0, .int .u64 0, .int .u64 0, .int .u64 0, .int .u64 0, .int .u64 0, .int .u64 0, .int .u64 0, .int .u64 0, .int .u64 0, .int .u64 0, .int .u64 0, .int .u64 0, .int .u64 0, .int .u64 0, .int .u64 0, .int .u64 0, .int .u64 0, .int .u64 0, .int .u64 0, .int .u64 0, .int .u64 0, .int .u64 0, .int .u64 0, .int .u64 0, .int .u64 0, .int .u64 0, .int .u64 0, .int .u64 0, .int .u64 0] 29)) (.cells #[.int .i64 0, .bool false, .int .u64 0] 35))
  have O2_24 := Aside0.mk (blk_alloc (blk_alloc O2_20.out (.cells #[.int .i64 0, .int .u64 0, .int .u64 0, .int .u64 0, .int .u64 0, .int .u64 0, .int .u64 0, .int .u64 0, .int .u64 0, .int .u64 0, .int .u64 0, .int .u64 0, .int .u64 0, .int .u64 0, .int .u64 0, .int .u64 0, .int .u64 0, .int .u64 0, .int .u64 0, .int .u64 0, .int .u64 0, .int .u64 0, .int .u64 0, .int .u64 0, .int .u64 0, .int .u64 0, .int .u64 0, .int .u64 0, .int .u64 0, .int .u64 0, .int .u64 0, .int .u64 0, .int .u64 0] 29)) (.cells #[.int .i64 0, .bool false, .int .u64 0] 35))
  have XS_25 := Aside0.mk (blk_alloc (blk_alloc XS_21.out (.cells #[.int .i64 0, .int .u64 0, .int .u64 0, .int .u64 0, .int .u64 0, .int .u64 0, .int .u64 0, .int .u64 0, .int .u64 0, .int .u64 0, .int .u64 0, .int .u64 0, .int .u64 0, .int .u64 0, .int .u64 0, .int .u64 0, .int .u64 0, .int .u64 0, .int .u64 0, .int .u64 0, .int .u64 0, .int .u64 0, .int .u64 0, .int .u64 0, .int .u64 0, .int .u64 0, .int .u64 0, .int .u64 0, .int .u64 0, .int .u64 0, .int .u64 0, .int .u64 0, .int .u64 0] 29)) (.cells #[.int .i64 0, .bool false, .int .u64 0] 35))
  have XA_26 := Aside0.mk (blk_alloc (blk_new w4 (.cells #[.int .i64 0, .int .u64 0, .int .u64 0, .int .u64 0, .int .u64 0, .int .u64 0, .int .u64 0, .int .u64 0, .int .u64 0, .int .u64 0, .int .u64 0, .int .u64 0, .int .u64 0, .int .u64 0, .int .u64 0, .int .u64 0, .int .u64 0, .int .u64 0, .int .u64 0, .int .u64 0, .int .u64 0, .int .u64 0, .int .u64 0, .int .u64 0, .int .u64 0, .int .u64 0, .int .u64 0, .int .u64 0, .int .u64 0, .int .u64 0, .int .u64 0, .int .u64 0, .int .u64 0] 29)) (.cells #[.int .i64 0, .bool false, .int .u64 0] 35))
  have XX_27 := Aside0.mk (blk_new2 w4 (.cells #[.int .i64 0, .int .u64 0, .int .u64 0, .int .u64 0, .int .u64 0, .int .u64 0, .int .u64 0, .int .u64 0, .int .u64 0, .int .u64 0, .int .u64 0, .int .u64 0, .int .u64 0, .int .u64 0, .int .u64 0, .int .u64 0, .int .u64 0, .int .u64 0, .int .u64 0, .int .u64 0, .int .u64 0, .int .u64 0, .int .u64 0, .int .u64 0, .int .u64 0, .int .u64 0, .int .u64 0, .int .u64 0, .int .u64 0, .int .u64 0, .int .u64 0, .int .u64 0, .int .u64 0] 29) (.cells #[.int .i64 0, .bool false, .int .u64 0] 35))
  have B28 := Aside0.mk (below_alloc (below_alloc B22.out (.cells #[.int .i64 0, .int .u64 0, .int .u64 0, .int .u64 0, .int .u64 0, .int .u64 0, .int .u64 0, .int .u64 0, .int .u64 0, .int .u64 0, .int .u64 0, .int .u64 0, .int .u64 0, .int .u64 0, .int .u64 0, .int .u64 0, .int .u64 0, .int .u64 0, .int .u64 0, .int .u64 0, .int .u64 0, .int .u64 0, .int .u64 0, .int .u64 0, .int .u64 0, .int .u64 0, .int .u64 0, .int .u64 0, .int .u64 0, .int .u64 0, .int .u64 0, .int .u64 0, .int .u64 0] 29)) (.cells #[.int .i64 0, .bool false, .int .u64 0] 35))
  clear O1_19 O2_20 XS_21 B22
  go_wp2_with (first
    | (refine store_whole (w := w) (B := w.heap.size) rfl rfl 29 (.tmp 9) (.tmp 46) rfl (g := w4.heap.size) (cs := SV a) rfl _ rfl rfl (stot _) (SV_one _) XA_26.out (by first | (rw [SV_size]; done) | (rw [SV_size, SV_size]; done) | (rw [SV_size]; rfl)) L_XA.out B28.out ?_; intro w_29 h1 h2 h3 h4; have O1_30 := Aside0.mk ((h3 _ NE_O1_XA.out).trans O1_23.out); have O2_31 := Aside0.mk ((h3 _ NE_O2_XA.out).trans O2_24.out); have XS_32 := Aside0.mk ((h3 _ NE_XS_XA.out).trans XS_25.out); have XA_33 := Aside0.mk (h1); have XX_34 := Aside0.mk ((h3 _ (Ne.symm NE_XA_XX.out)).trans XX_27.out); have B35 := Aside0.mk (h2); clear h1 h2 h3 h4 O1_23 O2_24 XS_25 XA_26 XX_27 B28)
    | (refine store_whole (w := w) (B := w.heap.size) rfl rfl 35 (.tmp 10) (.tmp 47) rfl (g := w4.heap.size + 1) (cs := #[.int .i64 x0, .bool x1, .int .u64 x2]) rfl _ rfl rfl (by kernel_rfl) (by simp [Value.oneCell']) XX_34.out (rfl) L_XX.out B35.out ?_; intro w_36 h1 h2 h3 h4; have O1_37 := Aside0.mk ((h3 _ NE_O1_XX.out).trans O1_30.out); have O2_38 := Aside0.mk ((h3 _ NE_O2_XX.out).trans O2_31.out); have XS_39 := Aside0.mk ((h3 _ NE_XS_XX.out).trans XS_32.out); have XA_40 := Aside0.mk ((h3 _ NE_XA_XX.out).trans XA_33.out); have XX_41 := Aside0.mk (h1); have B42 := Aside0.mk (h2); clear h1 h2 h3 h4 O1_30 O2_31 XS_32 XA_33 XX_34 B35)
    | (refine wpList_load_row_g (by rfl) 29 (.tmp 7) rfl (w3.heap.size) rfl 29 (SV s) (0, 0) _ XS_39.out Try.underlying29 rfl (info29 _) ?_)
    | (refine wpList_load_row_g (by rfl) 39 (.tmp 5) rfl (w.heap.size + 1) rfl 39 (#[.int .i64 kd2, .int .u64 k2, .int .u64 v2, .int .i64 z2]) (0, 0) _ O2_38.out Try.underlying39 rfl (by kernel_rfl) ?_))
  refine (do_T s kd2 k2 v2 z2 _ HS.out).mono ?_
  rintro e_ w5 ⟨rfl, hb⟩
  rw [D2.out]
  have O1_43 := Aside0.mk (blk_below O1_37.out hb)
  have O2_44 := Aside0.mk (blk_below O2_38.out hb)
  have XS_45 := Aside0.mk (blk_below XS_39.out hb)
  have XA_46 := Aside0.mk (blk_below XA_40.out hb)
  have XX_47 := Aside0.mk (blk_below XX_41.out hb)
  have B48 := Aside0.mk (below_step B42.out hb)
  clear hb O1_37 O2_38 XS_39 XA_40 XX_41 B42
  have L_XB := Aside0.mk (show w.heap.size ≤ w5.heap.size from B48.out.size)
  have NE_O1_XB := Aside0.mk (show w.heap.size ≠ w5.heap.size by have := blk_lt O1_43.out; omega)
  have NE_O2_XB := Aside0.mk (show w.heap.size + 1 ≠ w5.heap.size by have := blk_lt O2_44.out; omega)
  have NE_XS_XB := Aside0.mk (show w3.heap.size ≠ w5.heap.size by have := blk_lt XS_45.out; omega)
  have NE_XA_XB := Aside0.mk (show w4.heap.size ≠ w5.heap.size by have := blk_lt XA_46.out; omega)
  have NE_XX_XB := Aside0.mk (show w4.heap.size + 1 ≠ w5.heap.size by have := blk_lt XX_47.out; omega)
  have L_XY := Aside0.mk (show w.heap.size ≤ w5.heap.size + 1 from by have := L_XB.out; omega)
  have NE_O1_XY := Aside0.mk (show w.heap.size ≠ w5.heap.size + 1 by have := blk_lt O1_43.out; omega)
  have NE_O2_XY := Aside0.mk (show w.heap.size + 1 ≠ w5.heap.size + 1 by have := blk_lt O2_44.out; omega)
  have NE_XS_XY := Aside0.mk (show w3.heap.size ≠ w5.heap.size + 1 by have := blk_lt XS_45.out; omega)
  have NE_XA_XY := Aside0.mk (show w4.heap.size ≠ w5.heap.size + 1 by have := blk_lt XA_46.out; omega)
  have NE_XX_XY := Aside0.mk (show w4.heap.size + 1 ≠ w5.heap.size + 1 by have := blk_lt XX_47.out; omega)
  have NE_XB_XY := Aside0.mk (show w5.heap.size ≠ w5.heap.size + 1 by omega)
  have O1_49 := Aside0.mk (blk_alloc (blk_alloc O1_43.out (.cells #[.int .i64 0, .int .u64 0, .int .u64 0, .int .u64 0, .int .u64 0, .int .u64 0, .int .u64 0, .int .u64 0, .int .u64 0, .int .u64 0, .int .u64 0, .int .u64 0, .int .u64 0, .int .u64 0, .int .u64 0, .int .u64 0, .int .u64 0, .int .u64 0, .int .u64 0, .int .u64 0, .int .u64 0, .int .u64 0, .int .u64 0, .int .u64 0, .int .u64 0, .int .u64 0, .int .u64 0, .int .u64 0, .int .u64 0, .int .u64 0, .int .u64 0, .int .u64 0, .int .u64 0] 29)) (.cells #[.int .i64 0, .bool false, .int .u64 0] 35))
  have O2_50 := Aside0.mk (blk_alloc (blk_alloc O2_44.out (.cells #[.int .i64 0, .int .u64 0, .int .u64 0, .int .u64 0, .int .u64 0, .int .u64 0, .int .u64 0, .int .u64 0, .int .u64 0, .int .u64 0, .int .u64 0, .int .u64 0, .int .u64 0, .int .u64 0, .int .u64 0, .int .u64 0, .int .u64 0, .int .u64 0, .int .u64 0, .int .u64 0, .int .u64 0, .int .u64 0, .int .u64 0, .int .u64 0, .int .u64 0, .int .u64 0, .int .u64 0, .int .u64 0, .int .u64 0, .int .u64 0, .int .u64 0, .int .u64 0, .int .u64 0] 29)) (.cells #[.int .i64 0, .bool false, .int .u64 0] 35))
  have XS_51 := Aside0.mk (blk_alloc (blk_alloc XS_45.out (.cells #[.int .i64 0, .int .u64 0, .int .u64 0, .int .u64 0, .int .u64 0, .int .u64 0, .int .u64 0, .int .u64 0, .int .u64 0, .int .u64 0, .int .u64 0, .int .u64 0, .int .u64 0, .int .u64 0, .int .u64 0, .int .u64 0, .int .u64 0, .int .u64 0, .int .u64 0, .int .u64 0, .int .u64 0, .int .u64 0, .int .u64 0, .int .u64 0, .int .u64 0, .int .u64 0, .int .u64 0, .int .u64 0, .int .u64 0, .int .u64 0, .int .u64 0, .int .u64 0, .int .u64 0] 29)) (.cells #[.int .i64 0, .bool false, .int .u64 0] 35))
  have XA_52 := Aside0.mk (blk_alloc (blk_alloc XA_46.out (.cells #[.int .i64 0, .int .u64 0, .int .u64 0, .int .u64 0, .int .u64 0, .int .u64 0, .int .u64 0, .int .u64 0, .int .u64 0, .int .u64 0, .int .u64 0, .int .u64 0, .int .u64 0, .int .u64 0, .int .u64 0, .int .u64 0, .int .u64 0, .int .u64 0, .int .u64 0, .int .u64 0, .int .u64 0, .int .u64 0, .int .u64 0, .int .u64 0, .int .u64 0, .int .u64 0, .int .u64 0, .int .u64 0, .int .u64 0, .int .u64 0, .int .u64 0, .int .u64 0, .int .u64 0] 29)) (.cells #[.int .i64 0, .bool false, .int .u64 0] 35))
  have XX_53 := Aside0.mk (blk_alloc (blk_alloc XX_47.out (.cells #[.int .i64 0, .int .u64 0, .int .u64 0, .int .u64 0, .int .u64 0, .int .u64 0, .int .u64 0, .int .u64 0, .int .u64 0, .int .u64 0, .int .u64 0, .int .u64 0, .int .u64 0, .int .u64 0, .int .u64 0, .int .u64 0, .int .u64 0, .int .u64 0, .int .u64 0, .int .u64 0, .int .u64 0, .int .u64 0, .int .u64 0, .int .u64 0, .int .u64 0, .int .u64 0, .int .u64 0, .int .u64 0, .int .u64 0, .int .u64 0, .int .u64 0, .int .u64 0, .int .u64 0] 29)) (.cells #[.int .i64 0, .bool false, .int .u64 0] 35))
  have XB_54 := Aside0.mk (blk_alloc (blk_new w5 (.cells #[.int .i64 0, .int .u64 0, .int .u64 0, .int .u64 0, .int .u64 0, .int .u64 0, .int .u64 0, .int .u64 0, .int .u64 0, .int .u64 0, .int .u64 0, .int .u64 0, .int .u64 0, .int .u64 0, .int .u64 0, .int .u64 0, .int .u64 0, .int .u64 0, .int .u64 0, .int .u64 0, .int .u64 0, .int .u64 0, .int .u64 0, .int .u64 0, .int .u64 0, .int .u64 0, .int .u64 0, .int .u64 0, .int .u64 0, .int .u64 0, .int .u64 0, .int .u64 0, .int .u64 0] 29)) (.cells #[.int .i64 0, .bool false, .int .u64 0] 35))
  have XY_55 := Aside0.mk (blk_new2 w5 (.cells #[.int .i64 0, .int .u64 0, .int .u64 0, .int .u64 0, .int .u64 0, .int .u64 0, .int .u64 0, .int .u64 0, .int .u64 0, .int .u64 0, .int .u64 0, .int .u64 0, .int .u64 0, .int .u64 0, .int .u64 0, .int .u64 0, .int .u64 0, .int .u64 0, .int .u64 0, .int .u64 0, .int .u64 0, .int .u64 0, .int .u64 0, .int .u64 0, .int .u64 0, .int .u64 0, .int .u64 0, .int .u64 0, .int .u64 0, .int .u64 0, .int .u64 0, .int .u64 0, .int .u64 0] 29) (.cells #[.int .i64 0, .bool false, .int .u64 0] 35))
  have B56 := Aside0.mk (below_alloc (below_alloc B48.out (.cells #[.int .i64 0, .int .u64 0, .int .u64 0, .int .u64 0, .int .u64 0, .int .u64 0, .int .u64 0, .int .u64 0, .int .u64 0, .int .u64 0, .int .u64 0, .int .u64 0, .int .u64 0, .int .u64 0, .int .u64 0, .int .u64 0, .int .u64 0, .int .u64 0, .int .u64 0, .int .u64 0, .int .u64 0, .int .u64 0, .int .u64 0, .int .u64 0, .int .u64 0, .int .u64 0, .int .u64 0, .int .u64 0, .int .u64 0, .int .u64 0, .int .u64 0, .int .u64 0, .int .u64 0] 29)) (.cells #[.int .i64 0, .bool false, .int .u64 0] 35))
  clear O1_43 O2_44 XS_45 XA_46 XX_47 B48
  go_wp2_with (first
    | (refine store_whole (w := w) (B := w.heap.size) rfl rfl 29 (.tmp 12) (.tmp 53) rfl (g := w5.heap.size) (cs := SV b) rfl _ rfl rfl (stot _) (SV_one _) XB_54.out (by first | (rw [SV_size]; done) | (rw [SV_size, SV_size]; done) | (rw [SV_size]; rfl)) L_XB.out B56.out ?_; intro w_57 h1 h2 h3 h4; have O1_58 := Aside0.mk ((h3 _ NE_O1_XB.out).trans O1_49.out); have O2_59 := Aside0.mk ((h3 _ NE_O2_XB.out).trans O2_50.out); have XS_60 := Aside0.mk ((h3 _ NE_XS_XB.out).trans XS_51.out); have XA_61 := Aside0.mk ((h3 _ NE_XA_XB.out).trans XA_52.out); have XX_62 := Aside0.mk ((h3 _ NE_XX_XB.out).trans XX_53.out); have XB_63 := Aside0.mk (h1); have XY_64 := Aside0.mk ((h3 _ (Ne.symm NE_XB_XY.out)).trans XY_55.out); have B65 := Aside0.mk (h2); clear h1 h2 h3 h4 O1_49 O2_50 XS_51 XA_52 XX_53 XB_54 XY_55 B56)
    | (refine store_whole (w := w) (B := w.heap.size) rfl rfl 35 (.tmp 13) (.tmp 54) rfl (g := w5.heap.size + 1) (cs := #[.int .i64 y0, .bool y1, .int .u64 y2]) rfl _ rfl rfl (by kernel_rfl) (by simp [Value.oneCell']) XY_64.out (rfl) L_XY.out B65.out ?_; intro w_66 h1 h2 h3 h4; have O1_67 := Aside0.mk ((h3 _ NE_O1_XY.out).trans O1_58.out); have O2_68 := Aside0.mk ((h3 _ NE_O2_XY.out).trans O2_59.out); have XS_69 := Aside0.mk ((h3 _ NE_XS_XY.out).trans XS_60.out); have XA_70 := Aside0.mk ((h3 _ NE_XA_XY.out).trans XA_61.out); have XX_71 := Aside0.mk ((h3 _ NE_XX_XY.out).trans XX_62.out); have XB_72 := Aside0.mk ((h3 _ NE_XB_XY.out).trans XB_63.out); have XY_73 := Aside0.mk (h1); have B74 := Aside0.mk (h2); clear h1 h2 h3 h4 O1_58 O2_59 XS_60 XA_61 XX_62 XB_63 XY_64 B65))
  go_ret
  exact ⟨rfl, B74.out⟩
set_option maxHeartbeats 16000000 in
set_option maxRecDepth 100000 in
theorem apart_g (A : Option Addr) (c : Nat) (l s : List S26) (kd1 k1 v1 z1 kd2 k2 v2 z2 : Int) (a b : List S26) (x0 y0 : Int) (x1 y1 : Bool) (x2 y2 : Int) (f : Int) (w : World) (hC : Kd.C k26 w A l.length l) (hcc : l.length ≤ c) (hn : l.length ≤ 4611686018427387904) (hnw : newV l = (s, 0)) (hg : l.length ≤ 14) (hs : s.length ≤ 16) (hk : k1 ≠ k2) (hd1 : doV s kd1 k1 v1 = (a, (x0, x1, x2), 0)) (hd2 : doV s kd2 k2 v2 = (b, (y0, y1, y2), f)) (hf : f ≠ 0) :
    Calls Try.prog 4 #[.slice A l.length c, .agg #[.int .i64 kd1, .int .u64 k1, .int .u64 v1, .int .i64 z1], .agg #[.int .i64 kd2, .int .u64 k2, .int .u64 v2, .int .i64 z2]] w fun e w' => e = .returned (.bool true) ∧ Below w.heap.size w w' := by
  have hu29 := Try.underlying29
  have hu39 := Try.underlying39
  have hu35 := Try.underlying35
  have HC := Aside0.mk hC
  have HCC := Aside0.mk hcc
  have HN := Aside0.mk hn
  have HNW := Aside0.mk hnw
  clear hC hcc hn hnw
  have t1 : decide ((14 : Int) < (l.length : Int)) = false := decide_eq_false (by omega)
  have t2 := eq_false (show ¬ (14 : Int) < (l.length : Int) by omega)
  have HS := Aside0.mk hs
  clear hg hs
  have t3 : (k1 == k2) = false := beq_eq_false_iff_ne.2 hk
  have t4 := eq_false hk
  clear hk
  have D1 := Aside0.mk hd1
  have D2 := Aside0.mk hd2
  clear hd1 hd2
  have te : (f == 0) = false := beq_eq_false_iff_ne.2 hf
  have tf := eq_false hf
  clear hf
  have L_O1 := Aside0.mk (show w.heap.size ≤ w.heap.size from Nat.le_refl _)
  have L_O2 := Aside0.mk (show w.heap.size ≤ w.heap.size + 1 from by have := L_O1.out; omega)
  have NE_O1_O2 := Aside0.mk (show w.heap.size ≠ w.heap.size + 1 by omega)
  have O1_1 := Aside0.mk (blk_alloc (blk_new w (.cells #[.int .i64 kd1, .int .u64 k1, .int .u64 v1, .int .i64 z1] 39)) (.cells #[.int .i64 kd2, .int .u64 k2, .int .u64 v2, .int .i64 z2] 39))
  have O2_2 := Aside0.mk (blk_new2 w (.cells #[.int .i64 kd1, .int .u64 k1, .int .u64 v1, .int .i64 z1] 39) (.cells #[.int .i64 kd2, .int .u64 k2, .int .u64 v2, .int .i64 z2] 39))
  have B3 := Aside0.mk (below_alloc (below_alloc (Below.refl w.heap.size w) (.cells #[.int .i64 kd1, .int .u64 k1, .int .u64 v1, .int .i64 z1] 39)) (.cells #[.int .i64 kd2, .int .u64 k2, .int .u64 v2, .int .i64 z2] 39))
  go_enter Try.func4, Try.ntmps4
  go_wp2_with fail
  refine (awake_T _).mono ?_
  rintro e_ w2 ⟨rfl, hb⟩
  have O1_4 := Aside0.mk (blk_below O1_1.out hb)
  have O2_5 := Aside0.mk (blk_below O2_2.out hb)
  have B6 := Aside0.mk (below_step B3.out hb)
  clear hb O1_1 O2_2 B3
  go_wp2_with fail
  refine (new_T A c l _ (Kd.C_below HC.out B6.out) HCC.out HN.out).mono ?_
  rintro e_ w3 ⟨rfl, -, hb⟩
  rw [HNW.out]
  have O1_7 := Aside0.mk (blk_below O1_4.out hb)
  have O2_8 := Aside0.mk (blk_below O2_5.out hb)
  have B9 := Aside0.mk (below_step B6.out hb)
  clear hb O1_4 O2_5 B6
  have L_XS := Aside0.mk (show w.heap.size ≤ w3.heap.size from B9.out.size)
  have NE_O1_XS := Aside0.mk (show w.heap.size ≠ w3.heap.size by have := blk_lt O1_7.out; omega)
  have NE_O2_XS := Aside0.mk (show w.heap.size + 1 ≠ w3.heap.size by have := blk_lt O2_8.out; omega)
  have O1_10 := Aside0.mk (blk_alloc O1_7.out (.cells #[.int .i64 0, .int .u64 0, .int .u64 0, .int .u64 0, .int .u64 0, .int .u64 0, .int .u64 0, .int .u64 0, .int .u64 0, .int .u64 0, .int .u64 0, .int .u64 0, .int .u64 0, .int .u64 0, .int .u64 0, .int .u64 0, .int .u64 0, .int .u64 0, .int .u64 0, .int .u64 0, .int .u64 0, .int .u64 0, .int .u64 0, .int .u64 0, .int .u64 0, .int .u64 0, .int .u64 0, .int .u64 0, .int .u64 0, .int .u64 0, .int .u64 0, .int .u64 0, .int .u64 0] 29))
  have O2_11 := Aside0.mk (blk_alloc O2_8.out (.cells #[.int .i64 0, .int .u64 0, .int .u64 0, .int .u64 0, .int .u64 0, .int .u64 0, .int .u64 0, .int .u64 0, .int .u64 0, .int .u64 0, .int .u64 0, .int .u64 0, .int .u64 0, .int .u64 0, .int .u64 0, .int .u64 0, .int .u64 0, .int .u64 0, .int .u64 0, .int .u64 0, .int .u64 0, .int .u64 0, .int .u64 0, .int .u64 0, .int .u64 0, .int .u64 0, .int .u64 0, .int .u64 0, .int .u64 0, .int .u64 0, .int .u64 0, .int .u64 0, .int .u64 0] 29))
  have XS_12 := Aside0.mk (blk_new w3 (.cells #[.int .i64 0, .int .u64 0, .int .u64 0, .int .u64 0, .int .u64 0, .int .u64 0, .int .u64 0, .int .u64 0, .int .u64 0, .int .u64 0, .int .u64 0, .int .u64 0, .int .u64 0, .int .u64 0, .int .u64 0, .int .u64 0, .int .u64 0, .int .u64 0, .int .u64 0, .int .u64 0, .int .u64 0, .int .u64 0, .int .u64 0, .int .u64 0, .int .u64 0, .int .u64 0, .int .u64 0, .int .u64 0, .int .u64 0, .int .u64 0, .int .u64 0, .int .u64 0, .int .u64 0] 29))
  have B13 := Aside0.mk (below_alloc B9.out (.cells #[.int .i64 0, .int .u64 0, .int .u64 0, .int .u64 0, .int .u64 0, .int .u64 0, .int .u64 0, .int .u64 0, .int .u64 0, .int .u64 0, .int .u64 0, .int .u64 0, .int .u64 0, .int .u64 0, .int .u64 0, .int .u64 0, .int .u64 0, .int .u64 0, .int .u64 0, .int .u64 0, .int .u64 0, .int .u64 0, .int .u64 0, .int .u64 0, .int .u64 0, .int .u64 0, .int .u64 0, .int .u64 0, .int .u64 0, .int .u64 0, .int .u64 0, .int .u64 0, .int .u64 0] 29))
  clear O1_7 O2_8 B9
  go_wp2_with (first
    | (refine store_whole (w := w) (B := w.heap.size) rfl rfl 29 (.tmp 7) (.tmp 26) rfl (g := w3.heap.size) (cs := SV s) rfl _ rfl rfl (stot _) (SV_one _) XS_12.out (by first | (rw [SV_size]; done) | (rw [SV_size, SV_size]; done) | (rw [SV_size]; rfl)) L_XS.out B13.out ?_; intro w_14 h1 h2 h3 h4; have O1_15 := Aside0.mk ((h3 _ NE_O1_XS.out).trans O1_10.out); have O2_16 := Aside0.mk ((h3 _ NE_O2_XS.out).trans O2_11.out); have XS_17 := Aside0.mk (h1); have B18 := Aside0.mk (h2); clear h1 h2 h3 h4 O1_10 O2_11 XS_12 B13; have a1 : w_14.cell? ⟨w.heap.size, 1, none⟩ = some (.int .u64 k1) := (blk_cell O1_15.out 1).trans rfl; have a2 : w_14.cell? ⟨w.heap.size + 1, 1, none⟩ = some (.int .u64 k2) := (blk_cell O2_16.out 1).trans rfl)
    | (refine wpList_load_row_g (by rfl) 29 (.tmp 7) rfl (w3.heap.size) rfl 29 (SV s) (0, 0) _ XS_17.out Try.underlying29 rfl (info29 _) ?_)
    | (refine wpList_load_row_g (by rfl) 39 (.tmp 4) rfl (w.heap.size) rfl 39 (#[.int .i64 kd1, .int .u64 k1, .int .u64 v1, .int .i64 z1]) (0, 0) _ O1_15.out Try.underlying39 rfl (by kernel_rfl) ?_))
  refine (do_T s kd1 k1 v1 z1 _ HS.out).mono ?_
  rintro e_ w4 ⟨rfl, hb⟩
  rw [D1.out]
  have O1_19 := Aside0.mk (blk_below O1_15.out hb)
  have O2_20 := Aside0.mk (blk_below O2_16.out hb)
  have XS_21 := Aside0.mk (blk_below XS_17.out hb)
  have B22 := Aside0.mk (below_step B18.out hb)
  clear hb O1_15 O2_16 XS_17 B18
  have L_XA := Aside0.mk (show w.heap.size ≤ w4.heap.size from B22.out.size)
  have NE_O1_XA := Aside0.mk (show w.heap.size ≠ w4.heap.size by have := blk_lt O1_19.out; omega)
  have NE_O2_XA := Aside0.mk (show w.heap.size + 1 ≠ w4.heap.size by have := blk_lt O2_20.out; omega)
  have NE_XS_XA := Aside0.mk (show w3.heap.size ≠ w4.heap.size by have := blk_lt XS_21.out; omega)
  have L_XX := Aside0.mk (show w.heap.size ≤ w4.heap.size + 1 from by have := L_XA.out; omega)
  have NE_O1_XX := Aside0.mk (show w.heap.size ≠ w4.heap.size + 1 by have := blk_lt O1_19.out; omega)
  have NE_O2_XX := Aside0.mk (show w.heap.size + 1 ≠ w4.heap.size + 1 by have := blk_lt O2_20.out; omega)
  have NE_XS_XX := Aside0.mk (show w3.heap.size ≠ w4.heap.size + 1 by have := blk_lt XS_21.out; omega)
  have NE_XA_XX := Aside0.mk (show w4.heap.size ≠ w4.heap.size + 1 by omega)
  have O1_23 := Aside0.mk (blk_alloc (blk_alloc O1_19.out (.cells #[.int .i64 0, .int .u64 0, .int .u64 0, .int .u64 0, .int .u64 0, .int .u64 0, .int .u64 0, .int .u64 0, .int .u64 0, .int .u64 0, .int .u64 0, .int .u64 0, .int .u64 0, .int .u64 0, .int .u64 0, .int .u64 0, .int .u64 0, .int .u64 0, .int .u64 0, .int .u64 0, .int .u64 0, .int .u64 0, .int .u64 0, .int .u64 0, .int .u64 0, .int .u64 0, .int .u64 0, .int .u64 0, .int .u64 0, .int .u64 0, .int .u64 0, .int .u64 0, .int .u64 0] 29)) (.cells #[.int .i64 0, .bool false, .int .u64 0] 35))
  have O2_24 := Aside0.mk (blk_alloc (blk_alloc O2_20.out (.cells #[.int .i64 0, .int .u64 0, .int .u64 0, .int .u64 0, .int .u64 0, .int .u64 0, .int .u64 0, .int .u64 0, .int .u64 0, .int .u64 0, .int .u64 0, .int .u64 0, .int .u64 0, .int .u64 0, .int .u64 0, .int .u64 0, .int .u64 0, .int .u64 0, .int .u64 0, .int .u64 0, .int .u64 0, .int .u64 0, .int .u64 0, .int .u64 0, .int .u64 0, .int .u64 0, .int .u64 0, .int .u64 0, .int .u64 0, .int .u64 0, .int .u64 0, .int .u64 0, .int .u64 0] 29)) (.cells #[.int .i64 0, .bool false, .int .u64 0] 35))
  have XS_25 := Aside0.mk (blk_alloc (blk_alloc XS_21.out (.cells #[.int .i64 0, .int .u64 0, .int .u64 0, .int .u64 0, .int .u64 0, .int .u64 0, .int .u64 0, .int .u64 0, .int .u64 0, .int .u64 0, .int .u64 0, .int .u64 0, .int .u64 0, .int .u64 0, .int .u64 0, .int .u64 0, .int .u64 0, .int .u64 0, .int .u64 0, .int .u64 0, .int .u64 0, .int .u64 0, .int .u64 0, .int .u64 0, .int .u64 0, .int .u64 0, .int .u64 0, .int .u64 0, .int .u64 0, .int .u64 0, .int .u64 0, .int .u64 0, .int .u64 0] 29)) (.cells #[.int .i64 0, .bool false, .int .u64 0] 35))
  have XA_26 := Aside0.mk (blk_alloc (blk_new w4 (.cells #[.int .i64 0, .int .u64 0, .int .u64 0, .int .u64 0, .int .u64 0, .int .u64 0, .int .u64 0, .int .u64 0, .int .u64 0, .int .u64 0, .int .u64 0, .int .u64 0, .int .u64 0, .int .u64 0, .int .u64 0, .int .u64 0, .int .u64 0, .int .u64 0, .int .u64 0, .int .u64 0, .int .u64 0, .int .u64 0, .int .u64 0, .int .u64 0, .int .u64 0, .int .u64 0, .int .u64 0, .int .u64 0, .int .u64 0, .int .u64 0, .int .u64 0, .int .u64 0, .int .u64 0] 29)) (.cells #[.int .i64 0, .bool false, .int .u64 0] 35))
  have XX_27 := Aside0.mk (blk_new2 w4 (.cells #[.int .i64 0, .int .u64 0, .int .u64 0, .int .u64 0, .int .u64 0, .int .u64 0, .int .u64 0, .int .u64 0, .int .u64 0, .int .u64 0, .int .u64 0, .int .u64 0, .int .u64 0, .int .u64 0, .int .u64 0, .int .u64 0, .int .u64 0, .int .u64 0, .int .u64 0, .int .u64 0, .int .u64 0, .int .u64 0, .int .u64 0, .int .u64 0, .int .u64 0, .int .u64 0, .int .u64 0, .int .u64 0, .int .u64 0, .int .u64 0, .int .u64 0, .int .u64 0, .int .u64 0] 29) (.cells #[.int .i64 0, .bool false, .int .u64 0] 35))
  have B28 := Aside0.mk (below_alloc (below_alloc B22.out (.cells #[.int .i64 0, .int .u64 0, .int .u64 0, .int .u64 0, .int .u64 0, .int .u64 0, .int .u64 0, .int .u64 0, .int .u64 0, .int .u64 0, .int .u64 0, .int .u64 0, .int .u64 0, .int .u64 0, .int .u64 0, .int .u64 0, .int .u64 0, .int .u64 0, .int .u64 0, .int .u64 0, .int .u64 0, .int .u64 0, .int .u64 0, .int .u64 0, .int .u64 0, .int .u64 0, .int .u64 0, .int .u64 0, .int .u64 0, .int .u64 0, .int .u64 0, .int .u64 0, .int .u64 0] 29)) (.cells #[.int .i64 0, .bool false, .int .u64 0] 35))
  clear O1_19 O2_20 XS_21 B22
  go_wp2_with (first
    | (refine store_whole (w := w) (B := w.heap.size) rfl rfl 29 (.tmp 9) (.tmp 46) rfl (g := w4.heap.size) (cs := SV a) rfl _ rfl rfl (stot _) (SV_one _) XA_26.out (by first | (rw [SV_size]; done) | (rw [SV_size, SV_size]; done) | (rw [SV_size]; rfl)) L_XA.out B28.out ?_; intro w_29 h1 h2 h3 h4; have O1_30 := Aside0.mk ((h3 _ NE_O1_XA.out).trans O1_23.out); have O2_31 := Aside0.mk ((h3 _ NE_O2_XA.out).trans O2_24.out); have XS_32 := Aside0.mk ((h3 _ NE_XS_XA.out).trans XS_25.out); have XA_33 := Aside0.mk (h1); have XX_34 := Aside0.mk ((h3 _ (Ne.symm NE_XA_XX.out)).trans XX_27.out); have B35 := Aside0.mk (h2); clear h1 h2 h3 h4 O1_23 O2_24 XS_25 XA_26 XX_27 B28)
    | (refine store_whole (w := w) (B := w.heap.size) rfl rfl 35 (.tmp 10) (.tmp 47) rfl (g := w4.heap.size + 1) (cs := #[.int .i64 x0, .bool x1, .int .u64 x2]) rfl _ rfl rfl (by kernel_rfl) (by simp [Value.oneCell']) XX_34.out (rfl) L_XX.out B35.out ?_; intro w_36 h1 h2 h3 h4; have O1_37 := Aside0.mk ((h3 _ NE_O1_XX.out).trans O1_30.out); have O2_38 := Aside0.mk ((h3 _ NE_O2_XX.out).trans O2_31.out); have XS_39 := Aside0.mk ((h3 _ NE_XS_XX.out).trans XS_32.out); have XA_40 := Aside0.mk ((h3 _ NE_XA_XX.out).trans XA_33.out); have XX_41 := Aside0.mk (h1); have B42 := Aside0.mk (h2); clear h1 h2 h3 h4 O1_30 O2_31 XS_32 XA_33 XX_34 B35)
    | (refine wpList_load_row_g (by rfl) 29 (.tmp 7) rfl (w3.heap.size) rfl 29 (SV s) (0, 0) _ XS_39.out Try.underlying29 rfl (info29 _) ?_)
    | (refine wpList_load_row_g (by rfl) 39 (.tmp 5) rfl (w.heap.size + 1) rfl 39 (#[.int .i64 kd2, .int .u64 k2, .int .u64 v2, .int .i64 z2]) (0, 0) _ O2_38.out Try.underlying39 rfl (by kernel_rfl) ?_))
  refine (do_T s kd2 k2 v2 z2 _ HS.out).mono ?_
  rintro e_ w5 ⟨rfl, hb⟩
  rw [D2.out]
  have O1_43 := Aside0.mk (blk_below O1_37.out hb)
  have O2_44 := Aside0.mk (blk_below O2_38.out hb)
  have XS_45 := Aside0.mk (blk_below XS_39.out hb)
  have XA_46 := Aside0.mk (blk_below XA_40.out hb)
  have XX_47 := Aside0.mk (blk_below XX_41.out hb)
  have B48 := Aside0.mk (below_step B42.out hb)
  clear hb O1_37 O2_38 XS_39 XA_40 XX_41 B42
  have L_XB := Aside0.mk (show w.heap.size ≤ w5.heap.size from B48.out.size)
  have NE_O1_XB := Aside0.mk (show w.heap.size ≠ w5.heap.size by have := blk_lt O1_43.out; omega)
  have NE_O2_XB := Aside0.mk (show w.heap.size + 1 ≠ w5.heap.size by have := blk_lt O2_44.out; omega)
  have NE_XS_XB := Aside0.mk (show w3.heap.size ≠ w5.heap.size by have := blk_lt XS_45.out; omega)
  have NE_XA_XB := Aside0.mk (show w4.heap.size ≠ w5.heap.size by have := blk_lt XA_46.out; omega)
  have NE_XX_XB := Aside0.mk (show w4.heap.size + 1 ≠ w5.heap.size by have := blk_lt XX_47.out; omega)
  have L_XY := Aside0.mk (show w.heap.size ≤ w5.heap.size + 1 from by have := L_XB.out; omega)
  have NE_O1_XY := Aside0.mk (show w.heap.size ≠ w5.heap.size + 1 by have := blk_lt O1_43.out; omega)
  have NE_O2_XY := Aside0.mk (show w.heap.size + 1 ≠ w5.heap.size + 1 by have := blk_lt O2_44.out; omega)
  have NE_XS_XY := Aside0.mk (show w3.heap.size ≠ w5.heap.size + 1 by have := blk_lt XS_45.out; omega)
  have NE_XA_XY := Aside0.mk (show w4.heap.size ≠ w5.heap.size + 1 by have := blk_lt XA_46.out; omega)
  have NE_XX_XY := Aside0.mk (show w4.heap.size + 1 ≠ w5.heap.size + 1 by have := blk_lt XX_47.out; omega)
  have NE_XB_XY := Aside0.mk (show w5.heap.size ≠ w5.heap.size + 1 by omega)
  have O1_49 := Aside0.mk (blk_alloc (blk_alloc O1_43.out (.cells #[.int .i64 0, .int .u64 0, .int .u64 0, .int .u64 0, .int .u64 0, .int .u64 0, .int .u64 0, .int .u64 0, .int .u64 0, .int .u64 0, .int .u64 0, .int .u64 0, .int .u64 0, .int .u64 0, .int .u64 0, .int .u64 0, .int .u64 0, .int .u64 0, .int .u64 0, .int .u64 0, .int .u64 0, .int .u64 0, .int .u64 0, .int .u64 0, .int .u64 0, .int .u64 0, .int .u64 0, .int .u64 0, .int .u64 0, .int .u64 0, .int .u64 0, .int .u64 0, .int .u64 0] 29)) (.cells #[.int .i64 0, .bool false, .int .u64 0] 35))
  have O2_50 := Aside0.mk (blk_alloc (blk_alloc O2_44.out (.cells #[.int .i64 0, .int .u64 0, .int .u64 0, .int .u64 0, .int .u64 0, .int .u64 0, .int .u64 0, .int .u64 0, .int .u64 0, .int .u64 0, .int .u64 0, .int .u64 0, .int .u64 0, .int .u64 0, .int .u64 0, .int .u64 0, .int .u64 0, .int .u64 0, .int .u64 0, .int .u64 0, .int .u64 0, .int .u64 0, .int .u64 0, .int .u64 0, .int .u64 0, .int .u64 0, .int .u64 0, .int .u64 0, .int .u64 0, .int .u64 0, .int .u64 0, .int .u64 0, .int .u64 0] 29)) (.cells #[.int .i64 0, .bool false, .int .u64 0] 35))
  have XS_51 := Aside0.mk (blk_alloc (blk_alloc XS_45.out (.cells #[.int .i64 0, .int .u64 0, .int .u64 0, .int .u64 0, .int .u64 0, .int .u64 0, .int .u64 0, .int .u64 0, .int .u64 0, .int .u64 0, .int .u64 0, .int .u64 0, .int .u64 0, .int .u64 0, .int .u64 0, .int .u64 0, .int .u64 0, .int .u64 0, .int .u64 0, .int .u64 0, .int .u64 0, .int .u64 0, .int .u64 0, .int .u64 0, .int .u64 0, .int .u64 0, .int .u64 0, .int .u64 0, .int .u64 0, .int .u64 0, .int .u64 0, .int .u64 0, .int .u64 0] 29)) (.cells #[.int .i64 0, .bool false, .int .u64 0] 35))
  have XA_52 := Aside0.mk (blk_alloc (blk_alloc XA_46.out (.cells #[.int .i64 0, .int .u64 0, .int .u64 0, .int .u64 0, .int .u64 0, .int .u64 0, .int .u64 0, .int .u64 0, .int .u64 0, .int .u64 0, .int .u64 0, .int .u64 0, .int .u64 0, .int .u64 0, .int .u64 0, .int .u64 0, .int .u64 0, .int .u64 0, .int .u64 0, .int .u64 0, .int .u64 0, .int .u64 0, .int .u64 0, .int .u64 0, .int .u64 0, .int .u64 0, .int .u64 0, .int .u64 0, .int .u64 0, .int .u64 0, .int .u64 0, .int .u64 0, .int .u64 0] 29)) (.cells #[.int .i64 0, .bool false, .int .u64 0] 35))
  have XX_53 := Aside0.mk (blk_alloc (blk_alloc XX_47.out (.cells #[.int .i64 0, .int .u64 0, .int .u64 0, .int .u64 0, .int .u64 0, .int .u64 0, .int .u64 0, .int .u64 0, .int .u64 0, .int .u64 0, .int .u64 0, .int .u64 0, .int .u64 0, .int .u64 0, .int .u64 0, .int .u64 0, .int .u64 0, .int .u64 0, .int .u64 0, .int .u64 0, .int .u64 0, .int .u64 0, .int .u64 0, .int .u64 0, .int .u64 0, .int .u64 0, .int .u64 0, .int .u64 0, .int .u64 0, .int .u64 0, .int .u64 0, .int .u64 0, .int .u64 0] 29)) (.cells #[.int .i64 0, .bool false, .int .u64 0] 35))
  have XB_54 := Aside0.mk (blk_alloc (blk_new w5 (.cells #[.int .i64 0, .int .u64 0, .int .u64 0, .int .u64 0, .int .u64 0, .int .u64 0, .int .u64 0, .int .u64 0, .int .u64 0, .int .u64 0, .int .u64 0, .int .u64 0, .int .u64 0, .int .u64 0, .int .u64 0, .int .u64 0, .int .u64 0, .int .u64 0, .int .u64 0, .int .u64 0, .int .u64 0, .int .u64 0, .int .u64 0, .int .u64 0, .int .u64 0, .int .u64 0, .int .u64 0, .int .u64 0, .int .u64 0, .int .u64 0, .int .u64 0, .int .u64 0, .int .u64 0] 29)) (.cells #[.int .i64 0, .bool false, .int .u64 0] 35))
  have XY_55 := Aside0.mk (blk_new2 w5 (.cells #[.int .i64 0, .int .u64 0, .int .u64 0, .int .u64 0, .int .u64 0, .int .u64 0, .int .u64 0, .int .u64 0, .int .u64 0, .int .u64 0, .int .u64 0, .int .u64 0, .int .u64 0, .int .u64 0, .int .u64 0, .int .u64 0, .int .u64 0, .int .u64 0, .int .u64 0, .int .u64 0, .int .u64 0, .int .u64 0, .int .u64 0, .int .u64 0, .int .u64 0, .int .u64 0, .int .u64 0, .int .u64 0, .int .u64 0, .int .u64 0, .int .u64 0, .int .u64 0, .int .u64 0] 29) (.cells #[.int .i64 0, .bool false, .int .u64 0] 35))
  have B56 := Aside0.mk (below_alloc (below_alloc B48.out (.cells #[.int .i64 0, .int .u64 0, .int .u64 0, .int .u64 0, .int .u64 0, .int .u64 0, .int .u64 0, .int .u64 0, .int .u64 0, .int .u64 0, .int .u64 0, .int .u64 0, .int .u64 0, .int .u64 0, .int .u64 0, .int .u64 0, .int .u64 0, .int .u64 0, .int .u64 0, .int .u64 0, .int .u64 0, .int .u64 0, .int .u64 0, .int .u64 0, .int .u64 0, .int .u64 0, .int .u64 0, .int .u64 0, .int .u64 0, .int .u64 0, .int .u64 0, .int .u64 0, .int .u64 0] 29)) (.cells #[.int .i64 0, .bool false, .int .u64 0] 35))
  clear O1_43 O2_44 XS_45 XA_46 XX_47 B48
  go_wp2_with (first
    | (refine store_whole (w := w) (B := w.heap.size) rfl rfl 29 (.tmp 12) (.tmp 53) rfl (g := w5.heap.size) (cs := SV b) rfl _ rfl rfl (stot _) (SV_one _) XB_54.out (by first | (rw [SV_size]; done) | (rw [SV_size, SV_size]; done) | (rw [SV_size]; rfl)) L_XB.out B56.out ?_; intro w_57 h1 h2 h3 h4; have O1_58 := Aside0.mk ((h3 _ NE_O1_XB.out).trans O1_49.out); have O2_59 := Aside0.mk ((h3 _ NE_O2_XB.out).trans O2_50.out); have XS_60 := Aside0.mk ((h3 _ NE_XS_XB.out).trans XS_51.out); have XA_61 := Aside0.mk ((h3 _ NE_XA_XB.out).trans XA_52.out); have XX_62 := Aside0.mk ((h3 _ NE_XX_XB.out).trans XX_53.out); have XB_63 := Aside0.mk (h1); have XY_64 := Aside0.mk ((h3 _ (Ne.symm NE_XB_XY.out)).trans XY_55.out); have B65 := Aside0.mk (h2); clear h1 h2 h3 h4 O1_49 O2_50 XS_51 XA_52 XX_53 XB_54 XY_55 B56)
    | (refine store_whole (w := w) (B := w.heap.size) rfl rfl 35 (.tmp 13) (.tmp 54) rfl (g := w5.heap.size + 1) (cs := #[.int .i64 y0, .bool y1, .int .u64 y2]) rfl _ rfl rfl (by kernel_rfl) (by simp [Value.oneCell']) XY_64.out (rfl) L_XY.out B65.out ?_; intro w_66 h1 h2 h3 h4; have O1_67 := Aside0.mk ((h3 _ NE_O1_XY.out).trans O1_58.out); have O2_68 := Aside0.mk ((h3 _ NE_O2_XY.out).trans O2_59.out); have XS_69 := Aside0.mk ((h3 _ NE_XS_XY.out).trans XS_60.out); have XA_70 := Aside0.mk ((h3 _ NE_XA_XY.out).trans XA_61.out); have XX_71 := Aside0.mk ((h3 _ NE_XX_XY.out).trans XX_62.out); have XB_72 := Aside0.mk ((h3 _ NE_XB_XY.out).trans XB_63.out); have XY_73 := Aside0.mk (h1); have B74 := Aside0.mk (h2); clear h1 h2 h3 h4 O1_58 O2_59 XS_60 XA_61 XX_62 XB_63 XY_64 B65))
  go_ret
  exact ⟨rfl, B74.out⟩
set_option maxHeartbeats 16000000 in
set_option maxRecDepth 100000 in
theorem apart_ok (A : Option Addr) (c : Nat) (l s : List S26) (kd1 k1 v1 z1 kd2 k2 v2 z2 : Int) (a b : List S26) (x0 y0 : Int) (x1 y1 : Bool) (x2 y2 : Int) (cc : List S26) (w : World) (hC : Kd.C k26 w A l.length l) (hcc : l.length ≤ c) (hn : l.length ≤ 4611686018427387904) (hnw : newV l = (s, 0)) (hg : l.length ≤ 14) (hs : s.length ≤ 16) (hk : k1 ≠ k2) (hd1 : doV s kd1 k1 v1 = (a, (x0, x1, x2), 0)) (hd2 : doV s kd2 k2 v2 = (b, (y0, y1, y2), 0)) (ha : a.length ≤ 16) (hb : b.length ≤ 16) (hc : cc.length ≤ 16) (hd3 : doV a kd2 k2 v2 = (cc, (y0, y1, y2), 0)) (hd4 : doV b kd1 k1 v1 = (cc, (x0, x1, x2), 0)) :
    Calls Try.prog 4 #[.slice A l.length c, .agg #[.int .i64 kd1, .int .u64 k1, .int .u64 v1, .int .i64 z1], .agg #[.int .i64 kd2, .int .u64 k2, .int .u64 v2, .int .i64 z2]] w fun e w' => e = .returned (.bool true) ∧ Below w.heap.size w w' := by
  have hu29 := Try.underlying29
  have hu39 := Try.underlying39
  have hu35 := Try.underlying35
  have HC := Aside0.mk hC
  have HCC := Aside0.mk hcc
  have HN := Aside0.mk hn
  have HNW := Aside0.mk hnw
  clear hC hcc hn hnw
  have t1 : decide ((14 : Int) < (l.length : Int)) = false := decide_eq_false (by omega)
  have t2 := eq_false (show ¬ (14 : Int) < (l.length : Int) by omega)
  have HS := Aside0.mk hs
  clear hg hs
  have t3 : (k1 == k2) = false := beq_eq_false_iff_ne.2 hk
  have t4 := eq_false hk
  clear hk
  have D1 := Aside0.mk hd1
  have D2 := Aside0.mk hd2
  clear hd1 hd2
  have D3 := Aside0.mk hd3
  have D4 := Aside0.mk hd4
  have HA := Aside0.mk ha
  have HB := Aside0.mk hb
  have HCC16 := Aside0.mk hc
  clear hd3 hd4 ha hb hc
  have L_O1 := Aside0.mk (show w.heap.size ≤ w.heap.size from Nat.le_refl _)
  have L_O2 := Aside0.mk (show w.heap.size ≤ w.heap.size + 1 from by have := L_O1.out; omega)
  have NE_O1_O2 := Aside0.mk (show w.heap.size ≠ w.heap.size + 1 by omega)
  have O1_1 := Aside0.mk (blk_alloc (blk_new w (.cells #[.int .i64 kd1, .int .u64 k1, .int .u64 v1, .int .i64 z1] 39)) (.cells #[.int .i64 kd2, .int .u64 k2, .int .u64 v2, .int .i64 z2] 39))
  have O2_2 := Aside0.mk (blk_new2 w (.cells #[.int .i64 kd1, .int .u64 k1, .int .u64 v1, .int .i64 z1] 39) (.cells #[.int .i64 kd2, .int .u64 k2, .int .u64 v2, .int .i64 z2] 39))
  have B3 := Aside0.mk (below_alloc (below_alloc (Below.refl w.heap.size w) (.cells #[.int .i64 kd1, .int .u64 k1, .int .u64 v1, .int .i64 z1] 39)) (.cells #[.int .i64 kd2, .int .u64 k2, .int .u64 v2, .int .i64 z2] 39))
  go_enter Try.func4, Try.ntmps4
  go_wp2_with fail
  refine (awake_T _).mono ?_
  rintro e_ w2 ⟨rfl, hb⟩
  have O1_4 := Aside0.mk (blk_below O1_1.out hb)
  have O2_5 := Aside0.mk (blk_below O2_2.out hb)
  have B6 := Aside0.mk (below_step B3.out hb)
  clear hb O1_1 O2_2 B3
  go_wp2_with fail
  refine (new_T A c l _ (Kd.C_below HC.out B6.out) HCC.out HN.out).mono ?_
  rintro e_ w3 ⟨rfl, -, hb⟩
  rw [HNW.out]
  have O1_7 := Aside0.mk (blk_below O1_4.out hb)
  have O2_8 := Aside0.mk (blk_below O2_5.out hb)
  have B9 := Aside0.mk (below_step B6.out hb)
  clear hb O1_4 O2_5 B6
  have L_XS := Aside0.mk (show w.heap.size ≤ w3.heap.size from B9.out.size)
  have NE_O1_XS := Aside0.mk (show w.heap.size ≠ w3.heap.size by have := blk_lt O1_7.out; omega)
  have NE_O2_XS := Aside0.mk (show w.heap.size + 1 ≠ w3.heap.size by have := blk_lt O2_8.out; omega)
  have O1_10 := Aside0.mk (blk_alloc O1_7.out (.cells #[.int .i64 0, .int .u64 0, .int .u64 0, .int .u64 0, .int .u64 0, .int .u64 0, .int .u64 0, .int .u64 0, .int .u64 0, .int .u64 0, .int .u64 0, .int .u64 0, .int .u64 0, .int .u64 0, .int .u64 0, .int .u64 0, .int .u64 0, .int .u64 0, .int .u64 0, .int .u64 0, .int .u64 0, .int .u64 0, .int .u64 0, .int .u64 0, .int .u64 0, .int .u64 0, .int .u64 0, .int .u64 0, .int .u64 0, .int .u64 0, .int .u64 0, .int .u64 0, .int .u64 0] 29))
  have O2_11 := Aside0.mk (blk_alloc O2_8.out (.cells #[.int .i64 0, .int .u64 0, .int .u64 0, .int .u64 0, .int .u64 0, .int .u64 0, .int .u64 0, .int .u64 0, .int .u64 0, .int .u64 0, .int .u64 0, .int .u64 0, .int .u64 0, .int .u64 0, .int .u64 0, .int .u64 0, .int .u64 0, .int .u64 0, .int .u64 0, .int .u64 0, .int .u64 0, .int .u64 0, .int .u64 0, .int .u64 0, .int .u64 0, .int .u64 0, .int .u64 0, .int .u64 0, .int .u64 0, .int .u64 0, .int .u64 0, .int .u64 0, .int .u64 0] 29))
  have XS_12 := Aside0.mk (blk_new w3 (.cells #[.int .i64 0, .int .u64 0, .int .u64 0, .int .u64 0, .int .u64 0, .int .u64 0, .int .u64 0, .int .u64 0, .int .u64 0, .int .u64 0, .int .u64 0, .int .u64 0, .int .u64 0, .int .u64 0, .int .u64 0, .int .u64 0, .int .u64 0, .int .u64 0, .int .u64 0, .int .u64 0, .int .u64 0, .int .u64 0, .int .u64 0, .int .u64 0, .int .u64 0, .int .u64 0, .int .u64 0, .int .u64 0, .int .u64 0, .int .u64 0, .int .u64 0, .int .u64 0, .int .u64 0] 29))
  have B13 := Aside0.mk (below_alloc B9.out (.cells #[.int .i64 0, .int .u64 0, .int .u64 0, .int .u64 0, .int .u64 0, .int .u64 0, .int .u64 0, .int .u64 0, .int .u64 0, .int .u64 0, .int .u64 0, .int .u64 0, .int .u64 0, .int .u64 0, .int .u64 0, .int .u64 0, .int .u64 0, .int .u64 0, .int .u64 0, .int .u64 0, .int .u64 0, .int .u64 0, .int .u64 0, .int .u64 0, .int .u64 0, .int .u64 0, .int .u64 0, .int .u64 0, .int .u64 0, .int .u64 0, .int .u64 0, .int .u64 0, .int .u64 0] 29))
  clear O1_7 O2_8 B9
  go_wp2_with (first
    | (refine store_whole (w := w) (B := w.heap.size) rfl rfl 29 (.tmp 7) (.tmp 26) rfl (g := w3.heap.size) (cs := SV s) rfl _ rfl rfl (stot _) (SV_one _) XS_12.out (by first | (rw [SV_size]; done) | (rw [SV_size, SV_size]; done) | (rw [SV_size]; rfl)) L_XS.out B13.out ?_; intro w_14 h1 h2 h3 h4; have O1_15 := Aside0.mk ((h3 _ NE_O1_XS.out).trans O1_10.out); have O2_16 := Aside0.mk ((h3 _ NE_O2_XS.out).trans O2_11.out); have XS_17 := Aside0.mk (h1); have B18 := Aside0.mk (h2); clear h1 h2 h3 h4 O1_10 O2_11 XS_12 B13; have a1 : w_14.cell? ⟨w.heap.size, 1, none⟩ = some (.int .u64 k1) := (blk_cell O1_15.out 1).trans rfl; have a2 : w_14.cell? ⟨w.heap.size + 1, 1, none⟩ = some (.int .u64 k2) := (blk_cell O2_16.out 1).trans rfl)
    | (refine wpList_load_row_g (by rfl) 29 (.tmp 7) rfl (w3.heap.size) rfl 29 (SV s) (0, 0) _ XS_17.out Try.underlying29 rfl (info29 _) ?_)
    | (refine wpList_load_row_g (by rfl) 39 (.tmp 4) rfl (w.heap.size) rfl 39 (#[.int .i64 kd1, .int .u64 k1, .int .u64 v1, .int .i64 z1]) (0, 0) _ O1_15.out Try.underlying39 rfl (by kernel_rfl) ?_))
  refine (do_T s kd1 k1 v1 z1 _ HS.out).mono ?_
  rintro e_ w4 ⟨rfl, hb⟩
  rw [D1.out]
  have O1_19 := Aside0.mk (blk_below O1_15.out hb)
  have O2_20 := Aside0.mk (blk_below O2_16.out hb)
  have XS_21 := Aside0.mk (blk_below XS_17.out hb)
  have B22 := Aside0.mk (below_step B18.out hb)
  clear hb O1_15 O2_16 XS_17 B18
  have L_XA := Aside0.mk (show w.heap.size ≤ w4.heap.size from B22.out.size)
  have NE_O1_XA := Aside0.mk (show w.heap.size ≠ w4.heap.size by have := blk_lt O1_19.out; omega)
  have NE_O2_XA := Aside0.mk (show w.heap.size + 1 ≠ w4.heap.size by have := blk_lt O2_20.out; omega)
  have NE_XS_XA := Aside0.mk (show w3.heap.size ≠ w4.heap.size by have := blk_lt XS_21.out; omega)
  have L_XX := Aside0.mk (show w.heap.size ≤ w4.heap.size + 1 from by have := L_XA.out; omega)
  have NE_O1_XX := Aside0.mk (show w.heap.size ≠ w4.heap.size + 1 by have := blk_lt O1_19.out; omega)
  have NE_O2_XX := Aside0.mk (show w.heap.size + 1 ≠ w4.heap.size + 1 by have := blk_lt O2_20.out; omega)
  have NE_XS_XX := Aside0.mk (show w3.heap.size ≠ w4.heap.size + 1 by have := blk_lt XS_21.out; omega)
  have NE_XA_XX := Aside0.mk (show w4.heap.size ≠ w4.heap.size + 1 by omega)
  have O1_23 := Aside0.mk (blk_alloc (blk_alloc O1_19.out (.cells #[.int .i64 0, .int .u64 0, .int .u64 0, .int .u64 0, .int .u64 0, .int .u64 0, .int .u64 0, .int .u64 0, .int .u64 0, .int .u64 0, .int .u64 0, .int .u64 0, .int .u64 0, .int .u64 0, .int .u64 0, .int .u64 0, .int .u64 0, .int .u64 0, .int .u64 0, .int .u64 0, .int .u64 0, .int .u64 0, .int .u64 0, .int .u64 0, .int .u64 0, .int .u64 0, .int .u64 0, .int .u64 0, .int .u64 0, .int .u64 0, .int .u64 0, .int .u64 0, .int .u64 0] 29)) (.cells #[.int .i64 0, .bool false, .int .u64 0] 35))
  have O2_24 := Aside0.mk (blk_alloc (blk_alloc O2_20.out (.cells #[.int .i64 0, .int .u64 0, .int .u64 0, .int .u64 0, .int .u64 0, .int .u64 0, .int .u64 0, .int .u64 0, .int .u64 0, .int .u64 0, .int .u64 0, .int .u64 0, .int .u64 0, .int .u64 0, .int .u64 0, .int .u64 0, .int .u64 0, .int .u64 0, .int .u64 0, .int .u64 0, .int .u64 0, .int .u64 0, .int .u64 0, .int .u64 0, .int .u64 0, .int .u64 0, .int .u64 0, .int .u64 0, .int .u64 0, .int .u64 0, .int .u64 0, .int .u64 0, .int .u64 0] 29)) (.cells #[.int .i64 0, .bool false, .int .u64 0] 35))
  have XS_25 := Aside0.mk (blk_alloc (blk_alloc XS_21.out (.cells #[.int .i64 0, .int .u64 0, .int .u64 0, .int .u64 0, .int .u64 0, .int .u64 0, .int .u64 0, .int .u64 0, .int .u64 0, .int .u64 0, .int .u64 0, .int .u64 0, .int .u64 0, .int .u64 0, .int .u64 0, .int .u64 0, .int .u64 0, .int .u64 0, .int .u64 0, .int .u64 0, .int .u64 0, .int .u64 0, .int .u64 0, .int .u64 0, .int .u64 0, .int .u64 0, .int .u64 0, .int .u64 0, .int .u64 0, .int .u64 0, .int .u64 0, .int .u64 0, .int .u64 0] 29)) (.cells #[.int .i64 0, .bool false, .int .u64 0] 35))
  have XA_26 := Aside0.mk (blk_alloc (blk_new w4 (.cells #[.int .i64 0, .int .u64 0, .int .u64 0, .int .u64 0, .int .u64 0, .int .u64 0, .int .u64 0, .int .u64 0, .int .u64 0, .int .u64 0, .int .u64 0, .int .u64 0, .int .u64 0, .int .u64 0, .int .u64 0, .int .u64 0, .int .u64 0, .int .u64 0, .int .u64 0, .int .u64 0, .int .u64 0, .int .u64 0, .int .u64 0, .int .u64 0, .int .u64 0, .int .u64 0, .int .u64 0, .int .u64 0, .int .u64 0, .int .u64 0, .int .u64 0, .int .u64 0, .int .u64 0] 29)) (.cells #[.int .i64 0, .bool false, .int .u64 0] 35))
  have XX_27 := Aside0.mk (blk_new2 w4 (.cells #[.int .i64 0, .int .u64 0, .int .u64 0, .int .u64 0, .int .u64 0, .int .u64 0, .int .u64 0, .int .u64 0, .int .u64 0, .int .u64 0, .int .u64 0, .int .u64 0, .int .u64 0, .int .u64 0, .int .u64 0, .int .u64 0, .int .u64 0, .int .u64 0, .int .u64 0, .int .u64 0, .int .u64 0, .int .u64 0, .int .u64 0, .int .u64 0, .int .u64 0, .int .u64 0, .int .u64 0, .int .u64 0, .int .u64 0, .int .u64 0, .int .u64 0, .int .u64 0, .int .u64 0] 29) (.cells #[.int .i64 0, .bool false, .int .u64 0] 35))
  have B28 := Aside0.mk (below_alloc (below_alloc B22.out (.cells #[.int .i64 0, .int .u64 0, .int .u64 0, .int .u64 0, .int .u64 0, .int .u64 0, .int .u64 0, .int .u64 0, .int .u64 0, .int .u64 0, .int .u64 0, .int .u64 0, .int .u64 0, .int .u64 0, .int .u64 0, .int .u64 0, .int .u64 0, .int .u64 0, .int .u64 0, .int .u64 0, .int .u64 0, .int .u64 0, .int .u64 0, .int .u64 0, .int .u64 0, .int .u64 0, .int .u64 0, .int .u64 0, .int .u64 0, .int .u64 0, .int .u64 0, .int .u64 0, .int .u64 0] 29)) (.cells #[.int .i64 0, .bool false, .int .u64 0] 35))
  clear O1_19 O2_20 XS_21 B22
  go_wp2_with (first
    | (refine store_whole (w := w) (B := w.heap.size) rfl rfl 29 (.tmp 9) (.tmp 46) rfl (g := w4.heap.size) (cs := SV a) rfl _ rfl rfl (stot _) (SV_one _) XA_26.out (by first | (rw [SV_size]; done) | (rw [SV_size, SV_size]; done) | (rw [SV_size]; rfl)) L_XA.out B28.out ?_; intro w_29 h1 h2 h3 h4; have O1_30 := Aside0.mk ((h3 _ NE_O1_XA.out).trans O1_23.out); have O2_31 := Aside0.mk ((h3 _ NE_O2_XA.out).trans O2_24.out); have XS_32 := Aside0.mk ((h3 _ NE_XS_XA.out).trans XS_25.out); have XA_33 := Aside0.mk (h1); have XX_34 := Aside0.mk ((h3 _ (Ne.symm NE_XA_XX.out)).trans XX_27.out); have B35 := Aside0.mk (h2); clear h1 h2 h3 h4 O1_23 O2_24 XS_25 XA_26 XX_27 B28)
    | (refine store_whole (w := w) (B := w.heap.size) rfl rfl 35 (.tmp 10) (.tmp 47) rfl (g := w4.heap.size + 1) (cs := #[.int .i64 x0, .bool x1, .int .u64 x2]) rfl _ rfl rfl (by kernel_rfl) (by simp [Value.oneCell']) XX_34.out (rfl) L_XX.out B35.out ?_; intro w_36 h1 h2 h3 h4; have O1_37 := Aside0.mk ((h3 _ NE_O1_XX.out).trans O1_30.out); have O2_38 := Aside0.mk ((h3 _ NE_O2_XX.out).trans O2_31.out); have XS_39 := Aside0.mk ((h3 _ NE_XS_XX.out).trans XS_32.out); have XA_40 := Aside0.mk ((h3 _ NE_XA_XX.out).trans XA_33.out); have XX_41 := Aside0.mk (h1); have B42 := Aside0.mk (h2); clear h1 h2 h3 h4 O1_30 O2_31 XS_32 XA_33 XX_34 B35)
    | (refine wpList_load_row_g (by rfl) 29 (.tmp 7) rfl (w3.heap.size) rfl 29 (SV s) (0, 0) _ XS_39.out Try.underlying29 rfl (info29 _) ?_)
    | (refine wpList_load_row_g (by rfl) 39 (.tmp 5) rfl (w.heap.size + 1) rfl 39 (#[.int .i64 kd2, .int .u64 k2, .int .u64 v2, .int .i64 z2]) (0, 0) _ O2_38.out Try.underlying39 rfl (by kernel_rfl) ?_))
  refine (do_T s kd2 k2 v2 z2 _ HS.out).mono ?_
  rintro e_ w5 ⟨rfl, hb⟩
  rw [D2.out]
  have O1_43 := Aside0.mk (blk_below O1_37.out hb)
  have O2_44 := Aside0.mk (blk_below O2_38.out hb)
  have XS_45 := Aside0.mk (blk_below XS_39.out hb)
  have XA_46 := Aside0.mk (blk_below XA_40.out hb)
  have XX_47 := Aside0.mk (blk_below XX_41.out hb)
  have B48 := Aside0.mk (below_step B42.out hb)
  clear hb O1_37 O2_38 XS_39 XA_40 XX_41 B42
  have L_XB := Aside0.mk (show w.heap.size ≤ w5.heap.size from B48.out.size)
  have NE_O1_XB := Aside0.mk (show w.heap.size ≠ w5.heap.size by have := blk_lt O1_43.out; omega)
  have NE_O2_XB := Aside0.mk (show w.heap.size + 1 ≠ w5.heap.size by have := blk_lt O2_44.out; omega)
  have NE_XS_XB := Aside0.mk (show w3.heap.size ≠ w5.heap.size by have := blk_lt XS_45.out; omega)
  have NE_XA_XB := Aside0.mk (show w4.heap.size ≠ w5.heap.size by have := blk_lt XA_46.out; omega)
  have NE_XX_XB := Aside0.mk (show w4.heap.size + 1 ≠ w5.heap.size by have := blk_lt XX_47.out; omega)
  have L_XY := Aside0.mk (show w.heap.size ≤ w5.heap.size + 1 from by have := L_XB.out; omega)
  have NE_O1_XY := Aside0.mk (show w.heap.size ≠ w5.heap.size + 1 by have := blk_lt O1_43.out; omega)
  have NE_O2_XY := Aside0.mk (show w.heap.size + 1 ≠ w5.heap.size + 1 by have := blk_lt O2_44.out; omega)
  have NE_XS_XY := Aside0.mk (show w3.heap.size ≠ w5.heap.size + 1 by have := blk_lt XS_45.out; omega)
  have NE_XA_XY := Aside0.mk (show w4.heap.size ≠ w5.heap.size + 1 by have := blk_lt XA_46.out; omega)
  have NE_XX_XY := Aside0.mk (show w4.heap.size + 1 ≠ w5.heap.size + 1 by have := blk_lt XX_47.out; omega)
  have NE_XB_XY := Aside0.mk (show w5.heap.size ≠ w5.heap.size + 1 by omega)
  have O1_49 := Aside0.mk (blk_alloc (blk_alloc O1_43.out (.cells #[.int .i64 0, .int .u64 0, .int .u64 0, .int .u64 0, .int .u64 0, .int .u64 0, .int .u64 0, .int .u64 0, .int .u64 0, .int .u64 0, .int .u64 0, .int .u64 0, .int .u64 0, .int .u64 0, .int .u64 0, .int .u64 0, .int .u64 0, .int .u64 0, .int .u64 0, .int .u64 0, .int .u64 0, .int .u64 0, .int .u64 0, .int .u64 0, .int .u64 0, .int .u64 0, .int .u64 0, .int .u64 0, .int .u64 0, .int .u64 0, .int .u64 0, .int .u64 0, .int .u64 0] 29)) (.cells #[.int .i64 0, .bool false, .int .u64 0] 35))
  have O2_50 := Aside0.mk (blk_alloc (blk_alloc O2_44.out (.cells #[.int .i64 0, .int .u64 0, .int .u64 0, .int .u64 0, .int .u64 0, .int .u64 0, .int .u64 0, .int .u64 0, .int .u64 0, .int .u64 0, .int .u64 0, .int .u64 0, .int .u64 0, .int .u64 0, .int .u64 0, .int .u64 0, .int .u64 0, .int .u64 0, .int .u64 0, .int .u64 0, .int .u64 0, .int .u64 0, .int .u64 0, .int .u64 0, .int .u64 0, .int .u64 0, .int .u64 0, .int .u64 0, .int .u64 0, .int .u64 0, .int .u64 0, .int .u64 0, .int .u64 0] 29)) (.cells #[.int .i64 0, .bool false, .int .u64 0] 35))
  have XS_51 := Aside0.mk (blk_alloc (blk_alloc XS_45.out (.cells #[.int .i64 0, .int .u64 0, .int .u64 0, .int .u64 0, .int .u64 0, .int .u64 0, .int .u64 0, .int .u64 0, .int .u64 0, .int .u64 0, .int .u64 0, .int .u64 0, .int .u64 0, .int .u64 0, .int .u64 0, .int .u64 0, .int .u64 0, .int .u64 0, .int .u64 0, .int .u64 0, .int .u64 0, .int .u64 0, .int .u64 0, .int .u64 0, .int .u64 0, .int .u64 0, .int .u64 0, .int .u64 0, .int .u64 0, .int .u64 0, .int .u64 0, .int .u64 0, .int .u64 0] 29)) (.cells #[.int .i64 0, .bool false, .int .u64 0] 35))
  have XA_52 := Aside0.mk (blk_alloc (blk_alloc XA_46.out (.cells #[.int .i64 0, .int .u64 0, .int .u64 0, .int .u64 0, .int .u64 0, .int .u64 0, .int .u64 0, .int .u64 0, .int .u64 0, .int .u64 0, .int .u64 0, .int .u64 0, .int .u64 0, .int .u64 0, .int .u64 0, .int .u64 0, .int .u64 0, .int .u64 0, .int .u64 0, .int .u64 0, .int .u64 0, .int .u64 0, .int .u64 0, .int .u64 0, .int .u64 0, .int .u64 0, .int .u64 0, .int .u64 0, .int .u64 0, .int .u64 0, .int .u64 0, .int .u64 0, .int .u64 0] 29)) (.cells #[.int .i64 0, .bool false, .int .u64 0] 35))
  have XX_53 := Aside0.mk (blk_alloc (blk_alloc XX_47.out (.cells #[.int .i64 0, .int .u64 0, .int .u64 0, .int .u64 0, .int .u64 0, .int .u64 0, .int .u64 0, .int .u64 0, .int .u64 0, .int .u64 0, .int .u64 0, .int .u64 0, .int .u64 0, .int .u64 0, .int .u64 0, .int .u64 0, .int .u64 0, .int .u64 0, .int .u64 0, .int .u64 0, .int .u64 0, .int .u64 0, .int .u64 0, .int .u64 0, .int .u64 0, .int .u64 0, .int .u64 0, .int .u64 0, .int .u64 0, .int .u64 0, .int .u64 0, .int .u64 0, .int .u64 0] 29)) (.cells #[.int .i64 0, .bool false, .int .u64 0] 35))
  have XB_54 := Aside0.mk (blk_alloc (blk_new w5 (.cells #[.int .i64 0, .int .u64 0, .int .u64 0, .int .u64 0, .int .u64 0, .int .u64 0, .int .u64 0, .int .u64 0, .int .u64 0, .int .u64 0, .int .u64 0, .int .u64 0, .int .u64 0, .int .u64 0, .int .u64 0, .int .u64 0, .int .u64 0, .int .u64 0, .int .u64 0, .int .u64 0, .int .u64 0, .int .u64 0, .int .u64 0, .int .u64 0, .int .u64 0, .int .u64 0, .int .u64 0, .int .u64 0, .int .u64 0, .int .u64 0, .int .u64 0, .int .u64 0, .int .u64 0] 29)) (.cells #[.int .i64 0, .bool false, .int .u64 0] 35))
  have XY_55 := Aside0.mk (blk_new2 w5 (.cells #[.int .i64 0, .int .u64 0, .int .u64 0, .int .u64 0, .int .u64 0, .int .u64 0, .int .u64 0, .int .u64 0, .int .u64 0, .int .u64 0, .int .u64 0, .int .u64 0, .int .u64 0, .int .u64 0, .int .u64 0, .int .u64 0, .int .u64 0, .int .u64 0, .int .u64 0, .int .u64 0, .int .u64 0, .int .u64 0, .int .u64 0, .int .u64 0, .int .u64 0, .int .u64 0, .int .u64 0, .int .u64 0, .int .u64 0, .int .u64 0, .int .u64 0, .int .u64 0, .int .u64 0] 29) (.cells #[.int .i64 0, .bool false, .int .u64 0] 35))
  have B56 := Aside0.mk (below_alloc (below_alloc B48.out (.cells #[.int .i64 0, .int .u64 0, .int .u64 0, .int .u64 0, .int .u64 0, .int .u64 0, .int .u64 0, .int .u64 0, .int .u64 0, .int .u64 0, .int .u64 0, .int .u64 0, .int .u64 0, .int .u64 0, .int .u64 0, .int .u64 0, .int .u64 0, .int .u64 0, .int .u64 0, .int .u64 0, .int .u64 0, .int .u64 0, .int .u64 0, .int .u64 0, .int .u64 0, .int .u64 0, .int .u64 0, .int .u64 0, .int .u64 0, .int .u64 0, .int .u64 0, .int .u64 0, .int .u64 0] 29)) (.cells #[.int .i64 0, .bool false, .int .u64 0] 35))
  clear O1_43 O2_44 XS_45 XA_46 XX_47 B48
  go_wp2_with (first
    | (refine store_whole (w := w) (B := w.heap.size) rfl rfl 29 (.tmp 12) (.tmp 53) rfl (g := w5.heap.size) (cs := SV b) rfl _ rfl rfl (stot _) (SV_one _) XB_54.out (by first | (rw [SV_size]; done) | (rw [SV_size, SV_size]; done) | (rw [SV_size]; rfl)) L_XB.out B56.out ?_; intro w_57 h1 h2 h3 h4; have O1_58 := Aside0.mk ((h3 _ NE_O1_XB.out).trans O1_49.out); have O2_59 := Aside0.mk ((h3 _ NE_O2_XB.out).trans O2_50.out); have XS_60 := Aside0.mk ((h3 _ NE_XS_XB.out).trans XS_51.out); have XA_61 := Aside0.mk ((h3 _ NE_XA_XB.out).trans XA_52.out); have XX_62 := Aside0.mk ((h3 _ NE_XX_XB.out).trans XX_53.out); have XB_63 := Aside0.mk (h1); have XY_64 := Aside0.mk ((h3 _ (Ne.symm NE_XB_XY.out)).trans XY_55.out); have B65 := Aside0.mk (h2); clear h1 h2 h3 h4 O1_49 O2_50 XS_51 XA_52 XX_53 XB_54 XY_55 B56)
    | (refine store_whole (w := w) (B := w.heap.size) rfl rfl 35 (.tmp 13) (.tmp 54) rfl (g := w5.heap.size + 1) (cs := #[.int .i64 y0, .bool y1, .int .u64 y2]) rfl _ rfl rfl (by kernel_rfl) (by simp [Value.oneCell']) XY_64.out (rfl) L_XY.out B65.out ?_; intro w_66 h1 h2 h3 h4; have O1_67 := Aside0.mk ((h3 _ NE_O1_XY.out).trans O1_58.out); have O2_68 := Aside0.mk ((h3 _ NE_O2_XY.out).trans O2_59.out); have XS_69 := Aside0.mk ((h3 _ NE_XS_XY.out).trans XS_60.out); have XA_70 := Aside0.mk ((h3 _ NE_XA_XY.out).trans XA_61.out); have XX_71 := Aside0.mk ((h3 _ NE_XX_XY.out).trans XX_62.out); have XB_72 := Aside0.mk ((h3 _ NE_XB_XY.out).trans XB_63.out); have XY_73 := Aside0.mk (h1); have B74 := Aside0.mk (h2); clear h1 h2 h3 h4 O1_58 O2_59 XS_60 XA_61 XX_62 XB_63 XY_64 B65)
    | (refine wpList_load_row_g (by rfl) 29 (.tmp 9) rfl (w4.heap.size) rfl 29 (SV a) (0, 0) _ XA_70.out Try.underlying29 rfl (info29 _) ?_)
    | (refine wpList_load_row_g (by rfl) 39 (.tmp 5) rfl (w.heap.size + 1) rfl 39 (#[.int .i64 kd2, .int .u64 k2, .int .u64 v2, .int .i64 z2]) (0, 0) _ O2_68.out Try.underlying39 rfl (by kernel_rfl) ?_))
  refine (do_T a kd2 k2 v2 z2 _ HA.out).mono ?_
  rintro e_ w6 ⟨rfl, hb⟩
  rw [D3.out]
  have O1_75 := Aside0.mk (blk_below O1_67.out hb)
  have O2_76 := Aside0.mk (blk_below O2_68.out hb)
  have XS_77 := Aside0.mk (blk_below XS_69.out hb)
  have XA_78 := Aside0.mk (blk_below XA_70.out hb)
  have XX_79 := Aside0.mk (blk_below XX_71.out hb)
  have XB_80 := Aside0.mk (blk_below XB_72.out hb)
  have XY_81 := Aside0.mk (blk_below XY_73.out hb)
  have B82 := Aside0.mk (below_step B74.out hb)
  clear hb O1_67 O2_68 XS_69 XA_70 XX_71 XB_72 XY_73 B74
  have L_XC := Aside0.mk (show w.heap.size ≤ w6.heap.size from B82.out.size)
  have NE_O1_XC := Aside0.mk (show w.heap.size ≠ w6.heap.size by have := blk_lt O1_75.out; omega)
  have NE_O2_XC := Aside0.mk (show w.heap.size + 1 ≠ w6.heap.size by have := blk_lt O2_76.out; omega)
  have NE_XS_XC := Aside0.mk (show w3.heap.size ≠ w6.heap.size by have := blk_lt XS_77.out; omega)
  have NE_XA_XC := Aside0.mk (show w4.heap.size ≠ w6.heap.size by have := blk_lt XA_78.out; omega)
  have NE_XX_XC := Aside0.mk (show w4.heap.size + 1 ≠ w6.heap.size by have := blk_lt XX_79.out; omega)
  have NE_XB_XC := Aside0.mk (show w5.heap.size ≠ w6.heap.size by have := blk_lt XB_80.out; omega)
  have NE_XY_XC := Aside0.mk (show w5.heap.size + 1 ≠ w6.heap.size by have := blk_lt XY_81.out; omega)
  have L_XZ := Aside0.mk (show w.heap.size ≤ w6.heap.size + 1 from by have := L_XC.out; omega)
  have NE_O1_XZ := Aside0.mk (show w.heap.size ≠ w6.heap.size + 1 by have := blk_lt O1_75.out; omega)
  have NE_O2_XZ := Aside0.mk (show w.heap.size + 1 ≠ w6.heap.size + 1 by have := blk_lt O2_76.out; omega)
  have NE_XS_XZ := Aside0.mk (show w3.heap.size ≠ w6.heap.size + 1 by have := blk_lt XS_77.out; omega)
  have NE_XA_XZ := Aside0.mk (show w4.heap.size ≠ w6.heap.size + 1 by have := blk_lt XA_78.out; omega)
  have NE_XX_XZ := Aside0.mk (show w4.heap.size + 1 ≠ w6.heap.size + 1 by have := blk_lt XX_79.out; omega)
  have NE_XB_XZ := Aside0.mk (show w5.heap.size ≠ w6.heap.size + 1 by have := blk_lt XB_80.out; omega)
  have NE_XY_XZ := Aside0.mk (show w5.heap.size + 1 ≠ w6.heap.size + 1 by have := blk_lt XY_81.out; omega)
  have NE_XC_XZ := Aside0.mk (show w6.heap.size ≠ w6.heap.size + 1 by omega)
  have O1_83 := Aside0.mk (blk_alloc (blk_alloc O1_75.out (.cells #[.int .i64 0, .int .u64 0, .int .u64 0, .int .u64 0, .int .u64 0, .int .u64 0, .int .u64 0, .int .u64 0, .int .u64 0, .int .u64 0, .int .u64 0, .int .u64 0, .int .u64 0, .int .u64 0, .int .u64 0, .int .u64 0, .int .u64 0, .int .u64 0, .int .u64 0, .int .u64 0, .int .u64 0, .int .u64 0, .int .u64 0, .int .u64 0, .int .u64 0, .int .u64 0, .int .u64 0, .int .u64 0, .int .u64 0, .int .u64 0, .int .u64 0, .int .u64 0, .int .u64 0] 29)) (.cells #[.int .i64 0, .bool false, .int .u64 0] 35))
  have O2_84 := Aside0.mk (blk_alloc (blk_alloc O2_76.out (.cells #[.int .i64 0, .int .u64 0, .int .u64 0, .int .u64 0, .int .u64 0, .int .u64 0, .int .u64 0, .int .u64 0, .int .u64 0, .int .u64 0, .int .u64 0, .int .u64 0, .int .u64 0, .int .u64 0, .int .u64 0, .int .u64 0, .int .u64 0, .int .u64 0, .int .u64 0, .int .u64 0, .int .u64 0, .int .u64 0, .int .u64 0, .int .u64 0, .int .u64 0, .int .u64 0, .int .u64 0, .int .u64 0, .int .u64 0, .int .u64 0, .int .u64 0, .int .u64 0, .int .u64 0] 29)) (.cells #[.int .i64 0, .bool false, .int .u64 0] 35))
  have XS_85 := Aside0.mk (blk_alloc (blk_alloc XS_77.out (.cells #[.int .i64 0, .int .u64 0, .int .u64 0, .int .u64 0, .int .u64 0, .int .u64 0, .int .u64 0, .int .u64 0, .int .u64 0, .int .u64 0, .int .u64 0, .int .u64 0, .int .u64 0, .int .u64 0, .int .u64 0, .int .u64 0, .int .u64 0, .int .u64 0, .int .u64 0, .int .u64 0, .int .u64 0, .int .u64 0, .int .u64 0, .int .u64 0, .int .u64 0, .int .u64 0, .int .u64 0, .int .u64 0, .int .u64 0, .int .u64 0, .int .u64 0, .int .u64 0, .int .u64 0] 29)) (.cells #[.int .i64 0, .bool false, .int .u64 0] 35))
  have XA_86 := Aside0.mk (blk_alloc (blk_alloc XA_78.out (.cells #[.int .i64 0, .int .u64 0, .int .u64 0, .int .u64 0, .int .u64 0, .int .u64 0, .int .u64 0, .int .u64 0, .int .u64 0, .int .u64 0, .int .u64 0, .int .u64 0, .int .u64 0, .int .u64 0, .int .u64 0, .int .u64 0, .int .u64 0, .int .u64 0, .int .u64 0, .int .u64 0, .int .u64 0, .int .u64 0, .int .u64 0, .int .u64 0, .int .u64 0, .int .u64 0, .int .u64 0, .int .u64 0, .int .u64 0, .int .u64 0, .int .u64 0, .int .u64 0, .int .u64 0] 29)) (.cells #[.int .i64 0, .bool false, .int .u64 0] 35))
  have XX_87 := Aside0.mk (blk_alloc (blk_alloc XX_79.out (.cells #[.int .i64 0, .int .u64 0, .int .u64 0, .int .u64 0, .int .u64 0, .int .u64 0, .int .u64 0, .int .u64 0, .int .u64 0, .int .u64 0, .int .u64 0, .int .u64 0, .int .u64 0, .int .u64 0, .int .u64 0, .int .u64 0, .int .u64 0, .int .u64 0, .int .u64 0, .int .u64 0, .int .u64 0, .int .u64 0, .int .u64 0, .int .u64 0, .int .u64 0, .int .u64 0, .int .u64 0, .int .u64 0, .int .u64 0, .int .u64 0, .int .u64 0, .int .u64 0, .int .u64 0] 29)) (.cells #[.int .i64 0, .bool false, .int .u64 0] 35))
  have XB_88 := Aside0.mk (blk_alloc (blk_alloc XB_80.out (.cells #[.int .i64 0, .int .u64 0, .int .u64 0, .int .u64 0, .int .u64 0, .int .u64 0, .int .u64 0, .int .u64 0, .int .u64 0, .int .u64 0, .int .u64 0, .int .u64 0, .int .u64 0, .int .u64 0, .int .u64 0, .int .u64 0, .int .u64 0, .int .u64 0, .int .u64 0, .int .u64 0, .int .u64 0, .int .u64 0, .int .u64 0, .int .u64 0, .int .u64 0, .int .u64 0, .int .u64 0, .int .u64 0, .int .u64 0, .int .u64 0, .int .u64 0, .int .u64 0, .int .u64 0] 29)) (.cells #[.int .i64 0, .bool false, .int .u64 0] 35))
  have XY_89 := Aside0.mk (blk_alloc (blk_alloc XY_81.out (.cells #[.int .i64 0, .int .u64 0, .int .u64 0, .int .u64 0, .int .u64 0, .int .u64 0, .int .u64 0, .int .u64 0, .int .u64 0, .int .u64 0, .int .u64 0, .int .u64 0, .int .u64 0, .int .u64 0, .int .u64 0, .int .u64 0, .int .u64 0, .int .u64 0, .int .u64 0, .int .u64 0, .int .u64 0, .int .u64 0, .int .u64 0, .int .u64 0, .int .u64 0, .int .u64 0, .int .u64 0, .int .u64 0, .int .u64 0, .int .u64 0, .int .u64 0, .int .u64 0, .int .u64 0] 29)) (.cells #[.int .i64 0, .bool false, .int .u64 0] 35))
  have XC_90 := Aside0.mk (blk_alloc (blk_new w6 (.cells #[.int .i64 0, .int .u64 0, .int .u64 0, .int .u64 0, .int .u64 0, .int .u64 0, .int .u64 0, .int .u64 0, .int .u64 0, .int .u64 0, .int .u64 0, .int .u64 0, .int .u64 0, .int .u64 0, .int .u64 0, .int .u64 0, .int .u64 0, .int .u64 0, .int .u64 0, .int .u64 0, .int .u64 0, .int .u64 0, .int .u64 0, .int .u64 0, .int .u64 0, .int .u64 0, .int .u64 0, .int .u64 0, .int .u64 0, .int .u64 0, .int .u64 0, .int .u64 0, .int .u64 0] 29)) (.cells #[.int .i64 0, .bool false, .int .u64 0] 35))
  have XZ_91 := Aside0.mk (blk_new2 w6 (.cells #[.int .i64 0, .int .u64 0, .int .u64 0, .int .u64 0, .int .u64 0, .int .u64 0, .int .u64 0, .int .u64 0, .int .u64 0, .int .u64 0, .int .u64 0, .int .u64 0, .int .u64 0, .int .u64 0, .int .u64 0, .int .u64 0, .int .u64 0, .int .u64 0, .int .u64 0, .int .u64 0, .int .u64 0, .int .u64 0, .int .u64 0, .int .u64 0, .int .u64 0, .int .u64 0, .int .u64 0, .int .u64 0, .int .u64 0, .int .u64 0, .int .u64 0, .int .u64 0, .int .u64 0] 29) (.cells #[.int .i64 0, .bool false, .int .u64 0] 35))
  have B92 := Aside0.mk (below_alloc (below_alloc B82.out (.cells #[.int .i64 0, .int .u64 0, .int .u64 0, .int .u64 0, .int .u64 0, .int .u64 0, .int .u64 0, .int .u64 0, .int .u64 0, .int .u64 0, .int .u64 0, .int .u64 0, .int .u64 0, .int .u64 0, .int .u64 0, .int .u64 0, .int .u64 0, .int .u64 0, .int .u64 0, .int .u64 0, .int .u64 0, .int .u64 0, .int .u64 0, .int .u64 0, .int .u64 0, .int .u64 0, .int .u64 0, .int .u64 0, .int .u64 0, .int .u64 0, .int .u64 0, .int .u64 0, .int .u64 0] 29)) (.cells #[.int .i64 0, .bool false, .int .u64 0] 35))
  clear O1_75 O2_76 XS_77 XA_78 XX_79 XB_80 XY_81 B82
  go_wp2_with (first
    | (refine store_whole (w := w) (B := w.heap.size) rfl rfl 29 (.tmp 15) (.tmp 66) rfl (g := w6.heap.size) (cs := SV cc) rfl _ rfl rfl (stot _) (SV_one _) XC_90.out (by first | (rw [SV_size]; done) | (rw [SV_size, SV_size]; done) | (rw [SV_size]; rfl)) L_XC.out B92.out ?_; intro w_93 h1 h2 h3 h4; have O1_94 := Aside0.mk ((h3 _ NE_O1_XC.out).trans O1_83.out); have O2_95 := Aside0.mk ((h3 _ NE_O2_XC.out).trans O2_84.out); have XS_96 := Aside0.mk ((h3 _ NE_XS_XC.out).trans XS_85.out); have XA_97 := Aside0.mk ((h3 _ NE_XA_XC.out).trans XA_86.out); have XX_98 := Aside0.mk ((h3 _ NE_XX_XC.out).trans XX_87.out); have XB_99 := Aside0.mk ((h3 _ NE_XB_XC.out).trans XB_88.out); have XY_100 := Aside0.mk ((h3 _ NE_XY_XC.out).trans XY_89.out); have XC_101 := Aside0.mk (h1); have XZ_102 := Aside0.mk ((h3 _ (Ne.symm NE_XC_XZ.out)).trans XZ_91.out); have B103 := Aside0.mk (h2); clear h1 h2 h3 h4 O1_83 O2_84 XS_85 XA_86 XX_87 XB_88 XY_89 XC_90 XZ_91 B92)
    | (refine store_whole (w := w) (B := w.heap.size) rfl rfl 35 (.tmp 16) (.tmp 67) rfl (g := w6.heap.size + 1) (cs := #[.int .i64 y0, .bool y1, .int .u64 y2]) rfl _ rfl rfl (by kernel_rfl) (by simp [Value.oneCell']) XZ_102.out (rfl) L_XZ.out B103.out ?_; intro w_104 h1 h2 h3 h4; have O1_105 := Aside0.mk ((h3 _ NE_O1_XZ.out).trans O1_94.out); have O2_106 := Aside0.mk ((h3 _ NE_O2_XZ.out).trans O2_95.out); have XS_107 := Aside0.mk ((h3 _ NE_XS_XZ.out).trans XS_96.out); have XA_108 := Aside0.mk ((h3 _ NE_XA_XZ.out).trans XA_97.out); have XX_109 := Aside0.mk ((h3 _ NE_XX_XZ.out).trans XX_98.out); have XB_110 := Aside0.mk ((h3 _ NE_XB_XZ.out).trans XB_99.out); have XY_111 := Aside0.mk ((h3 _ NE_XY_XZ.out).trans XY_100.out); have XC_112 := Aside0.mk ((h3 _ NE_XC_XZ.out).trans XC_101.out); have XZ_113 := Aside0.mk (h1); have B114 := Aside0.mk (h2); clear h1 h2 h3 h4 O1_94 O2_95 XS_96 XA_97 XX_98 XB_99 XY_100 XC_101 XZ_102 B103)
    | (refine wpList_load_row_g (by rfl) 29 (.tmp 12) rfl (w5.heap.size) rfl 29 (SV b) (0, 0) _ XB_110.out Try.underlying29 rfl (info29 _) ?_)
    | (refine wpList_load_row_g (by rfl) 39 (.tmp 4) rfl (w.heap.size) rfl 39 (#[.int .i64 kd1, .int .u64 k1, .int .u64 v1, .int .i64 z1]) (0, 0) _ O1_105.out Try.underlying39 rfl (by kernel_rfl) ?_))
  refine (do_T b kd1 k1 v1 z1 _ HB.out).mono ?_
  rintro e_ w7 ⟨rfl, hb⟩
  rw [D4.out]
  have O1_115 := Aside0.mk (blk_below O1_105.out hb)
  have O2_116 := Aside0.mk (blk_below O2_106.out hb)
  have XS_117 := Aside0.mk (blk_below XS_107.out hb)
  have XA_118 := Aside0.mk (blk_below XA_108.out hb)
  have XX_119 := Aside0.mk (blk_below XX_109.out hb)
  have XB_120 := Aside0.mk (blk_below XB_110.out hb)
  have XY_121 := Aside0.mk (blk_below XY_111.out hb)
  have XC_122 := Aside0.mk (blk_below XC_112.out hb)
  have XZ_123 := Aside0.mk (blk_below XZ_113.out hb)
  have B124 := Aside0.mk (below_step B114.out hb)
  clear hb O1_105 O2_106 XS_107 XA_108 XX_109 XB_110 XY_111 XC_112 XZ_113 B114
  have L_XD := Aside0.mk (show w.heap.size ≤ w7.heap.size from B124.out.size)
  have NE_O1_XD := Aside0.mk (show w.heap.size ≠ w7.heap.size by have := blk_lt O1_115.out; omega)
  have NE_O2_XD := Aside0.mk (show w.heap.size + 1 ≠ w7.heap.size by have := blk_lt O2_116.out; omega)
  have NE_XS_XD := Aside0.mk (show w3.heap.size ≠ w7.heap.size by have := blk_lt XS_117.out; omega)
  have NE_XA_XD := Aside0.mk (show w4.heap.size ≠ w7.heap.size by have := blk_lt XA_118.out; omega)
  have NE_XX_XD := Aside0.mk (show w4.heap.size + 1 ≠ w7.heap.size by have := blk_lt XX_119.out; omega)
  have NE_XB_XD := Aside0.mk (show w5.heap.size ≠ w7.heap.size by have := blk_lt XB_120.out; omega)
  have NE_XY_XD := Aside0.mk (show w5.heap.size + 1 ≠ w7.heap.size by have := blk_lt XY_121.out; omega)
  have NE_XC_XD := Aside0.mk (show w6.heap.size ≠ w7.heap.size by have := blk_lt XC_122.out; omega)
  have NE_XZ_XD := Aside0.mk (show w6.heap.size + 1 ≠ w7.heap.size by have := blk_lt XZ_123.out; omega)
  have L_XW := Aside0.mk (show w.heap.size ≤ w7.heap.size + 1 from by have := L_XD.out; omega)
  have NE_O1_XW := Aside0.mk (show w.heap.size ≠ w7.heap.size + 1 by have := blk_lt O1_115.out; omega)
  have NE_O2_XW := Aside0.mk (show w.heap.size + 1 ≠ w7.heap.size + 1 by have := blk_lt O2_116.out; omega)
  have NE_XS_XW := Aside0.mk (show w3.heap.size ≠ w7.heap.size + 1 by have := blk_lt XS_117.out; omega)
  have NE_XA_XW := Aside0.mk (show w4.heap.size ≠ w7.heap.size + 1 by have := blk_lt XA_118.out; omega)
  have NE_XX_XW := Aside0.mk (show w4.heap.size + 1 ≠ w7.heap.size + 1 by have := blk_lt XX_119.out; omega)
  have NE_XB_XW := Aside0.mk (show w5.heap.size ≠ w7.heap.size + 1 by have := blk_lt XB_120.out; omega)
  have NE_XY_XW := Aside0.mk (show w5.heap.size + 1 ≠ w7.heap.size + 1 by have := blk_lt XY_121.out; omega)
  have NE_XC_XW := Aside0.mk (show w6.heap.size ≠ w7.heap.size + 1 by have := blk_lt XC_122.out; omega)
  have NE_XZ_XW := Aside0.mk (show w6.heap.size + 1 ≠ w7.heap.size + 1 by have := blk_lt XZ_123.out; omega)
  have NE_XD_XW := Aside0.mk (show w7.heap.size ≠ w7.heap.size + 1 by omega)
  have O1_125 := Aside0.mk (blk_alloc (blk_alloc O1_115.out (.cells #[.int .i64 0, .int .u64 0, .int .u64 0, .int .u64 0, .int .u64 0, .int .u64 0, .int .u64 0, .int .u64 0, .int .u64 0, .int .u64 0, .int .u64 0, .int .u64 0, .int .u64 0, .int .u64 0, .int .u64 0, .int .u64 0, .int .u64 0, .int .u64 0, .int .u64 0, .int .u64 0, .int .u64 0, .int .u64 0, .int .u64 0, .int .u64 0, .int .u64 0, .int .u64 0, .int .u64 0, .int .u64 0, .int .u64 0, .int .u64 0, .int .u64 0, .int .u64 0, .int .u64 0] 29)) (.cells #[.int .i64 0, .bool false, .int .u64 0] 35))
  have O2_126 := Aside0.mk (blk_alloc (blk_alloc O2_116.out (.cells #[.int .i64 0, .int .u64 0, .int .u64 0, .int .u64 0, .int .u64 0, .int .u64 0, .int .u64 0, .int .u64 0, .int .u64 0, .int .u64 0, .int .u64 0, .int .u64 0, .int .u64 0, .int .u64 0, .int .u64 0, .int .u64 0, .int .u64 0, .int .u64 0, .int .u64 0, .int .u64 0, .int .u64 0, .int .u64 0, .int .u64 0, .int .u64 0, .int .u64 0, .int .u64 0, .int .u64 0, .int .u64 0, .int .u64 0, .int .u64 0, .int .u64 0, .int .u64 0, .int .u64 0] 29)) (.cells #[.int .i64 0, .bool false, .int .u64 0] 35))
  have XS_127 := Aside0.mk (blk_alloc (blk_alloc XS_117.out (.cells #[.int .i64 0, .int .u64 0, .int .u64 0, .int .u64 0, .int .u64 0, .int .u64 0, .int .u64 0, .int .u64 0, .int .u64 0, .int .u64 0, .int .u64 0, .int .u64 0, .int .u64 0, .int .u64 0, .int .u64 0, .int .u64 0, .int .u64 0, .int .u64 0, .int .u64 0, .int .u64 0, .int .u64 0, .int .u64 0, .int .u64 0, .int .u64 0, .int .u64 0, .int .u64 0, .int .u64 0, .int .u64 0, .int .u64 0, .int .u64 0, .int .u64 0, .int .u64 0, .int .u64 0] 29)) (.cells #[.int .i64 0, .bool false, .int .u64 0] 35))
  have XA_128 := Aside0.mk (blk_alloc (blk_alloc XA_118.out (.cells #[.int .i64 0, .int .u64 0, .int .u64 0, .int .u64 0, .int .u64 0, .int .u64 0, .int .u64 0, .int .u64 0, .int .u64 0, .int .u64 0, .int .u64 0, .int .u64 0, .int .u64 0, .int .u64 0, .int .u64 0, .int .u64 0, .int .u64 0, .int .u64 0, .int .u64 0, .int .u64 0, .int .u64 0, .int .u64 0, .int .u64 0, .int .u64 0, .int .u64 0, .int .u64 0, .int .u64 0, .int .u64 0, .int .u64 0, .int .u64 0, .int .u64 0, .int .u64 0, .int .u64 0] 29)) (.cells #[.int .i64 0, .bool false, .int .u64 0] 35))
  have XX_129 := Aside0.mk (blk_alloc (blk_alloc XX_119.out (.cells #[.int .i64 0, .int .u64 0, .int .u64 0, .int .u64 0, .int .u64 0, .int .u64 0, .int .u64 0, .int .u64 0, .int .u64 0, .int .u64 0, .int .u64 0, .int .u64 0, .int .u64 0, .int .u64 0, .int .u64 0, .int .u64 0, .int .u64 0, .int .u64 0, .int .u64 0, .int .u64 0, .int .u64 0, .int .u64 0, .int .u64 0, .int .u64 0, .int .u64 0, .int .u64 0, .int .u64 0, .int .u64 0, .int .u64 0, .int .u64 0, .int .u64 0, .int .u64 0, .int .u64 0] 29)) (.cells #[.int .i64 0, .bool false, .int .u64 0] 35))
  have XB_130 := Aside0.mk (blk_alloc (blk_alloc XB_120.out (.cells #[.int .i64 0, .int .u64 0, .int .u64 0, .int .u64 0, .int .u64 0, .int .u64 0, .int .u64 0, .int .u64 0, .int .u64 0, .int .u64 0, .int .u64 0, .int .u64 0, .int .u64 0, .int .u64 0, .int .u64 0, .int .u64 0, .int .u64 0, .int .u64 0, .int .u64 0, .int .u64 0, .int .u64 0, .int .u64 0, .int .u64 0, .int .u64 0, .int .u64 0, .int .u64 0, .int .u64 0, .int .u64 0, .int .u64 0, .int .u64 0, .int .u64 0, .int .u64 0, .int .u64 0] 29)) (.cells #[.int .i64 0, .bool false, .int .u64 0] 35))
  have XY_131 := Aside0.mk (blk_alloc (blk_alloc XY_121.out (.cells #[.int .i64 0, .int .u64 0, .int .u64 0, .int .u64 0, .int .u64 0, .int .u64 0, .int .u64 0, .int .u64 0, .int .u64 0, .int .u64 0, .int .u64 0, .int .u64 0, .int .u64 0, .int .u64 0, .int .u64 0, .int .u64 0, .int .u64 0, .int .u64 0, .int .u64 0, .int .u64 0, .int .u64 0, .int .u64 0, .int .u64 0, .int .u64 0, .int .u64 0, .int .u64 0, .int .u64 0, .int .u64 0, .int .u64 0, .int .u64 0, .int .u64 0, .int .u64 0, .int .u64 0] 29)) (.cells #[.int .i64 0, .bool false, .int .u64 0] 35))
  have XC_132 := Aside0.mk (blk_alloc (blk_alloc XC_122.out (.cells #[.int .i64 0, .int .u64 0, .int .u64 0, .int .u64 0, .int .u64 0, .int .u64 0, .int .u64 0, .int .u64 0, .int .u64 0, .int .u64 0, .int .u64 0, .int .u64 0, .int .u64 0, .int .u64 0, .int .u64 0, .int .u64 0, .int .u64 0, .int .u64 0, .int .u64 0, .int .u64 0, .int .u64 0, .int .u64 0, .int .u64 0, .int .u64 0, .int .u64 0, .int .u64 0, .int .u64 0, .int .u64 0, .int .u64 0, .int .u64 0, .int .u64 0, .int .u64 0, .int .u64 0] 29)) (.cells #[.int .i64 0, .bool false, .int .u64 0] 35))
  have XZ_133 := Aside0.mk (blk_alloc (blk_alloc XZ_123.out (.cells #[.int .i64 0, .int .u64 0, .int .u64 0, .int .u64 0, .int .u64 0, .int .u64 0, .int .u64 0, .int .u64 0, .int .u64 0, .int .u64 0, .int .u64 0, .int .u64 0, .int .u64 0, .int .u64 0, .int .u64 0, .int .u64 0, .int .u64 0, .int .u64 0, .int .u64 0, .int .u64 0, .int .u64 0, .int .u64 0, .int .u64 0, .int .u64 0, .int .u64 0, .int .u64 0, .int .u64 0, .int .u64 0, .int .u64 0, .int .u64 0, .int .u64 0, .int .u64 0, .int .u64 0] 29)) (.cells #[.int .i64 0, .bool false, .int .u64 0] 35))
  have XD_134 := Aside0.mk (blk_alloc (blk_new w7 (.cells #[.int .i64 0, .int .u64 0, .int .u64 0, .int .u64 0, .int .u64 0, .int .u64 0, .int .u64 0, .int .u64 0, .int .u64 0, .int .u64 0, .int .u64 0, .int .u64 0, .int .u64 0, .int .u64 0, .int .u64 0, .int .u64 0, .int .u64 0, .int .u64 0, .int .u64 0, .int .u64 0, .int .u64 0, .int .u64 0, .int .u64 0, .int .u64 0, .int .u64 0, .int .u64 0, .int .u64 0, .int .u64 0, .int .u64 0, .int .u64 0, .int .u64 0, .int .u64 0, .int .u64 0] 29)) (.cells #[.int .i64 0, .bool false, .int .u64 0] 35))
  have XW_135 := Aside0.mk (blk_new2 w7 (.cells #[.int .i64 0, .int .u64 0, .int .u64 0, .int .u64 0, .int .u64 0, .int .u64 0, .int .u64 0, .int .u64 0, .int .u64 0, .int .u64 0, .int .u64 0, .int .u64 0, .int .u64 0, .int .u64 0, .int .u64 0, .int .u64 0, .int .u64 0, .int .u64 0, .int .u64 0, .int .u64 0, .int .u64 0, .int .u64 0, .int .u64 0, .int .u64 0, .int .u64 0, .int .u64 0, .int .u64 0, .int .u64 0, .int .u64 0, .int .u64 0, .int .u64 0, .int .u64 0, .int .u64 0] 29) (.cells #[.int .i64 0, .bool false, .int .u64 0] 35))
  have B136 := Aside0.mk (below_alloc (below_alloc B124.out (.cells #[.int .i64 0, .int .u64 0, .int .u64 0, .int .u64 0, .int .u64 0, .int .u64 0, .int .u64 0, .int .u64 0, .int .u64 0, .int .u64 0, .int .u64 0, .int .u64 0, .int .u64 0, .int .u64 0, .int .u64 0, .int .u64 0, .int .u64 0, .int .u64 0, .int .u64 0, .int .u64 0, .int .u64 0, .int .u64 0, .int .u64 0, .int .u64 0, .int .u64 0, .int .u64 0, .int .u64 0, .int .u64 0, .int .u64 0, .int .u64 0, .int .u64 0, .int .u64 0, .int .u64 0] 29)) (.cells #[.int .i64 0, .bool false, .int .u64 0] 35))
  clear O1_115 O2_116 XS_117 XA_118 XX_119 XB_120 XY_121 XC_122 XZ_123 B124
  go_wp2_with (first
    | (refine store_whole (w := w) (B := w.heap.size) rfl rfl 29 (.tmp 18) (.tmp 73) rfl (g := w7.heap.size) (cs := SV cc) rfl _ rfl rfl (stot _) (SV_one _) XD_134.out (by first | (rw [SV_size]; done) | (rw [SV_size, SV_size]; done) | (rw [SV_size]; rfl)) L_XD.out B136.out ?_; intro w_137 h1 h2 h3 h4; have O1_138 := Aside0.mk ((h3 _ NE_O1_XD.out).trans O1_125.out); have O2_139 := Aside0.mk ((h3 _ NE_O2_XD.out).trans O2_126.out); have XS_140 := Aside0.mk ((h3 _ NE_XS_XD.out).trans XS_127.out); have XA_141 := Aside0.mk ((h3 _ NE_XA_XD.out).trans XA_128.out); have XX_142 := Aside0.mk ((h3 _ NE_XX_XD.out).trans XX_129.out); have XB_143 := Aside0.mk ((h3 _ NE_XB_XD.out).trans XB_130.out); have XY_144 := Aside0.mk ((h3 _ NE_XY_XD.out).trans XY_131.out); have XC_145 := Aside0.mk ((h3 _ NE_XC_XD.out).trans XC_132.out); have XZ_146 := Aside0.mk ((h3 _ NE_XZ_XD.out).trans XZ_133.out); have XD_147 := Aside0.mk (h1); have XW_148 := Aside0.mk ((h3 _ (Ne.symm NE_XD_XW.out)).trans XW_135.out); have B149 := Aside0.mk (h2); clear h1 h2 h3 h4 O1_125 O2_126 XS_127 XA_128 XX_129 XB_130 XY_131 XC_132 XZ_133 XD_134 XW_135 B136)
    | (refine store_whole (w := w) (B := w.heap.size) rfl rfl 35 (.tmp 19) (.tmp 74) rfl (g := w7.heap.size + 1) (cs := #[.int .i64 x0, .bool x1, .int .u64 x2]) rfl _ rfl rfl (by kernel_rfl) (by simp [Value.oneCell']) XW_148.out (rfl) L_XW.out B149.out ?_; intro w_150 h1 h2 h3 h4; have O1_151 := Aside0.mk ((h3 _ NE_O1_XW.out).trans O1_138.out); have O2_152 := Aside0.mk ((h3 _ NE_O2_XW.out).trans O2_139.out); have XS_153 := Aside0.mk ((h3 _ NE_XS_XW.out).trans XS_140.out); have XA_154 := Aside0.mk ((h3 _ NE_XA_XW.out).trans XA_141.out); have XX_155 := Aside0.mk ((h3 _ NE_XX_XW.out).trans XX_142.out); have XB_156 := Aside0.mk ((h3 _ NE_XB_XW.out).trans XB_143.out); have XY_157 := Aside0.mk ((h3 _ NE_XY_XW.out).trans XY_144.out); have XC_158 := Aside0.mk ((h3 _ NE_XC_XW.out).trans XC_145.out); have XZ_159 := Aside0.mk ((h3 _ NE_XZ_XW.out).trans XZ_146.out); have XD_160 := Aside0.mk ((h3 _ NE_XD_XW.out).trans XD_147.out); have XW_161 := Aside0.mk (h1); have B162 := Aside0.mk (h2); clear h1 h2 h3 h4 O1_138 O2_139 XS_140 XA_141 XX_142 XB_143 XY_144 XC_145 XZ_146 XD_147 XW_148 B149)
    | (refine wpList_load_row_g (by rfl) 29 (.tmp 15) rfl (w6.heap.size) rfl 29 (SV cc) (0, 0) _ XC_158.out Try.underlying29 rfl (info29 _) ?_)
    | (refine wpList_load_row_g (by rfl) 29 (.tmp 18) rfl (w7.heap.size) rfl 29 (SV cc) (0, 0) _ XD_160.out Try.underlying29 rfl (info29 _) ?_)
    | (refine wpList_load_row_g (by rfl) 35 (.tmp 10) rfl (w4.heap.size + 1) rfl 35 (#[.int .i64 x0, .bool x1, .int .u64 x2]) (0, 0) _ XX_155.out Try.underlying35 rfl (by kernel_rfl) ?_)
    | (refine wpList_load_row_g (by rfl) 35 (.tmp 19) rfl (w7.heap.size + 1) rfl 35 (#[.int .i64 x0, .bool x1, .int .u64 x2]) (0, 0) _ XW_161.out Try.underlying35 rfl (by kernel_rfl) ?_)
    | (refine wpList_load_row_g (by rfl) 35 (.tmp 13) rfl (w5.heap.size + 1) rfl 35 (#[.int .i64 y0, .bool y1, .int .u64 y2]) (0, 0) _ XY_157.out Try.underlying35 rfl (by kernel_rfl) ?_)
    | (refine wpList_load_row_g (by rfl) 35 (.tmp 16) rfl (w6.heap.size + 1) rfl 35 (#[.int .i64 y0, .bool y1, .int .u64 y2]) (0, 0) _ XZ_159.out Try.underlying35 rfl (by kernel_rfl) ?_)
    | (refine wpList_value_g (by rfl) (exec_eq29s (.tmp 83) (.tmp 84) rfl cc rfl rfl HCC16.out) ?_))
  go_ret
  exact ⟨rfl, B162.out⟩
theorem eta5 (p : List S26 × (Int × Bool × Int) × Int) : ∃ a x0 x1 x2 f, p = (a, (x0, x1, x2), f) := ⟨_, _, _, _, _, rfl⟩
theorem apart_T (A : Option Addr) (c : Nat) (l : List S26) (kd1 k1 v1 z1 kd2 k2 v2 z2 : Int) (w : World) (hC : Kd.C k26 w A l.length l) (hcc : l.length ≤ c) (hn : l.length ≤ 4611686018427387904) :
    Calls Try.prog 4 #[.slice A l.length c, .agg #[.int .i64 kd1, .int .u64 k1, .int .u64 v1, .int .i64 z1], .agg #[.int .i64 kd2, .int .u64 k2, .int .u64 v2, .int .i64 z2]] w fun e w' => e = .returned (.bool true) ∧ Below w.heap.size w w' := by
  obtain ⟨s, e, hnw⟩ : ∃ s e, newV l = (s, e) := ⟨_, _, rfl⟩
  by_cases he : e = 0
  · subst he
    by_cases hg : 14 < l.length
    · exact apart_n A c l s kd1 k1 v1 z1 kd2 k2 v2 z2 w hC hcc hn hnw hg
    have hs : Srt s := by have := newL_srt l [] 0 [] 0 trivial; unfold newV at hnw; rw [hnw] at this; exact this
    have hl : s.length ≤ 14 := by
      have h1 := newL_len l [] 0 [] 0
      unfold newV at hnw
      rw [hnw] at h1
      have h2 : s.length ≤ l.length := by simpa using h1
      omega
    by_cases hk : k1 = k2
    · exact apart_k A c l s kd1 k1 v1 z1 kd2 k2 v2 z2 w hC hcc hn hnw (by omega) (by omega) hk
    by_cases h1 : 1 ≤ kd1 ∧ kd1 ≤ 8
    · have d1 := (doV_ok hs (by omega) kd1 k1 v1 h1)
      have e1 : doV s kd1 k1 v1 = ((doV s kd1 k1 v1).1, ((doV s kd1 k1 v1).2.1.1, (doV s kd1 k1 v1).2.1.2.1, (doV s kd1 k1 v1).2.1.2.2), 0) := Prod.ext rfl (Prod.ext rfl d1.1)
      by_cases h2 : 1 ≤ kd2 ∧ kd2 ≤ 8
      · have d2 := (doV_ok hs (by omega) kd2 k2 v2 h2)
        have e2 : doV s kd2 k2 v2 = ((doV s kd2 k2 v2).1, ((doV s kd2 k2 v2).2.1.1, (doV s kd2 k2 v2).2.1.2.1, (doV s kd2 k2 v2).2.1.2.2), 0) := Prod.ext rfl (Prod.ext rfl d2.1)
        obtain ⟨p1, p2, p3, p4, p5⟩ := apart_l hs hl kd1 k1 v1 kd2 k2 v2 h1 h2 hk
        have d3 := (doV_ok d1.2.2.1 (by have := d1.2.2.2.1; omega) kd2 k2 v2 h2).2.2.2.1
        have l1 := d1.2.2.2.1
        have l2 := d2.2.2.2.1
        refine apart_ok A c l s kd1 k1 v1 z1 kd2 k2 v2 z2 _ _ _ _ _ _ _ _ (doV (doV s kd1 k1 v1).1 kd2 k2 v2).1 w hC hcc hn hnw (by omega) (by omega) hk e1 e2 (by omega) (by omega) (by omega) (Prod.ext rfl (Prod.ext p5.symm p1)) (Prod.ext p3.symm (Prod.ext p4.symm p2))
      · obtain ⟨b, y0, y1, y2, f, ef⟩ := eta5 (doV s kd2 k2 v2)
        have hf : f = 8 := by have := doV_bad s kd2 k2 v2 h2; rw [ef] at this; exact this
        exact apart_g A c l s kd1 k1 v1 z1 kd2 k2 v2 z2 _ _ _ _ _ _ _ _ f w hC hcc hn hnw (by omega) (by omega) hk e1 ef (by rw [hf]; decide)
    · obtain ⟨a, x0, x1, x2, f, ef⟩ := eta5 (doV s kd1 k1 v1)
      obtain ⟨b, y0, y1, y2, g, eg⟩ := eta5 (doV s kd2 k2 v2)
      have hf : f = 8 := by have := doV_bad s kd1 k1 v1 h1; rw [ef] at this; exact this
      exact apart_f A c l s kd1 k1 v1 z1 kd2 k2 v2 z2 _ _ _ _ _ _ _ _ f g w hC hcc hn hnw (by omega) (by omega) hk ef eg (by rw [hf]; decide)
  · exact apart_e A c l s kd1 k1 v1 z1 kd2 k2 v2 z2 e w hC hcc hn hnw he
theorem k26_open {w : World} {x : S26} {cs : List Value} (h : k26.K w x cs) : cs = [.int .u64 x.f0, .int .u64 x.f1] := by
  obtain ⟨_, _, rfl, rfl, rfl⟩ := h
  exact rfl
def revenantlaw21_SpecApart.f (xs : List S26) (a1_0 a1_1 a1_2 a1_3 a2_0 a2_1 a2_2 a2_3 : Int) : Option Bool := if xs.length ≤ 4611686018427387904 then some true else none
theorem revenantlaw21_SpecApart.calls (A0_ : Option Addr) (c0 : Nat) (xs : List S26) (a1_0 a1_1 a1_2 a1_3 a2_0 a2_1 a2_2 a2_3 : Int) (r : Bool) (w : World) (hr0 : Kd.C k26 w A0_ xs.length xs) (hc0 : xs.length ≤ c0) (h : revenantlaw21_SpecApart.f xs a1_0 a1_1 a1_2 a1_3 a2_0 a2_1 a2_2 a2_3 = some r) :
    Calls Try.prog 4 #[.slice A0_ xs.length c0, .agg #[.int .i64 a1_0, .int .u64 a1_1, .int .u64 a1_2, .int .i64 a1_3], .agg #[.int .i64 a2_0, .int .u64 a2_1, .int .u64 a2_2, .int .i64 a2_3]] w fun e w' => e = .returned (.bool r) ∧ Below w.heap.size w w' := by
  unfold revenantlaw21_SpecApart.f at h
  by_cases hb : xs.length ≤ 4611686018427387904
  · rw [if_pos hb] at h
    obtain rfl := Option.some.inj h
    exact apart_T A0_ c0 xs _ _ _ _ _ _ _ _ w hr0 hc0 hb
  · rw [if_neg hb] at h; cases h
theorem RSpecApart (xs : List S26) (a1_0 a1_1 a1_2 a1_3 a2_0 a2_1 a2_2 a2_3 : Int) {P Q R S : Prop} (g : P ∧ xs.length * 16 ≤ 140737488351232 ∧ Q) (_ : R) (_ : S) : revenantlaw21_SpecApart.f xs a1_0 a1_1 a1_2 a1_3 a2_0 a2_1 a2_2 a2_3 = some true := if_pos (by have := g.2.1; omega)
end Go.Proofs.Ytcphmelmieedfab.PSpecExact

