/-
The law SpecMay.
-/
import Derived.Test.YtcphmelmieedfabSpecO
namespace Go.Proofs.Ytcphmelmieedfab.PSpecExact
open Go Go.RowKit Go.Proofs.YtcphmelmieedfabW.PrintWords Go.Proofs.YtcphmelmieedfabW.PrintLast Go.Proofs.YtcphmelmieedfabW.PrintMore
attribute [local go_sem] max2_int min2_int max_two min_two max_three min_three max_four min_four
set_option linter.unusedVariables false
set_option linter.unusedSimpArgs false
set_option maxHeartbeats 16000000 in
set_option maxRecDepth 100000 in
theorem mayl_err (A : Option Addr) (c : Nat) (l : List S26) (kd k v z e : Int) (d : Bool) (x : Int) (s : List S26) (er : Int) (w : World) (hC : Kd.C k26 w A l.length l) (hcc : l.length ≤ c) (hg : l.length ≤ 4611686018427387904) (hnw : newV l = (s, er)) (her : er ≠ 0) :
    Calls Try.prog 6 #[.slice A l.length c, .agg #[.int .i64 kd, .int .u64 k, .int .u64 v, .int .i64 z], .agg #[.int .i64 e, .bool d, .int .u64 x]] w fun e w' => e = .returned (.bool true) ∧ Below w.heap.size w w' := by
  have hu26 := Try.underlying26
  have hu29 := Try.underlying29
  have hu32 := Try.underlying32
  have hu39 := Try.underlying39
  have hu35 := Try.underlying35
  have HC := Aside0.mk hC
  have HCC := Aside0.mk hcc
  have HG := Aside0.mk hg
  clear hC hcc hg
  have Xhnw := Aside0.mk hnw
  clear hnw
  have Xher := Aside0.mk her
  clear her
  have L_O := Aside0.mk (show w.heap.size ≤ w.heap.size from Nat.le_refl _)
  have L_An := Aside0.mk (show w.heap.size ≤ w.heap.size + 1 from by have := L_O.out; omega)
  have NE_O_An := Aside0.mk (show w.heap.size ≠ w.heap.size + 1 by omega)
  have O_1 := Aside0.mk (blk_alloc (blk_new (w) (.cells (#[.int .i64 kd, .int .u64 k, .int .u64 v, .int .i64 z]) 39)) (.cells (#[.int .i64 e, .bool d, .int .u64 x]) 35))
  have An_2 := Aside0.mk (blk_new2 (w) (.cells (#[.int .i64 kd, .int .u64 k, .int .u64 v, .int .i64 z]) 39) (.cells (#[.int .i64 e, .bool d, .int .u64 x]) 35))
  have B3 := Aside0.mk (below_alloc (below_alloc (Below.refl w.heap.size w) (.cells (#[.int .i64 kd, .int .u64 k, .int .u64 v, .int .i64 z]) 39)) (.cells (#[.int .i64 e, .bool d, .int .u64 x]) 35))
  go_enter Try.func6, Try.ntmps6
  go_wp2_with fail
  refine (awake_T _).mono ?_
  rintro e_ w2 ⟨rfl, hb⟩
  have O_4 := Aside0.mk (blk_below O_1.out hb)
  have An_5 := Aside0.mk (blk_below An_2.out hb)
  have B6 := Aside0.mk (below_step B3.out hb)
  clear hb O_1 An_2 B3
  go_wp2_with fail
  refine (new_T A c l _ (Kd.C_below HC.out B6.out) HCC.out HG.out).mono ?_
  rintro e_ w3 ⟨rfl, -, hb⟩
  rw [Xhnw.out]
  have O_7 := Aside0.mk (blk_below O_4.out hb)
  have An_8 := Aside0.mk (blk_below An_5.out hb)
  have B9 := Aside0.mk (below_step B6.out hb)
  clear hb O_4 An_5 B6
  have L_S := Aside0.mk (show w.heap.size ≤ w3.heap.size from B9.out.size)
  have NE_O_S := Aside0.mk (show w.heap.size ≠ w3.heap.size by have := blk_lt O_7.out; omega)
  have NE_An_S := Aside0.mk (show w.heap.size + 1 ≠ w3.heap.size by have := blk_lt An_8.out; omega)
  have O_10 := Aside0.mk (blk_alloc O_7.out (.cells #[.int .i64 0, .int .u64 0, .int .u64 0, .int .u64 0, .int .u64 0, .int .u64 0, .int .u64 0, .int .u64 0, .int .u64 0, .int .u64 0, .int .u64 0, .int .u64 0, .int .u64 0, .int .u64 0, .int .u64 0, .int .u64 0, .int .u64 0, .int .u64 0, .int .u64 0, .int .u64 0, .int .u64 0, .int .u64 0, .int .u64 0, .int .u64 0, .int .u64 0, .int .u64 0, .int .u64 0, .int .u64 0, .int .u64 0, .int .u64 0, .int .u64 0, .int .u64 0, .int .u64 0] 29))
  have An_11 := Aside0.mk (blk_alloc An_8.out (.cells #[.int .i64 0, .int .u64 0, .int .u64 0, .int .u64 0, .int .u64 0, .int .u64 0, .int .u64 0, .int .u64 0, .int .u64 0, .int .u64 0, .int .u64 0, .int .u64 0, .int .u64 0, .int .u64 0, .int .u64 0, .int .u64 0, .int .u64 0, .int .u64 0, .int .u64 0, .int .u64 0, .int .u64 0, .int .u64 0, .int .u64 0, .int .u64 0, .int .u64 0, .int .u64 0, .int .u64 0, .int .u64 0, .int .u64 0, .int .u64 0, .int .u64 0, .int .u64 0, .int .u64 0] 29))
  have S_12 := Aside0.mk (blk_new (w3) (.cells #[.int .i64 0, .int .u64 0, .int .u64 0, .int .u64 0, .int .u64 0, .int .u64 0, .int .u64 0, .int .u64 0, .int .u64 0, .int .u64 0, .int .u64 0, .int .u64 0, .int .u64 0, .int .u64 0, .int .u64 0, .int .u64 0, .int .u64 0, .int .u64 0, .int .u64 0, .int .u64 0, .int .u64 0, .int .u64 0, .int .u64 0, .int .u64 0, .int .u64 0, .int .u64 0, .int .u64 0, .int .u64 0, .int .u64 0, .int .u64 0, .int .u64 0, .int .u64 0, .int .u64 0] 29))
  have B13 := Aside0.mk (below_alloc B9.out (.cells #[.int .i64 0, .int .u64 0, .int .u64 0, .int .u64 0, .int .u64 0, .int .u64 0, .int .u64 0, .int .u64 0, .int .u64 0, .int .u64 0, .int .u64 0, .int .u64 0, .int .u64 0, .int .u64 0, .int .u64 0, .int .u64 0, .int .u64 0, .int .u64 0, .int .u64 0, .int .u64 0, .int .u64 0, .int .u64 0, .int .u64 0, .int .u64 0, .int .u64 0, .int .u64 0, .int .u64 0, .int .u64 0, .int .u64 0, .int .u64 0, .int .u64 0, .int .u64 0, .int .u64 0] 29))
  clear O_7 An_8 B9
  have te : (er == 0) = false := beq_eq_false_iff_ne.2 Xher.out
  have te2 : (er != 0) = true := by simp [Xher.out]
  have tf := eq_false Xher.out
  go_wp2_with (first
    | ((with_reducible refine wpSt 29 (.tmp 7) (.tmp 20) ?_); refine store_whole (w := w) (B := w.heap.size) rfl rfl 29 (.tmp 7) (.tmp 20) rfl (g := w3.heap.size) (cs := SV s) rfl _ rfl rfl (stot _) (SV_one _) S_12.out (by first | (rw [SV_size]; done) | (rw [SV_size, SV_size]; done) | (rw [SV_size]; rfl)) L_S.out B13.out ?_; intro w_14 h1 h2 h3 h4; have O_15 := Aside0.mk ((h3 _ NE_O_S.out).trans O_10.out); have An_16 := Aside0.mk ((h3 _ NE_An_S.out).trans An_11.out); have S_17 := Aside0.mk (h1); have B18 := Aside0.mk (h2); clear h1 h2 h3 h4 O_10 An_11 S_12 B13))
  go_ret
  exact ⟨rfl, B18.out⟩
set_option maxHeartbeats 16000000 in
set_option maxRecDepth 100000 in
theorem mayl_n (A : Option Addr) (c : Nat) (l : List S26) (kd k v z e : Int) (d : Bool) (x : Int) (s : List S26) (uu : List S57) (vv : List S57) (w : World) (hC : Kd.C k26 w A l.length l) (hcc : l.length ≤ c) (hg : l.length ≤ 4611686018427387904) (hnw : newV l = (s, 0)) (hs : s.length ≤ 16) (hll : l.length ≤ 16) (ht : (stl l).1 = uu) (huu : uu.length ≤ 16) (hmv : mayV s kd k v (e, d, x) = ([], false)) (hmu : mayU uu kd k v (e, d, x) = (vv, false)) :
    Calls Try.prog 6 #[.slice A l.length c, .agg #[.int .i64 kd, .int .u64 k, .int .u64 v, .int .i64 z], .agg #[.int .i64 e, .bool d, .int .u64 x]] w fun e w' => e = .returned (.bool true) ∧ Below w.heap.size w w' := by
  have hu26 := Try.underlying26
  have hu29 := Try.underlying29
  have hu32 := Try.underlying32
  have hu39 := Try.underlying39
  have hu35 := Try.underlying35
  have HC := Aside0.mk hC
  have HCC := Aside0.mk hcc
  have HG := Aside0.mk hg
  clear hC hcc hg
  have Xhnw := Aside0.mk hnw
  clear hnw
  have Xhs := Aside0.mk hs
  clear hs
  have Xhll := Aside0.mk hll
  clear hll
  have Xht := Aside0.mk ht
  clear ht
  have Xhuu := Aside0.mk huu
  clear huu
  have Xhmv := Aside0.mk hmv
  clear hmv
  have Xhmu := Aside0.mk hmu
  clear hmu
  have L_O := Aside0.mk (show w.heap.size ≤ w.heap.size from Nat.le_refl _)
  have L_An := Aside0.mk (show w.heap.size ≤ w.heap.size + 1 from by have := L_O.out; omega)
  have NE_O_An := Aside0.mk (show w.heap.size ≠ w.heap.size + 1 by omega)
  have O_1 := Aside0.mk (blk_alloc (blk_new (w) (.cells (#[.int .i64 kd, .int .u64 k, .int .u64 v, .int .i64 z]) 39)) (.cells (#[.int .i64 e, .bool d, .int .u64 x]) 35))
  have An_2 := Aside0.mk (blk_new2 (w) (.cells (#[.int .i64 kd, .int .u64 k, .int .u64 v, .int .i64 z]) 39) (.cells (#[.int .i64 e, .bool d, .int .u64 x]) 35))
  have B3 := Aside0.mk (below_alloc (below_alloc (Below.refl w.heap.size w) (.cells (#[.int .i64 kd, .int .u64 k, .int .u64 v, .int .i64 z]) 39)) (.cells (#[.int .i64 e, .bool d, .int .u64 x]) 35))
  go_enter Try.func6, Try.ntmps6
  go_wp2_with fail
  refine (awake_T _).mono ?_
  rintro e_ w2 ⟨rfl, hb⟩
  have O_4 := Aside0.mk (blk_below O_1.out hb)
  have An_5 := Aside0.mk (blk_below An_2.out hb)
  have B6 := Aside0.mk (below_step B3.out hb)
  clear hb O_1 An_2 B3
  go_wp2_with fail
  refine (new_T A c l _ (Kd.C_below HC.out B6.out) HCC.out HG.out).mono ?_
  rintro e_ w3 ⟨rfl, -, hb⟩
  rw [Xhnw.out]
  have O_7 := Aside0.mk (blk_below O_4.out hb)
  have An_8 := Aside0.mk (blk_below An_5.out hb)
  have B9 := Aside0.mk (below_step B6.out hb)
  clear hb O_4 An_5 B6
  have L_S := Aside0.mk (show w.heap.size ≤ w3.heap.size from B9.out.size)
  have NE_O_S := Aside0.mk (show w.heap.size ≠ w3.heap.size by have := blk_lt O_7.out; omega)
  have NE_An_S := Aside0.mk (show w.heap.size + 1 ≠ w3.heap.size by have := blk_lt An_8.out; omega)
  have O_10 := Aside0.mk (blk_alloc O_7.out (.cells #[.int .i64 0, .int .u64 0, .int .u64 0, .int .u64 0, .int .u64 0, .int .u64 0, .int .u64 0, .int .u64 0, .int .u64 0, .int .u64 0, .int .u64 0, .int .u64 0, .int .u64 0, .int .u64 0, .int .u64 0, .int .u64 0, .int .u64 0, .int .u64 0, .int .u64 0, .int .u64 0, .int .u64 0, .int .u64 0, .int .u64 0, .int .u64 0, .int .u64 0, .int .u64 0, .int .u64 0, .int .u64 0, .int .u64 0, .int .u64 0, .int .u64 0, .int .u64 0, .int .u64 0] 29))
  have An_11 := Aside0.mk (blk_alloc An_8.out (.cells #[.int .i64 0, .int .u64 0, .int .u64 0, .int .u64 0, .int .u64 0, .int .u64 0, .int .u64 0, .int .u64 0, .int .u64 0, .int .u64 0, .int .u64 0, .int .u64 0, .int .u64 0, .int .u64 0, .int .u64 0, .int .u64 0, .int .u64 0, .int .u64 0, .int .u64 0, .int .u64 0, .int .u64 0, .int .u64 0, .int .u64 0, .int .u64 0, .int .u64 0, .int .u64 0, .int .u64 0, .int .u64 0, .int .u64 0, .int .u64 0, .int .u64 0, .int .u64 0, .int .u64 0] 29))
  have S_12 := Aside0.mk (blk_new (w3) (.cells #[.int .i64 0, .int .u64 0, .int .u64 0, .int .u64 0, .int .u64 0, .int .u64 0, .int .u64 0, .int .u64 0, .int .u64 0, .int .u64 0, .int .u64 0, .int .u64 0, .int .u64 0, .int .u64 0, .int .u64 0, .int .u64 0, .int .u64 0, .int .u64 0, .int .u64 0, .int .u64 0, .int .u64 0, .int .u64 0, .int .u64 0, .int .u64 0, .int .u64 0, .int .u64 0, .int .u64 0, .int .u64 0, .int .u64 0, .int .u64 0, .int .u64 0, .int .u64 0, .int .u64 0] 29))
  have B13 := Aside0.mk (below_alloc B9.out (.cells #[.int .i64 0, .int .u64 0, .int .u64 0, .int .u64 0, .int .u64 0, .int .u64 0, .int .u64 0, .int .u64 0, .int .u64 0, .int .u64 0, .int .u64 0, .int .u64 0, .int .u64 0, .int .u64 0, .int .u64 0, .int .u64 0, .int .u64 0, .int .u64 0, .int .u64 0, .int .u64 0, .int .u64 0, .int .u64 0, .int .u64 0, .int .u64 0, .int .u64 0, .int .u64 0, .int .u64 0, .int .u64 0, .int .u64 0, .int .u64 0, .int .u64 0, .int .u64 0, .int .u64 0] 29))
  clear O_7 An_8 B9
  go_wp2_with (first
    | ((with_reducible refine wpSt 29 (.tmp 7) (.tmp 20) ?_); refine store_whole (w := w) (B := w.heap.size) rfl rfl 29 (.tmp 7) (.tmp 20) rfl (g := w3.heap.size) (cs := SV s) rfl _ rfl rfl (stot _) (SV_one _) S_12.out (by first | (rw [SV_size]; done) | (rw [SV_size, SV_size]; done) | (rw [SV_size]; rfl)) L_S.out B13.out ?_; intro w_14 h1 h2 h3 h4; have O_15 := Aside0.mk ((h3 _ NE_O_S.out).trans O_10.out); have An_16 := Aside0.mk ((h3 _ NE_An_S.out).trans An_11.out); have S_17 := Aside0.mk (h1); have B18 := Aside0.mk (h2); clear h1 h2 h3 h4 O_10 An_11 S_12 B13; have L_U := Aside0.mk (show w.heap.size ≤ w_14.heap.size from B18.out.size); have NE_O_U := Aside0.mk (show w.heap.size ≠ w_14.heap.size by have := blk_lt O_15.out; omega); have NE_An_U := Aside0.mk (show w.heap.size + 1 ≠ w_14.heap.size by have := blk_lt An_16.out; omega); have NE_S_U := Aside0.mk (show w3.heap.size ≠ w_14.heap.size by have := blk_lt S_17.out; omega); have O_19 := Aside0.mk (blk_alloc O_15.out (.cells #[.slice none 0 0] 32)); have An_20 := Aside0.mk (blk_alloc An_16.out (.cells #[.slice none 0 0] 32)); have S_21 := Aside0.mk (blk_alloc S_17.out (.cells #[.slice none 0 0] 32)); have U_22 := Aside0.mk (blk_new (w_14) (.cells #[.slice none 0 0] 32)); have B23 := Aside0.mk (below_alloc B18.out (.cells #[.slice none 0 0] 32)); clear O_15 An_16 S_17 B18)
    | ((with_reducible refine wpSt 32 (.tmp 9) (.tmp 24) ?_); refine store_whole (w := w) (B := w.heap.size) rfl rfl 32 (.tmp 9) (.tmp 24) rfl (g := w_14.heap.size) (cs := #[.slice none 0 0]) rfl _ rfl rfl (by kernel_rfl) (by simp [Value.oneCell']) U_22.out (rfl) L_U.out B23.out ?_; intro w_24 h1 h2 h3 h4; have O_25 := Aside0.mk ((h3 _ NE_O_U.out).trans O_19.out); have An_26 := Aside0.mk ((h3 _ NE_An_U.out).trans An_20.out); have S_27 := Aside0.mk ((h3 _ NE_S_U.out).trans S_21.out); have U_28 := Aside0.mk (h1); have B29 := Aside0.mk (h2); clear h1 h2 h3 h4 O_19 An_20 S_21 U_22 B23))
  have R_30 := Aside0.mk (Kd.R_nil k57 57 w_24 w.heap.size (fun _ => True))
  go_loopg [10] l.length (fun kq v10 w' => ∃ (i : Int) (u : List S57) (A1 : Option Addr) (c1 : Nat), v10 = .int .i64 i ∧ Aside0 (0 ≤ i ∧ i + kq = l.length) ∧ Aside0 ((stl (l.take i.toNat)).1 = u) ∧ Aside0 (u.length ≤ i.toNat ∧ u.length ≤ c1) ∧ Aside0 (Below w.heap.size w w') ∧ Aside0 (w'.heap[w.heap.size]? = some (.cells (#[.int .i64 kd, .int .u64 k, .int .u64 v, .int .i64 z]) 39 (0, 0))) ∧ Aside0 (w'.heap[w.heap.size + 1]? = some (.cells (#[.int .i64 e, .bool d, .int .u64 x]) 35 (0, 0))) ∧ Aside0 (w'.heap[w3.heap.size]? = some (.cells (SV s) 29 (0, 0))) ∧ Aside0 (w'.heap[w_14.heap.size]? = some (.cells #[.slice A1 u.length c1] 32 (0, 0))) ∧ Aside0 (Kd.R k57 57 w' w.heap.size (fun _ => True) (.slice A1 u.length c1) u))
  case atStart => exact ⟨0, [], none, 0, rfl, ⟨by omega⟩, ⟨rfl⟩, ⟨Nat.le_refl _, Nat.le_refl _⟩, ⟨B29.out⟩, ⟨O_25.out⟩, ⟨An_26.out⟩, ⟨S_27.out⟩, ⟨U_28.out⟩, ⟨R_30.out⟩⟩
  case round =>
    obtain ⟨i, u, A1, c1, rfl, HK, HT, HL, B900, O_900, An_900, S_900, U_900, R_900⟩ := hrel
    clear B29 O_25 An_26 S_27 U_28 R_30
    by_cases hi : i < (l.length : Int)
    · have d1 : decide (i < (l.length : Int)) = true := decide_eq_true hi
      have p0 : (0 : Int) ≤ i := HK.out.1
      have q0 : i < (l.length : Int) := hi
      have q1 := Aside0.mk (show 0 ≤ i ∧ i < (l.length : Int) from ⟨p0, hi⟩)
      obtain ⟨ko, rfl⟩ : ∃ m, gk = m + 1 := ⟨gk - 1, by have := HK.out; omega⟩
      obtain ⟨ad, e0, hx0, hx1⟩ := k26_cells HC.out i p0 hi
      subst e0
      have HTT := Aside0.mk (stl_take l i.toNat (by omega))
      generalize l.getD i.toNat ⟨0, 0⟩ = p at hx0 hx1 HTT
      obtain ⟨y, zz⟩ := p
      have X0 := Aside0.mk (show w.cell? (ad.add (i.toNat * 2)) = some (.int .u64 y) from hx0)
      have X1 := Aside0.mk (show w.cell? ⟨(ad.add (i.toNat * 2)).block, (ad.add (i.toNat * 2)).off + 1, none⟩ = some (.int .u64 zz) from hx1)
      clear hx0 hx1 hi
      obtain ⟨KW, hKW⟩ := with_some u y zz (by have := HL.out; have := Xhll.out; have := q1.out; omega)
      have hfl := flt_len u y
      have HTU : Aside0 ((stl (l.take (i.toNat + 1))).1 = flt u y ++ [(⟨y, zz⟩ : S57)]) := ⟨by rw [HTT.out]; unfold st; rw [HT.out]; rfl⟩
      have HFL : Aside0 ((flt u y ++ [(⟨y, zz⟩ : S57)]).length ≤ u.length + 1) := ⟨by simp; omega⟩
      generalize flt u y ++ [(⟨y, zz⟩ : S57)] = u2 at hKW HTU HFL
      have HKW := Aside0.mk hKW
      clear hKW hfl HTT
      have p0b : decide (0 ≤ i) = true := decide_eq_true p0
      have wi : wrap64 (i + 1) = i + 1 := by have := q1.out; have := Xhll.out; unfold wrap64; omega
      replace p0 := eq_true p0
      replace q0 := eq_true q0
      go_wp2_with fail
      refine start_ (n := 14) (S := fun w' => w'.heap[w_14.heap.size]? = some (.cells (#[.slice A1 u.length c1]) 32 (0, 0)) ∧ w'.cell? (ad.add (i.toNat * 2)) = some (.int .u64 y) ∧ w'.cell? ⟨(ad.add (i.toNat * 2)).block, (ad.add (i.toNat * 2)).off + 1, none⟩ = some (.int .u64 zz)) (ds := [13]) #[false, false, false, false, false, false, false, false, false, false, false, false, false, false] (by kernel_rfl) rfl rfl ⟨blk_drew U_900.out, ((below_drew B900.out).cell (World.block_lt_of_cell? w _ X0.out)).trans X0.out, ((below_drew B900.out).cell (World.block_lt_of_cell? w _ X1.out)).trans X1.out⟩ (fun hHeld => ?_)
      refine pure_ (i := 1) (N := some 32) (v := ?_) (a' := ?_) #[false, true, false, false, false, false, false, false, false, false, false, false, false, false] rfl rfl (by kernel_rfl) (fun _ _ _ h => h) (Or.inl ⟨by rfl, ?_⟩) ?_ ?_
      rotate_left
      · intro w'
        go_simp
        with_reducible rfl
      rotate_left
      · simp only [Act.put, List.setIfInBounds_toArray, List.set_cons_zero, List.set_cons_succ, i64_w, i32_w]
        rfl
      refine pure_ (i := 2) (N := some 33) (v := ?_) (a' := ?_) #[false, true, true, false, false, false, false, false, false, false, false, false, false, false] rfl rfl (by kernel_rfl) (fun _ _ _ h => h) (Or.inl ⟨by rfl, ?_⟩) ?_ ?_
      rotate_left
      · intro w'
        go_simp
        with_reducible rfl
      rotate_left
      · simp only [Act.put, List.setIfInBounds_toArray, List.set_cons_zero, List.set_cons_succ, i64_w, i32_w]
        rfl
      refine pure_ (i := 3) (N := some 34) (v := ?_) (a' := ?_) #[false, true, true, true, false, false, false, false, false, false, false, false, false, false] rfl rfl (by kernel_rfl) (fun _ _ _ h => h) (Or.inl ⟨by rfl, ?_⟩) ?_ ?_
      rotate_left
      · intro w'
        go_simp
        with_reducible rfl
      rotate_left
      · simp only [Act.put, List.setIfInBounds_toArray, List.set_cons_zero, List.set_cons_succ, i64_w, i32_w]
        rfl
      refine pure_ (i := 4) (N := some 35) (v := ?_) (a' := ?_) #[false, true, true, true, true, false, false, false, false, false, false, false, false, false] rfl rfl (by kernel_rfl) (fun _ _ _ h => h) (Or.inl ⟨by rfl, ?_⟩) ?_ ?_
      rotate_left
      · intro w'
        go_simp
        with_reducible rfl
      rotate_left
      · simp only [Act.put, List.setIfInBounds_toArray, List.set_cons_zero, List.set_cons_succ, i64_w, i32_w]
        rfl
      refine pure_ (i := 6) (N := some 37) (v := ?_) (a' := ?_) #[false, true, true, true, true, false, true, false, false, false, false, false, false, false] rfl rfl (by kernel_rfl) (fun _ _ _ h => h) (Or.inl ⟨by rfl, ?_⟩) ?_ ?_
      rotate_left
      · intro w'
        go_simp
        with_reducible rfl
      rotate_left
      · simp only [Act.put, List.setIfInBounds_toArray, List.set_cons_zero, List.set_cons_succ, i64_w, i32_w]
        rfl
      refine pure_ (i := 7) (N := some 38) (v := ?_) (a' := ?_) #[false, true, true, true, true, false, true, true, false, false, false, false, false, false] rfl rfl (by kernel_rfl) (fun _ _ _ h => h) (Or.inl ⟨by rfl, ?_⟩) ?_ ?_
      rotate_left
      · intro w'
        go_simp
        with_reducible rfl
      rotate_left
      · simp only [Act.put, List.setIfInBounds_toArray, List.set_cons_zero, List.set_cons_succ, i64_w, i32_w]
        rfl
      refine pure_ (i := 8) (N := some 39) (v := ?_) (a' := ?_) #[false, true, true, true, true, false, true, true, true, false, false, false, false, false] rfl rfl (by kernel_rfl) (fun _ _ _ h => h) (Or.inl ⟨by rfl, ?_⟩) ?_ ?_
      rotate_left
      · intro w'
        go_simp
        with_reducible rfl
      rotate_left
      · simp only [Act.put, List.setIfInBounds_toArray, List.set_cons_zero, List.set_cons_succ, i64_w, i32_w]
        rfl
      refine pure_ (i := 9) (N := some 40) (v := ?_) (a' := ?_) #[false, true, true, true, true, false, true, true, true, true, false, false, false, false] rfl rfl (by kernel_rfl) (fun _ _ _ h => h) (Or.inl ⟨by rfl, ?_⟩) ?_ ?_
      rotate_left
      · intro w'
        go_simp
        with_reducible rfl
      rotate_left
      · simp only [Act.put, List.setIfInBounds_toArray, List.set_cons_zero, List.set_cons_succ, i64_w, i32_w]
        rfl
      refine take_ (i := 0) (N := some 31) (v := ?_) (a' := ?_) #[true, true, true, true, true, false, true, true, true, true, false, false, false, false] rfl rfl (by kernel_rfl) (fun _ _ _ h => h) (Or.inl ⟨by rfl, ?_⟩) hHeld ?_ ?_
      rotate_left
      · rintro w' ⟨s0, s1, s2⟩
        refine exec_load_row 32 (.tmp 9) ?_ _ ?_ 32 (#[.slice A1 u.length c1]) (0, 0) _ s0 Try.underlying32 rfl (by kernel_rfl) <;> rfl
      rotate_left
      · simp only [Act.put, List.setIfInBounds_toArray, List.set_cons_zero, List.set_cons_succ, i64_w, i32_w]
        rfl
      refine take_ (i := 5) (N := some 36) (v := ?_) (a' := ?_) #[true, true, true, true, true, true, true, true, true, true, false, false, false, false] rfl rfl (by kernel_rfl) (fun _ _ _ h => h) (Or.inl ⟨by rfl, ?_⟩) hHeld ?_ ?_
      rotate_left
      · rintro w' ⟨s0, s1, s2⟩
        go_simp
        with_reducible rfl
      rotate_left
      · simp only [Act.put, List.setIfInBounds_toArray, List.set_cons_zero, List.set_cons_succ, i64_w, i32_w]
        rfl
      refine take_ (i := 10) (N := some 41) (v := ?_) (a' := ?_) #[true, true, true, true, true, true, true, true, true, true, true, false, false, false] rfl rfl (by kernel_rfl) (fun _ _ _ h => h) (Or.inl ⟨by rfl, ?_⟩) hHeld ?_ ?_
      rotate_left
      · rintro w' ⟨s0, s1, s2⟩
        go_simp
        with_reducible rfl
      rotate_left
      · simp only [Act.put, List.setIfInBounds_toArray, List.set_cons_zero, List.set_cons_succ, i64_w, i32_w]
        rfl
      refine pure_ (i := 11) (N := some 42) (v := ?_) (a' := ?_) #[true, true, true, true, true, true, true, true, true, true, true, true, false, false] rfl rfl (by kernel_rfl) (fun _ _ _ h => h) (Or.inl ⟨by rfl, ?_⟩) ?_ ?_
      rotate_left
      · intro w'
        go_simp
        with_reducible rfl
      rotate_left
      · simp only [Act.put, List.setIfInBounds_toArray, List.set_cons_zero, List.set_cons_succ, i64_w, i32_w]
        rfl
      refine one_ (i := 12) (N := some 43) #[true, true, true, true, true, true, true, true, true, true, true, true, true, false] rfl rfl (by kernel_rfl) (by decide) (fun K hK => ?_)
      refine goes_ Try.func17 (by kernel_rfl) rfl #[.agg #[.slice A1 u.length c1], .agg #[.int .u64 y, .int .u64 zz]] (by rfl) rfl rfl (by simp only [List.map_toArray, List.map_cons, List.map_nil]; rfl) ?_
      with_reducible refine (revenantref21_State_With.calls KW A1 c1 u y zz u2 _ (Kd.C_below (R_C57 R_900.out) (below_drew (Below.refl _ _))) HL.out.2 HKW.out).mono ?_
      rintro e_ w7 ⟨v0, rfl, hR, hb⟩
      obtain ⟨A2, c2, rfl, hc2, -⟩ := Kd.R_reads hR
      refine ⟨_, rfl, ?_⟩
      have O_901 := Aside0.mk (blk_below (blk_drew O_900.out) hb)
      have An_902 := Aside0.mk (blk_below (blk_drew An_900.out) hb)
      have S_903 := Aside0.mk (blk_below (blk_drew S_900.out) hb)
      have U_904 := Aside0.mk (blk_below (blk_drew U_900.out) hb)
      have HC2 := Aside0.mk hc2
      have R2_950 := Aside0.mk (Kd.R_lower hR ((below_drew B900.out)).size)
      clear hR hc2
      have B905 := Aside0.mk (below_step (below_drew B900.out) hb)
      clear hb O_900 An_900 S_900 U_900 B900
      refine hK.out _ _ ⟨U_904.out, (B905.out.cell (World.block_lt_of_cell? w _ X0.out)).trans X0.out, (B905.out.cell (World.block_lt_of_cell? w _ X1.out)).trans X1.out⟩ (fun hHeld => ?_)
      clear hK K
      refine norm_ (a' := ?_) ?_ ?_
      rotate_left
      · show Act.put _ (some 43) _ = _
        simp only [Act.put, List.setIfInBounds_toArray, List.set_cons_zero, List.set_cons_succ, i64_w, i32_w]
        rfl
      refine last_ (i := 13) (N := none) #[true, true, true, true, true, true, true, true, true, true, true, true, true, true] rfl rfl (by kernel_rfl) (by decide) (fun K hK => ?_)
      refine skip_whole (w := w) (B := w.heap.size) 32 (.tmp 9) (.tmp 43) (by rfl) rfl rfl (g := w_14.heap.size) (cs := #[.slice A2 u2.length c2]) ?_ (.agg (#[.slice A2 u2.length c2])) ?_ rfl (by kernel_rfl) (by simp [Value.oneCell']) (U_904.out) (rfl) L_U.out (B905.out) ?_
      · rfl
      · rfl
      intro w8 h1 h2 h3 h4
      have R2_906 := Aside0.mk (row_far R2_950.out U_904.out (by decide) h3)
      have O_907 := Aside0.mk ((h3 _ NE_O_U.out).trans O_901.out)
      have An_908 := Aside0.mk ((h3 _ NE_An_U.out).trans An_902.out)
      have S_909 := Aside0.mk ((h3 _ NE_S_U.out).trans S_903.out)
      have U_910 := Aside0.mk (h1)
      have B911 := Aside0.mk (h2)
      clear h1 h2 h3 h4 R2_950 O_901 An_902 S_903 U_904 B905
      refine hK.out _ _ ?_
      clear hK K
      refine done_ (by kernel_rfl) ?_
      go_wp2_with fail
      go_roundg ko
      case rel => exact ⟨i + 1, u2, A2, c2, by first | rfl | rw [wi], ⟨by have := HK.out; have := q1.out; omega⟩, ⟨by rw [show (i + 1).toNat = i.toNat + 1 by have := q1.out; omega]; exact HTU.out⟩, ⟨⟨by have := HFL.out; have := HL.out; have := q1.out; omega, HC2.out⟩⟩, ⟨B911.out⟩, ⟨O_907.out⟩, ⟨An_908.out⟩, ⟨S_909.out⟩, ⟨U_910.out⟩, ⟨R2_906.out⟩⟩
      case measure => exact Nat.lt_succ_self _
    · have d1 : decide (i < (l.length : Int)) = false := decide_eq_false hi
      obtain rfl : i = (l.length : Int) := by have := HK.out; omega
      rw [show ((l.length : Int)).toNat = l.length by omega] at HT HL
      rw [List.take_length] at HT
      clear hi HK
      obtain rfl : uu = u := by rw [← Xht.out, ← HT.out]
      go_wp2_with (first
        | ((with_reducible refine wpLd 29 (.tmp 7) ?_); refine wpList_load_row_g (by rfl) 29 (.tmp 7) rfl (w3.heap.size) rfl 29 (SV s) (0, 0) _ S_900.out Try.underlying29 rfl (info29 _) ?_)
        | ((with_reducible refine wpLd 39 (.tmp 4) ?_); refine wpList_load_row_g (by rfl) 39 (.tmp 4) rfl (w.heap.size) rfl 39 (#[.int .i64 kd, .int .u64 k, .int .u64 v, .int .i64 z]) (0, 0) _ O_900.out Try.underlying39 rfl (by kernel_rfl) ?_)
        | ((with_reducible refine wpLd 35 (.tmp 5) ?_); refine wpList_load_row_g (by rfl) 35 (.tmp 5) rfl (w.heap.size + 1) rfl 35 (#[.int .i64 e, .bool d, .int .u64 x]) (0, 0) _ An_900.out Try.underlying35 rfl (by kernel_rfl) ?_))
      refine (may_T s kd k v z e d x _ Xhs.out).mono ?_
      rintro e_ w10 ⟨rfl, hb⟩
      rw [Xhmv.out]
      have O_901 := Aside0.mk (blk_below O_900.out hb)
      have An_902 := Aside0.mk (blk_below An_900.out hb)
      have S_903 := Aside0.mk (blk_below S_900.out hb)
      have U_904 := Aside0.mk (blk_below U_900.out hb)
      have R_905 := Aside0.mk (Kd.R_below R_900.out hb)
      have B906 := Aside0.mk (below_step B900.out hb)
      clear hb O_900 An_900 S_900 U_900 R_900 B900
      have L_T := Aside0.mk (show w.heap.size ≤ w10.heap.size from B906.out.size)
      have NE_O_T := Aside0.mk (show w.heap.size ≠ w10.heap.size by have := blk_lt O_901.out; omega)
      have NE_An_T := Aside0.mk (show w.heap.size + 1 ≠ w10.heap.size by have := blk_lt An_902.out; omega)
      have NE_S_T := Aside0.mk (show w3.heap.size ≠ w10.heap.size by have := blk_lt S_903.out; omega)
      have NE_U_T := Aside0.mk (show w_14.heap.size ≠ w10.heap.size by have := blk_lt U_904.out; omega)
      have O_907 := Aside0.mk (blk_alloc O_901.out (.cells #[.int .i64 0, .int .u64 0, .int .u64 0, .int .u64 0, .int .u64 0, .int .u64 0, .int .u64 0, .int .u64 0, .int .u64 0, .int .u64 0, .int .u64 0, .int .u64 0, .int .u64 0, .int .u64 0, .int .u64 0, .int .u64 0, .int .u64 0, .int .u64 0, .int .u64 0, .int .u64 0, .int .u64 0, .int .u64 0, .int .u64 0, .int .u64 0, .int .u64 0, .int .u64 0, .int .u64 0, .int .u64 0, .int .u64 0, .int .u64 0, .int .u64 0, .int .u64 0, .int .u64 0] 29))
      have An_908 := Aside0.mk (blk_alloc An_902.out (.cells #[.int .i64 0, .int .u64 0, .int .u64 0, .int .u64 0, .int .u64 0, .int .u64 0, .int .u64 0, .int .u64 0, .int .u64 0, .int .u64 0, .int .u64 0, .int .u64 0, .int .u64 0, .int .u64 0, .int .u64 0, .int .u64 0, .int .u64 0, .int .u64 0, .int .u64 0, .int .u64 0, .int .u64 0, .int .u64 0, .int .u64 0, .int .u64 0, .int .u64 0, .int .u64 0, .int .u64 0, .int .u64 0, .int .u64 0, .int .u64 0, .int .u64 0, .int .u64 0, .int .u64 0] 29))
      have S_909 := Aside0.mk (blk_alloc S_903.out (.cells #[.int .i64 0, .int .u64 0, .int .u64 0, .int .u64 0, .int .u64 0, .int .u64 0, .int .u64 0, .int .u64 0, .int .u64 0, .int .u64 0, .int .u64 0, .int .u64 0, .int .u64 0, .int .u64 0, .int .u64 0, .int .u64 0, .int .u64 0, .int .u64 0, .int .u64 0, .int .u64 0, .int .u64 0, .int .u64 0, .int .u64 0, .int .u64 0, .int .u64 0, .int .u64 0, .int .u64 0, .int .u64 0, .int .u64 0, .int .u64 0, .int .u64 0, .int .u64 0, .int .u64 0] 29))
      have U_910 := Aside0.mk (blk_alloc U_904.out (.cells #[.int .i64 0, .int .u64 0, .int .u64 0, .int .u64 0, .int .u64 0, .int .u64 0, .int .u64 0, .int .u64 0, .int .u64 0, .int .u64 0, .int .u64 0, .int .u64 0, .int .u64 0, .int .u64 0, .int .u64 0, .int .u64 0, .int .u64 0, .int .u64 0, .int .u64 0, .int .u64 0, .int .u64 0, .int .u64 0, .int .u64 0, .int .u64 0, .int .u64 0, .int .u64 0, .int .u64 0, .int .u64 0, .int .u64 0, .int .u64 0, .int .u64 0, .int .u64 0, .int .u64 0] 29))
      have T_911 := Aside0.mk (blk_new (w10) (.cells #[.int .i64 0, .int .u64 0, .int .u64 0, .int .u64 0, .int .u64 0, .int .u64 0, .int .u64 0, .int .u64 0, .int .u64 0, .int .u64 0, .int .u64 0, .int .u64 0, .int .u64 0, .int .u64 0, .int .u64 0, .int .u64 0, .int .u64 0, .int .u64 0, .int .u64 0, .int .u64 0, .int .u64 0, .int .u64 0, .int .u64 0, .int .u64 0, .int .u64 0, .int .u64 0, .int .u64 0, .int .u64 0, .int .u64 0, .int .u64 0, .int .u64 0, .int .u64 0, .int .u64 0] 29))
      have B912 := Aside0.mk (below_alloc B906.out (.cells #[.int .i64 0, .int .u64 0, .int .u64 0, .int .u64 0, .int .u64 0, .int .u64 0, .int .u64 0, .int .u64 0, .int .u64 0, .int .u64 0, .int .u64 0, .int .u64 0, .int .u64 0, .int .u64 0, .int .u64 0, .int .u64 0, .int .u64 0, .int .u64 0, .int .u64 0, .int .u64 0, .int .u64 0, .int .u64 0, .int .u64 0, .int .u64 0, .int .u64 0, .int .u64 0, .int .u64 0, .int .u64 0, .int .u64 0, .int .u64 0, .int .u64 0, .int .u64 0, .int .u64 0] 29))
      clear O_901 An_902 S_903 U_904 B906
      have R_913 := Aside0.mk (Kd.R_alloc (R_905.out) (.cells #[.int .i64 0, .int .u64 0, .int .u64 0, .int .u64 0, .int .u64 0, .int .u64 0, .int .u64 0, .int .u64 0, .int .u64 0, .int .u64 0, .int .u64 0, .int .u64 0, .int .u64 0, .int .u64 0, .int .u64 0, .int .u64 0, .int .u64 0, .int .u64 0, .int .u64 0, .int .u64 0, .int .u64 0, .int .u64 0, .int .u64 0, .int .u64 0, .int .u64 0, .int .u64 0, .int .u64 0, .int .u64 0, .int .u64 0, .int .u64 0, .int .u64 0, .int .u64 0, .int .u64 0] 29))
      clear R_905
      go_wp2_with (first
        | ((with_reducible refine wpSt 29 (.tmp 11) (.tmp 49) ?_); refine store_whole (w := w) (B := w.heap.size) rfl rfl 29 (.tmp 11) (.tmp 49) rfl (g := w10.heap.size) (cs := SV []) rfl _ rfl rfl (stot _) (SV_one _) T_911.out (by first | (rw [SV_size]; done) | (rw [SV_size, SV_size]; done) | (rw [SV_size]; rfl)) L_T.out B912.out ?_; intro w_914 h1 h2 h3 h4; have R_915 := Aside0.mk (row_far R_913.out T_911.out (by decide) h3); have O_916 := Aside0.mk ((h3 _ NE_O_T.out).trans O_907.out); have An_917 := Aside0.mk ((h3 _ NE_An_T.out).trans An_908.out); have S_918 := Aside0.mk ((h3 _ NE_S_T.out).trans S_909.out); have U_919 := Aside0.mk ((h3 _ NE_U_T.out).trans U_910.out); have T_920 := Aside0.mk (h1); have B921 := Aside0.mk (h2); clear h1 h2 h3 h4 R_913 O_907 An_908 S_909 U_910 T_911 B912)
        | ((with_reducible refine wpLd 32 (.tmp 9) ?_); refine wpList_load_row_g (by rfl) 32 (.tmp 9) rfl (w_14.heap.size) rfl 32 (#[.slice A1 uu.length c1]) (0, 0) _ U_919.out Try.underlying32 rfl (by kernel_rfl) ?_)
        | ((with_reducible refine wpLd 39 (.tmp 4) ?_); refine wpList_load_row_g (by rfl) 39 (.tmp 4) rfl (w.heap.size) rfl 39 (#[.int .i64 kd, .int .u64 k, .int .u64 v, .int .i64 z]) (0, 0) _ O_916.out Try.underlying39 rfl (by kernel_rfl) ?_)
        | ((with_reducible refine wpLd 35 (.tmp 5) ?_); refine wpList_load_row_g (by rfl) 35 (.tmp 5) rfl (w.heap.size + 1) rfl 35 (#[.int .i64 e, .bool d, .int .u64 x]) (0, 0) _ An_917.out Try.underlying35 rfl (by kernel_rfl) ?_))
      have BQ := Aside0.mk (B921.out)
      refine (rmay_T uu A1 c1 kd k v z e d x w.heap.size _ R_915.out HL.out.2 B921.out.size Xhuu.out).mono ?_
      rw [Xhmu.out]
      rintro e_ w11 ⟨v0, rfl, hR, hb⟩
      obtain ⟨A3, c3, rfl, hc3, -⟩ := Kd.R_reads hR
      have HC3 := Aside0.mk hc3
      have R3_960 := Aside0.mk hR
      clear hR hc3
      have O_922 := Aside0.mk (blk_below O_916.out hb)
      have An_923 := Aside0.mk (blk_below An_917.out hb)
      have S_924 := Aside0.mk (blk_below S_918.out hb)
      have U_925 := Aside0.mk (blk_below U_919.out hb)
      have T_926 := Aside0.mk (blk_below T_920.out hb)
      have B927 := Aside0.mk (below_step B921.out hb)
      clear hb B921 R_915 O_916 An_917 S_918 U_919 T_920
      have L_V := Aside0.mk (show w.heap.size ≤ w11.heap.size from B927.out.size)
      have NE_O_V := Aside0.mk (show w.heap.size ≠ w11.heap.size by have := blk_lt O_922.out; omega)
      have NE_An_V := Aside0.mk (show w.heap.size + 1 ≠ w11.heap.size by have := blk_lt An_923.out; omega)
      have NE_S_V := Aside0.mk (show w3.heap.size ≠ w11.heap.size by have := blk_lt S_924.out; omega)
      have NE_U_V := Aside0.mk (show w_14.heap.size ≠ w11.heap.size by have := blk_lt U_925.out; omega)
      have NE_T_V := Aside0.mk (show w10.heap.size ≠ w11.heap.size by have := blk_lt T_926.out; omega)
      have O_928 := Aside0.mk (blk_alloc O_922.out (.cells #[.slice none 0 0] 32))
      have An_929 := Aside0.mk (blk_alloc An_923.out (.cells #[.slice none 0 0] 32))
      have S_930 := Aside0.mk (blk_alloc S_924.out (.cells #[.slice none 0 0] 32))
      have U_931 := Aside0.mk (blk_alloc U_925.out (.cells #[.slice none 0 0] 32))
      have T_932 := Aside0.mk (blk_alloc T_926.out (.cells #[.slice none 0 0] 32))
      have V_933 := Aside0.mk (blk_new (w11) (.cells #[.slice none 0 0] 32))
      have B934 := Aside0.mk (below_alloc B927.out (.cells #[.slice none 0 0] 32))
      clear O_922 An_923 S_924 U_925 T_926 B927
      have R3_935 := Aside0.mk (Kd.R_alloc (R3_960.out) (.cells #[.slice none 0 0] 32))
      clear R3_960
      go_wp2_with (first
        | ((with_reducible refine wpSt 32 (.tmp 13) (.tmp 56) ?_); refine store_whole (w := w) (B := w.heap.size) rfl rfl 32 (.tmp 13) (.tmp 56) rfl (g := w11.heap.size) (cs := #[.slice A3 vv.length c3]) rfl _ rfl rfl (by kernel_rfl) (by simp [Value.oneCell']) V_933.out (rfl) L_V.out B934.out ?_; intro w_936 h1 h2 h3 h4; have R3_937 := Aside0.mk (row_far R3_935.out V_933.out (by decide) h3); have O_938 := Aside0.mk ((h3 _ NE_O_V.out).trans O_928.out); have An_939 := Aside0.mk ((h3 _ NE_An_V.out).trans An_929.out); have S_940 := Aside0.mk ((h3 _ NE_S_V.out).trans S_930.out); have U_941 := Aside0.mk ((h3 _ NE_U_V.out).trans U_931.out); have T_942 := Aside0.mk ((h3 _ NE_T_V.out).trans T_932.out); have V_943 := Aside0.mk (h1); have B944 := Aside0.mk (h2); clear h1 h2 h3 h4 R3_935 O_928 An_929 S_930 U_931 T_932 V_933 B934)
        | ((with_reducible refine wpLd 29 (.tmp 11) ?_); refine wpList_load_row_g (by rfl) 29 (.tmp 11) rfl (w10.heap.size) rfl 29 (SV []) (0, 0) _ T_942.out Try.underlying29 rfl (info29 _) ?_)
        | ((with_reducible refine wpBi .eql 29 (.tmp 63) (.tmp 64) 29 ?_); refine wpList_value_g (by rfl) (exec_eq29s (.tmp 63) (.tmp 64) rfl [] rfl rfl (by decide)) ?_))
      go_ret
      exact ⟨rfl, B944.out⟩
set_option maxHeartbeats 16000000 in
set_option maxRecDepth 100000 in
theorem mayl_y (A : Option Addr) (c : Nat) (l : List S26) (kd k v z e : Int) (d : Bool) (x : Int) (s : List S26) (uu : List S57) (t : List S26) (vv : List S57) (k5 : Nat) (w : World) (hC : Kd.C k26 w A l.length l) (hcc : l.length ≤ c) (hg : l.length ≤ 4611686018427387904) (hnw : newV l = (s, 0)) (hs : s.length ≤ 16) (hll : l.length ≤ 16) (ht : (stl l).1 = uu) (huu : uu.length ≤ 16) (hmv : mayV s kd k v (e, d, x) = (t, true)) (hmu : mayU uu kd k v (e, d, x) = (vv, true)) (htl : t.length ≤ 16) (hS : revenantref21_State_Sorted.f k5 vv = some (t.map c57)) :
    Calls Try.prog 6 #[.slice A l.length c, .agg #[.int .i64 kd, .int .u64 k, .int .u64 v, .int .i64 z], .agg #[.int .i64 e, .bool d, .int .u64 x]] w fun e w' => e = .returned (.bool true) ∧ Below w.heap.size w w' := by
  have hu26 := Try.underlying26
  have hu29 := Try.underlying29
  have hu32 := Try.underlying32
  have hu39 := Try.underlying39
  have hu35 := Try.underlying35
  have HC := Aside0.mk hC
  have HCC := Aside0.mk hcc
  have HG := Aside0.mk hg
  clear hC hcc hg
  have Xhnw := Aside0.mk hnw
  clear hnw
  have Xhs := Aside0.mk hs
  clear hs
  have Xhll := Aside0.mk hll
  clear hll
  have Xht := Aside0.mk ht
  clear ht
  have Xhuu := Aside0.mk huu
  clear huu
  have Xhmv := Aside0.mk hmv
  clear hmv
  have Xhmu := Aside0.mk hmu
  clear hmu
  have Xhtl := Aside0.mk htl
  clear htl
  have XhS := Aside0.mk hS
  clear hS
  have L_O := Aside0.mk (show w.heap.size ≤ w.heap.size from Nat.le_refl _)
  have L_An := Aside0.mk (show w.heap.size ≤ w.heap.size + 1 from by have := L_O.out; omega)
  have NE_O_An := Aside0.mk (show w.heap.size ≠ w.heap.size + 1 by omega)
  have O_1 := Aside0.mk (blk_alloc (blk_new (w) (.cells (#[.int .i64 kd, .int .u64 k, .int .u64 v, .int .i64 z]) 39)) (.cells (#[.int .i64 e, .bool d, .int .u64 x]) 35))
  have An_2 := Aside0.mk (blk_new2 (w) (.cells (#[.int .i64 kd, .int .u64 k, .int .u64 v, .int .i64 z]) 39) (.cells (#[.int .i64 e, .bool d, .int .u64 x]) 35))
  have B3 := Aside0.mk (below_alloc (below_alloc (Below.refl w.heap.size w) (.cells (#[.int .i64 kd, .int .u64 k, .int .u64 v, .int .i64 z]) 39)) (.cells (#[.int .i64 e, .bool d, .int .u64 x]) 35))
  go_enter Try.func6, Try.ntmps6
  go_wp2_with fail
  refine (awake_T _).mono ?_
  rintro e_ w2 ⟨rfl, hb⟩
  have O_4 := Aside0.mk (blk_below O_1.out hb)
  have An_5 := Aside0.mk (blk_below An_2.out hb)
  have B6 := Aside0.mk (below_step B3.out hb)
  clear hb O_1 An_2 B3
  go_wp2_with fail
  refine (new_T A c l _ (Kd.C_below HC.out B6.out) HCC.out HG.out).mono ?_
  rintro e_ w3 ⟨rfl, -, hb⟩
  rw [Xhnw.out]
  have O_7 := Aside0.mk (blk_below O_4.out hb)
  have An_8 := Aside0.mk (blk_below An_5.out hb)
  have B9 := Aside0.mk (below_step B6.out hb)
  clear hb O_4 An_5 B6
  have L_S := Aside0.mk (show w.heap.size ≤ w3.heap.size from B9.out.size)
  have NE_O_S := Aside0.mk (show w.heap.size ≠ w3.heap.size by have := blk_lt O_7.out; omega)
  have NE_An_S := Aside0.mk (show w.heap.size + 1 ≠ w3.heap.size by have := blk_lt An_8.out; omega)
  have O_10 := Aside0.mk (blk_alloc O_7.out (.cells #[.int .i64 0, .int .u64 0, .int .u64 0, .int .u64 0, .int .u64 0, .int .u64 0, .int .u64 0, .int .u64 0, .int .u64 0, .int .u64 0, .int .u64 0, .int .u64 0, .int .u64 0, .int .u64 0, .int .u64 0, .int .u64 0, .int .u64 0, .int .u64 0, .int .u64 0, .int .u64 0, .int .u64 0, .int .u64 0, .int .u64 0, .int .u64 0, .int .u64 0, .int .u64 0, .int .u64 0, .int .u64 0, .int .u64 0, .int .u64 0, .int .u64 0, .int .u64 0, .int .u64 0] 29))
  have An_11 := Aside0.mk (blk_alloc An_8.out (.cells #[.int .i64 0, .int .u64 0, .int .u64 0, .int .u64 0, .int .u64 0, .int .u64 0, .int .u64 0, .int .u64 0, .int .u64 0, .int .u64 0, .int .u64 0, .int .u64 0, .int .u64 0, .int .u64 0, .int .u64 0, .int .u64 0, .int .u64 0, .int .u64 0, .int .u64 0, .int .u64 0, .int .u64 0, .int .u64 0, .int .u64 0, .int .u64 0, .int .u64 0, .int .u64 0, .int .u64 0, .int .u64 0, .int .u64 0, .int .u64 0, .int .u64 0, .int .u64 0, .int .u64 0] 29))
  have S_12 := Aside0.mk (blk_new (w3) (.cells #[.int .i64 0, .int .u64 0, .int .u64 0, .int .u64 0, .int .u64 0, .int .u64 0, .int .u64 0, .int .u64 0, .int .u64 0, .int .u64 0, .int .u64 0, .int .u64 0, .int .u64 0, .int .u64 0, .int .u64 0, .int .u64 0, .int .u64 0, .int .u64 0, .int .u64 0, .int .u64 0, .int .u64 0, .int .u64 0, .int .u64 0, .int .u64 0, .int .u64 0, .int .u64 0, .int .u64 0, .int .u64 0, .int .u64 0, .int .u64 0, .int .u64 0, .int .u64 0, .int .u64 0] 29))
  have B13 := Aside0.mk (below_alloc B9.out (.cells #[.int .i64 0, .int .u64 0, .int .u64 0, .int .u64 0, .int .u64 0, .int .u64 0, .int .u64 0, .int .u64 0, .int .u64 0, .int .u64 0, .int .u64 0, .int .u64 0, .int .u64 0, .int .u64 0, .int .u64 0, .int .u64 0, .int .u64 0, .int .u64 0, .int .u64 0, .int .u64 0, .int .u64 0, .int .u64 0, .int .u64 0, .int .u64 0, .int .u64 0, .int .u64 0, .int .u64 0, .int .u64 0, .int .u64 0, .int .u64 0, .int .u64 0, .int .u64 0, .int .u64 0] 29))
  clear O_7 An_8 B9
  go_wp2_with (first
    | ((with_reducible refine wpSt 29 (.tmp 7) (.tmp 20) ?_); refine store_whole (w := w) (B := w.heap.size) rfl rfl 29 (.tmp 7) (.tmp 20) rfl (g := w3.heap.size) (cs := SV s) rfl _ rfl rfl (stot _) (SV_one _) S_12.out (by first | (rw [SV_size]; done) | (rw [SV_size, SV_size]; done) | (rw [SV_size]; rfl)) L_S.out B13.out ?_; intro w_14 h1 h2 h3 h4; have O_15 := Aside0.mk ((h3 _ NE_O_S.out).trans O_10.out); have An_16 := Aside0.mk ((h3 _ NE_An_S.out).trans An_11.out); have S_17 := Aside0.mk (h1); have B18 := Aside0.mk (h2); clear h1 h2 h3 h4 O_10 An_11 S_12 B13; have L_U := Aside0.mk (show w.heap.size ≤ w_14.heap.size from B18.out.size); have NE_O_U := Aside0.mk (show w.heap.size ≠ w_14.heap.size by have := blk_lt O_15.out; omega); have NE_An_U := Aside0.mk (show w.heap.size + 1 ≠ w_14.heap.size by have := blk_lt An_16.out; omega); have NE_S_U := Aside0.mk (show w3.heap.size ≠ w_14.heap.size by have := blk_lt S_17.out; omega); have O_19 := Aside0.mk (blk_alloc O_15.out (.cells #[.slice none 0 0] 32)); have An_20 := Aside0.mk (blk_alloc An_16.out (.cells #[.slice none 0 0] 32)); have S_21 := Aside0.mk (blk_alloc S_17.out (.cells #[.slice none 0 0] 32)); have U_22 := Aside0.mk (blk_new (w_14) (.cells #[.slice none 0 0] 32)); have B23 := Aside0.mk (below_alloc B18.out (.cells #[.slice none 0 0] 32)); clear O_15 An_16 S_17 B18)
    | ((with_reducible refine wpSt 32 (.tmp 9) (.tmp 24) ?_); refine store_whole (w := w) (B := w.heap.size) rfl rfl 32 (.tmp 9) (.tmp 24) rfl (g := w_14.heap.size) (cs := #[.slice none 0 0]) rfl _ rfl rfl (by kernel_rfl) (by simp [Value.oneCell']) U_22.out (rfl) L_U.out B23.out ?_; intro w_24 h1 h2 h3 h4; have O_25 := Aside0.mk ((h3 _ NE_O_U.out).trans O_19.out); have An_26 := Aside0.mk ((h3 _ NE_An_U.out).trans An_20.out); have S_27 := Aside0.mk ((h3 _ NE_S_U.out).trans S_21.out); have U_28 := Aside0.mk (h1); have B29 := Aside0.mk (h2); clear h1 h2 h3 h4 O_19 An_20 S_21 U_22 B23))
  have R_30 := Aside0.mk (Kd.R_nil k57 57 w_24 w.heap.size (fun _ => True))
  go_loopg [10] l.length (fun kq v10 w' => ∃ (i : Int) (u : List S57) (A1 : Option Addr) (c1 : Nat), v10 = .int .i64 i ∧ Aside0 (0 ≤ i ∧ i + kq = l.length) ∧ Aside0 ((stl (l.take i.toNat)).1 = u) ∧ Aside0 (u.length ≤ i.toNat ∧ u.length ≤ c1) ∧ Aside0 (Below w.heap.size w w') ∧ Aside0 (w'.heap[w.heap.size]? = some (.cells (#[.int .i64 kd, .int .u64 k, .int .u64 v, .int .i64 z]) 39 (0, 0))) ∧ Aside0 (w'.heap[w.heap.size + 1]? = some (.cells (#[.int .i64 e, .bool d, .int .u64 x]) 35 (0, 0))) ∧ Aside0 (w'.heap[w3.heap.size]? = some (.cells (SV s) 29 (0, 0))) ∧ Aside0 (w'.heap[w_14.heap.size]? = some (.cells #[.slice A1 u.length c1] 32 (0, 0))) ∧ Aside0 (Kd.R k57 57 w' w.heap.size (fun _ => True) (.slice A1 u.length c1) u))
  case atStart => exact ⟨0, [], none, 0, rfl, ⟨by omega⟩, ⟨rfl⟩, ⟨Nat.le_refl _, Nat.le_refl _⟩, ⟨B29.out⟩, ⟨O_25.out⟩, ⟨An_26.out⟩, ⟨S_27.out⟩, ⟨U_28.out⟩, ⟨R_30.out⟩⟩
  case round =>
    obtain ⟨i, u, A1, c1, rfl, HK, HT, HL, B900, O_900, An_900, S_900, U_900, R_900⟩ := hrel
    clear B29 O_25 An_26 S_27 U_28 R_30
    by_cases hi : i < (l.length : Int)
    · have d1 : decide (i < (l.length : Int)) = true := decide_eq_true hi
      have p0 : (0 : Int) ≤ i := HK.out.1
      have q0 : i < (l.length : Int) := hi
      have q1 := Aside0.mk (show 0 ≤ i ∧ i < (l.length : Int) from ⟨p0, hi⟩)
      obtain ⟨ko, rfl⟩ : ∃ m, gk = m + 1 := ⟨gk - 1, by have := HK.out; omega⟩
      obtain ⟨ad, e0, hx0, hx1⟩ := k26_cells HC.out i p0 hi
      subst e0
      have HTT := Aside0.mk (stl_take l i.toNat (by omega))
      generalize l.getD i.toNat ⟨0, 0⟩ = p at hx0 hx1 HTT
      obtain ⟨y, zz⟩ := p
      have X0 := Aside0.mk (show w.cell? (ad.add (i.toNat * 2)) = some (.int .u64 y) from hx0)
      have X1 := Aside0.mk (show w.cell? ⟨(ad.add (i.toNat * 2)).block, (ad.add (i.toNat * 2)).off + 1, none⟩ = some (.int .u64 zz) from hx1)
      clear hx0 hx1 hi
      obtain ⟨KW, hKW⟩ := with_some u y zz (by have := HL.out; have := Xhll.out; have := q1.out; omega)
      have hfl := flt_len u y
      have HTU : Aside0 ((stl (l.take (i.toNat + 1))).1 = flt u y ++ [(⟨y, zz⟩ : S57)]) := ⟨by rw [HTT.out]; unfold st; rw [HT.out]; rfl⟩
      have HFL : Aside0 ((flt u y ++ [(⟨y, zz⟩ : S57)]).length ≤ u.length + 1) := ⟨by simp; omega⟩
      generalize flt u y ++ [(⟨y, zz⟩ : S57)] = u2 at hKW HTU HFL
      have HKW := Aside0.mk hKW
      clear hKW hfl HTT
      have p0b : decide (0 ≤ i) = true := decide_eq_true p0
      have wi : wrap64 (i + 1) = i + 1 := by have := q1.out; have := Xhll.out; unfold wrap64; omega
      replace p0 := eq_true p0
      replace q0 := eq_true q0
      go_wp2_with fail
      refine start_ (n := 14) (S := fun w' => w'.heap[w_14.heap.size]? = some (.cells (#[.slice A1 u.length c1]) 32 (0, 0)) ∧ w'.cell? (ad.add (i.toNat * 2)) = some (.int .u64 y) ∧ w'.cell? ⟨(ad.add (i.toNat * 2)).block, (ad.add (i.toNat * 2)).off + 1, none⟩ = some (.int .u64 zz)) (ds := [13]) #[false, false, false, false, false, false, false, false, false, false, false, false, false, false] (by kernel_rfl) rfl rfl ⟨blk_drew U_900.out, ((below_drew B900.out).cell (World.block_lt_of_cell? w _ X0.out)).trans X0.out, ((below_drew B900.out).cell (World.block_lt_of_cell? w _ X1.out)).trans X1.out⟩ (fun hHeld => ?_)
      refine pure_ (i := 1) (N := some 32) (v := ?_) (a' := ?_) #[false, true, false, false, false, false, false, false, false, false, false, false, false, false] rfl rfl (by kernel_rfl) (fun _ _ _ h => h) (Or.inl ⟨by rfl, ?_⟩) ?_ ?_
      rotate_left
      · intro w'
        go_simp
        with_reducible rfl
      rotate_left
      · simp only [Act.put, List.setIfInBounds_toArray, List.set_cons_zero, List.set_cons_succ, i64_w, i32_w]
        rfl
      refine pure_ (i := 2) (N := some 33) (v := ?_) (a' := ?_) #[false, true, true, false, false, false, false, false, false, false, false, false, false, false] rfl rfl (by kernel_rfl) (fun _ _ _ h => h) (Or.inl ⟨by rfl, ?_⟩) ?_ ?_
      rotate_left
      · intro w'
        go_simp
        with_reducible rfl
      rotate_left
      · simp only [Act.put, List.setIfInBounds_toArray, List.set_cons_zero, List.set_cons_succ, i64_w, i32_w]
        rfl
      refine pure_ (i := 3) (N := some 34) (v := ?_) (a' := ?_) #[false, true, true, true, false, false, false, false, false, false, false, false, false, false] rfl rfl (by kernel_rfl) (fun _ _ _ h => h) (Or.inl ⟨by rfl, ?_⟩) ?_ ?_
      rotate_left
      · intro w'
        go_simp
        with_reducible rfl
      rotate_left
      · simp only [Act.put, List.setIfInBounds_toArray, List.set_cons_zero, List.set_cons_succ, i64_w, i32_w]
        rfl
      refine pure_ (i := 4) (N := some 35) (v := ?_) (a' := ?_) #[false, true, true, true, true, false, false, false, false, false, false, false, false, false] rfl rfl (by kernel_rfl) (fun _ _ _ h => h) (Or.inl ⟨by rfl, ?_⟩) ?_ ?_
      rotate_left
      · intro w'
        go_simp
        with_reducible rfl
      rotate_left
      · simp only [Act.put, List.setIfInBounds_toArray, List.set_cons_zero, List.set_cons_succ, i64_w, i32_w]
        rfl
      refine pure_ (i := 6) (N := some 37) (v := ?_) (a' := ?_) #[false, true, true, true, true, false, true, false, false, false, false, false, false, false] rfl rfl (by kernel_rfl) (fun _ _ _ h => h) (Or.inl ⟨by rfl, ?_⟩) ?_ ?_
      rotate_left
      · intro w'
        go_simp
        with_reducible rfl
      rotate_left
      · simp only [Act.put, List.setIfInBounds_toArray, List.set_cons_zero, List.set_cons_succ, i64_w, i32_w]
        rfl
      refine pure_ (i := 7) (N := some 38) (v := ?_) (a' := ?_) #[false, true, true, true, true, false, true, true, false, false, false, false, false, false] rfl rfl (by kernel_rfl) (fun _ _ _ h => h) (Or.inl ⟨by rfl, ?_⟩) ?_ ?_
      rotate_left
      · intro w'
        go_simp
        with_reducible rfl
      rotate_left
      · simp only [Act.put, List.setIfInBounds_toArray, List.set_cons_zero, List.set_cons_succ, i64_w, i32_w]
        rfl
      refine pure_ (i := 8) (N := some 39) (v := ?_) (a' := ?_) #[false, true, true, true, true, false, true, true, true, false, false, false, false, false] rfl rfl (by kernel_rfl) (fun _ _ _ h => h) (Or.inl ⟨by rfl, ?_⟩) ?_ ?_
      rotate_left
      · intro w'
        go_simp
        with_reducible rfl
      rotate_left
      · simp only [Act.put, List.setIfInBounds_toArray, List.set_cons_zero, List.set_cons_succ, i64_w, i32_w]
        rfl
      refine pure_ (i := 9) (N := some 40) (v := ?_) (a' := ?_) #[false, true, true, true, true, false, true, true, true, true, false, false, false, false] rfl rfl (by kernel_rfl) (fun _ _ _ h => h) (Or.inl ⟨by rfl, ?_⟩) ?_ ?_
      rotate_left
      · intro w'
        go_simp
        with_reducible rfl
      rotate_left
      · simp only [Act.put, List.setIfInBounds_toArray, List.set_cons_zero, List.set_cons_succ, i64_w, i32_w]
        rfl
      refine take_ (i := 0) (N := some 31) (v := ?_) (a' := ?_) #[true, true, true, true, true, false, true, true, true, true, false, false, false, false] rfl rfl (by kernel_rfl) (fun _ _ _ h => h) (Or.inl ⟨by rfl, ?_⟩) hHeld ?_ ?_
      rotate_left
      · rintro w' ⟨s0, s1, s2⟩
        refine exec_load_row 32 (.tmp 9) ?_ _ ?_ 32 (#[.slice A1 u.length c1]) (0, 0) _ s0 Try.underlying32 rfl (by kernel_rfl) <;> rfl
      rotate_left
      · simp only [Act.put, List.setIfInBounds_toArray, List.set_cons_zero, List.set_cons_succ, i64_w, i32_w]
        rfl
      refine take_ (i := 5) (N := some 36) (v := ?_) (a' := ?_) #[true, true, true, true, true, true, true, true, true, true, false, false, false, false] rfl rfl (by kernel_rfl) (fun _ _ _ h => h) (Or.inl ⟨by rfl, ?_⟩) hHeld ?_ ?_
      rotate_left
      · rintro w' ⟨s0, s1, s2⟩
        go_simp
        with_reducible rfl
      rotate_left
      · simp only [Act.put, List.setIfInBounds_toArray, List.set_cons_zero, List.set_cons_succ, i64_w, i32_w]
        rfl
      refine take_ (i := 10) (N := some 41) (v := ?_) (a' := ?_) #[true, true, true, true, true, true, true, true, true, true, true, false, false, false] rfl rfl (by kernel_rfl) (fun _ _ _ h => h) (Or.inl ⟨by rfl, ?_⟩) hHeld ?_ ?_
      rotate_left
      · rintro w' ⟨s0, s1, s2⟩
        go_simp
        with_reducible rfl
      rotate_left
      · simp only [Act.put, List.setIfInBounds_toArray, List.set_cons_zero, List.set_cons_succ, i64_w, i32_w]
        rfl
      refine pure_ (i := 11) (N := some 42) (v := ?_) (a' := ?_) #[true, true, true, true, true, true, true, true, true, true, true, true, false, false] rfl rfl (by kernel_rfl) (fun _ _ _ h => h) (Or.inl ⟨by rfl, ?_⟩) ?_ ?_
      rotate_left
      · intro w'
        go_simp
        with_reducible rfl
      rotate_left
      · simp only [Act.put, List.setIfInBounds_toArray, List.set_cons_zero, List.set_cons_succ, i64_w, i32_w]
        rfl
      refine one_ (i := 12) (N := some 43) #[true, true, true, true, true, true, true, true, true, true, true, true, true, false] rfl rfl (by kernel_rfl) (by decide) (fun K hK => ?_)
      refine goes_ Try.func17 (by kernel_rfl) rfl #[.agg #[.slice A1 u.length c1], .agg #[.int .u64 y, .int .u64 zz]] (by rfl) rfl rfl (by simp only [List.map_toArray, List.map_cons, List.map_nil]; rfl) ?_
      with_reducible refine (revenantref21_State_With.calls KW A1 c1 u y zz u2 _ (Kd.C_below (R_C57 R_900.out) (below_drew (Below.refl _ _))) HL.out.2 HKW.out).mono ?_
      rintro e_ w7 ⟨v0, rfl, hR, hb⟩
      obtain ⟨A2, c2, rfl, hc2, -⟩ := Kd.R_reads hR
      refine ⟨_, rfl, ?_⟩
      have O_901 := Aside0.mk (blk_below (blk_drew O_900.out) hb)
      have An_902 := Aside0.mk (blk_below (blk_drew An_900.out) hb)
      have S_903 := Aside0.mk (blk_below (blk_drew S_900.out) hb)
      have U_904 := Aside0.mk (blk_below (blk_drew U_900.out) hb)
      have HC2 := Aside0.mk hc2
      have R2_950 := Aside0.mk (Kd.R_lower hR ((below_drew B900.out)).size)
      clear hR hc2
      have B905 := Aside0.mk (below_step (below_drew B900.out) hb)
      clear hb O_900 An_900 S_900 U_900 B900
      refine hK.out _ _ ⟨U_904.out, (B905.out.cell (World.block_lt_of_cell? w _ X0.out)).trans X0.out, (B905.out.cell (World.block_lt_of_cell? w _ X1.out)).trans X1.out⟩ (fun hHeld => ?_)
      clear hK K
      refine norm_ (a' := ?_) ?_ ?_
      rotate_left
      · show Act.put _ (some 43) _ = _
        simp only [Act.put, List.setIfInBounds_toArray, List.set_cons_zero, List.set_cons_succ, i64_w, i32_w]
        rfl
      refine last_ (i := 13) (N := none) #[true, true, true, true, true, true, true, true, true, true, true, true, true, true] rfl rfl (by kernel_rfl) (by decide) (fun K hK => ?_)
      refine skip_whole (w := w) (B := w.heap.size) 32 (.tmp 9) (.tmp 43) (by rfl) rfl rfl (g := w_14.heap.size) (cs := #[.slice A2 u2.length c2]) ?_ (.agg (#[.slice A2 u2.length c2])) ?_ rfl (by kernel_rfl) (by simp [Value.oneCell']) (U_904.out) (rfl) L_U.out (B905.out) ?_
      · rfl
      · rfl
      intro w8 h1 h2 h3 h4
      have R2_906 := Aside0.mk (row_far R2_950.out U_904.out (by decide) h3)
      have O_907 := Aside0.mk ((h3 _ NE_O_U.out).trans O_901.out)
      have An_908 := Aside0.mk ((h3 _ NE_An_U.out).trans An_902.out)
      have S_909 := Aside0.mk ((h3 _ NE_S_U.out).trans S_903.out)
      have U_910 := Aside0.mk (h1)
      have B911 := Aside0.mk (h2)
      clear h1 h2 h3 h4 R2_950 O_901 An_902 S_903 U_904 B905
      refine hK.out _ _ ?_
      clear hK K
      refine done_ (by kernel_rfl) ?_
      go_wp2_with fail
      go_roundg ko
      case rel => exact ⟨i + 1, u2, A2, c2, by first | rfl | rw [wi], ⟨by have := HK.out; have := q1.out; omega⟩, ⟨by rw [show (i + 1).toNat = i.toNat + 1 by have := q1.out; omega]; exact HTU.out⟩, ⟨⟨by have := HFL.out; have := HL.out; have := q1.out; omega, HC2.out⟩⟩, ⟨B911.out⟩, ⟨O_907.out⟩, ⟨An_908.out⟩, ⟨S_909.out⟩, ⟨U_910.out⟩, ⟨R2_906.out⟩⟩
      case measure => exact Nat.lt_succ_self _
    · have d1 : decide (i < (l.length : Int)) = false := decide_eq_false hi
      obtain rfl : i = (l.length : Int) := by have := HK.out; omega
      rw [show ((l.length : Int)).toNat = l.length by omega] at HT HL
      rw [List.take_length] at HT
      clear hi HK
      obtain rfl : uu = u := by rw [← Xht.out, ← HT.out]
      go_wp2_with (first
        | ((with_reducible refine wpLd 29 (.tmp 7) ?_); refine wpList_load_row_g (by rfl) 29 (.tmp 7) rfl (w3.heap.size) rfl 29 (SV s) (0, 0) _ S_900.out Try.underlying29 rfl (info29 _) ?_)
        | ((with_reducible refine wpLd 39 (.tmp 4) ?_); refine wpList_load_row_g (by rfl) 39 (.tmp 4) rfl (w.heap.size) rfl 39 (#[.int .i64 kd, .int .u64 k, .int .u64 v, .int .i64 z]) (0, 0) _ O_900.out Try.underlying39 rfl (by kernel_rfl) ?_)
        | ((with_reducible refine wpLd 35 (.tmp 5) ?_); refine wpList_load_row_g (by rfl) 35 (.tmp 5) rfl (w.heap.size + 1) rfl 35 (#[.int .i64 e, .bool d, .int .u64 x]) (0, 0) _ An_900.out Try.underlying35 rfl (by kernel_rfl) ?_))
      refine (may_T s kd k v z e d x _ Xhs.out).mono ?_
      rintro e_ w10 ⟨rfl, hb⟩
      rw [Xhmv.out]
      have O_901 := Aside0.mk (blk_below O_900.out hb)
      have An_902 := Aside0.mk (blk_below An_900.out hb)
      have S_903 := Aside0.mk (blk_below S_900.out hb)
      have U_904 := Aside0.mk (blk_below U_900.out hb)
      have R_905 := Aside0.mk (Kd.R_below R_900.out hb)
      have B906 := Aside0.mk (below_step B900.out hb)
      clear hb O_900 An_900 S_900 U_900 R_900 B900
      have L_T := Aside0.mk (show w.heap.size ≤ w10.heap.size from B906.out.size)
      have NE_O_T := Aside0.mk (show w.heap.size ≠ w10.heap.size by have := blk_lt O_901.out; omega)
      have NE_An_T := Aside0.mk (show w.heap.size + 1 ≠ w10.heap.size by have := blk_lt An_902.out; omega)
      have NE_S_T := Aside0.mk (show w3.heap.size ≠ w10.heap.size by have := blk_lt S_903.out; omega)
      have NE_U_T := Aside0.mk (show w_14.heap.size ≠ w10.heap.size by have := blk_lt U_904.out; omega)
      have O_907 := Aside0.mk (blk_alloc O_901.out (.cells #[.int .i64 0, .int .u64 0, .int .u64 0, .int .u64 0, .int .u64 0, .int .u64 0, .int .u64 0, .int .u64 0, .int .u64 0, .int .u64 0, .int .u64 0, .int .u64 0, .int .u64 0, .int .u64 0, .int .u64 0, .int .u64 0, .int .u64 0, .int .u64 0, .int .u64 0, .int .u64 0, .int .u64 0, .int .u64 0, .int .u64 0, .int .u64 0, .int .u64 0, .int .u64 0, .int .u64 0, .int .u64 0, .int .u64 0, .int .u64 0, .int .u64 0, .int .u64 0, .int .u64 0] 29))
      have An_908 := Aside0.mk (blk_alloc An_902.out (.cells #[.int .i64 0, .int .u64 0, .int .u64 0, .int .u64 0, .int .u64 0, .int .u64 0, .int .u64 0, .int .u64 0, .int .u64 0, .int .u64 0, .int .u64 0, .int .u64 0, .int .u64 0, .int .u64 0, .int .u64 0, .int .u64 0, .int .u64 0, .int .u64 0, .int .u64 0, .int .u64 0, .int .u64 0, .int .u64 0, .int .u64 0, .int .u64 0, .int .u64 0, .int .u64 0, .int .u64 0, .int .u64 0, .int .u64 0, .int .u64 0, .int .u64 0, .int .u64 0, .int .u64 0] 29))
      have S_909 := Aside0.mk (blk_alloc S_903.out (.cells #[.int .i64 0, .int .u64 0, .int .u64 0, .int .u64 0, .int .u64 0, .int .u64 0, .int .u64 0, .int .u64 0, .int .u64 0, .int .u64 0, .int .u64 0, .int .u64 0, .int .u64 0, .int .u64 0, .int .u64 0, .int .u64 0, .int .u64 0, .int .u64 0, .int .u64 0, .int .u64 0, .int .u64 0, .int .u64 0, .int .u64 0, .int .u64 0, .int .u64 0, .int .u64 0, .int .u64 0, .int .u64 0, .int .u64 0, .int .u64 0, .int .u64 0, .int .u64 0, .int .u64 0] 29))
      have U_910 := Aside0.mk (blk_alloc U_904.out (.cells #[.int .i64 0, .int .u64 0, .int .u64 0, .int .u64 0, .int .u64 0, .int .u64 0, .int .u64 0, .int .u64 0, .int .u64 0, .int .u64 0, .int .u64 0, .int .u64 0, .int .u64 0, .int .u64 0, .int .u64 0, .int .u64 0, .int .u64 0, .int .u64 0, .int .u64 0, .int .u64 0, .int .u64 0, .int .u64 0, .int .u64 0, .int .u64 0, .int .u64 0, .int .u64 0, .int .u64 0, .int .u64 0, .int .u64 0, .int .u64 0, .int .u64 0, .int .u64 0, .int .u64 0] 29))
      have T_911 := Aside0.mk (blk_new (w10) (.cells #[.int .i64 0, .int .u64 0, .int .u64 0, .int .u64 0, .int .u64 0, .int .u64 0, .int .u64 0, .int .u64 0, .int .u64 0, .int .u64 0, .int .u64 0, .int .u64 0, .int .u64 0, .int .u64 0, .int .u64 0, .int .u64 0, .int .u64 0, .int .u64 0, .int .u64 0, .int .u64 0, .int .u64 0, .int .u64 0, .int .u64 0, .int .u64 0, .int .u64 0, .int .u64 0, .int .u64 0, .int .u64 0, .int .u64 0, .int .u64 0, .int .u64 0, .int .u64 0, .int .u64 0] 29))
      have B912 := Aside0.mk (below_alloc B906.out (.cells #[.int .i64 0, .int .u64 0, .int .u64 0, .int .u64 0, .int .u64 0, .int .u64 0, .int .u64 0, .int .u64 0, .int .u64 0, .int .u64 0, .int .u64 0, .int .u64 0, .int .u64 0, .int .u64 0, .int .u64 0, .int .u64 0, .int .u64 0, .int .u64 0, .int .u64 0, .int .u64 0, .int .u64 0, .int .u64 0, .int .u64 0, .int .u64 0, .int .u64 0, .int .u64 0, .int .u64 0, .int .u64 0, .int .u64 0, .int .u64 0, .int .u64 0, .int .u64 0, .int .u64 0] 29))
      clear O_901 An_902 S_903 U_904 B906
      have R_913 := Aside0.mk (Kd.R_alloc (R_905.out) (.cells #[.int .i64 0, .int .u64 0, .int .u64 0, .int .u64 0, .int .u64 0, .int .u64 0, .int .u64 0, .int .u64 0, .int .u64 0, .int .u64 0, .int .u64 0, .int .u64 0, .int .u64 0, .int .u64 0, .int .u64 0, .int .u64 0, .int .u64 0, .int .u64 0, .int .u64 0, .int .u64 0, .int .u64 0, .int .u64 0, .int .u64 0, .int .u64 0, .int .u64 0, .int .u64 0, .int .u64 0, .int .u64 0, .int .u64 0, .int .u64 0, .int .u64 0, .int .u64 0, .int .u64 0] 29))
      clear R_905
      go_wp2_with (first
        | ((with_reducible refine wpSt 29 (.tmp 11) (.tmp 49) ?_); refine store_whole (w := w) (B := w.heap.size) rfl rfl 29 (.tmp 11) (.tmp 49) rfl (g := w10.heap.size) (cs := SV t) rfl _ rfl rfl (stot _) (SV_one _) T_911.out (by first | (rw [SV_size]; done) | (rw [SV_size, SV_size]; done) | (rw [SV_size]; rfl)) L_T.out B912.out ?_; intro w_914 h1 h2 h3 h4; have R_915 := Aside0.mk (row_far R_913.out T_911.out (by decide) h3); have O_916 := Aside0.mk ((h3 _ NE_O_T.out).trans O_907.out); have An_917 := Aside0.mk ((h3 _ NE_An_T.out).trans An_908.out); have S_918 := Aside0.mk ((h3 _ NE_S_T.out).trans S_909.out); have U_919 := Aside0.mk ((h3 _ NE_U_T.out).trans U_910.out); have T_920 := Aside0.mk (h1); have B921 := Aside0.mk (h2); clear h1 h2 h3 h4 R_913 O_907 An_908 S_909 U_910 T_911 B912)
        | ((with_reducible refine wpLd 32 (.tmp 9) ?_); refine wpList_load_row_g (by rfl) 32 (.tmp 9) rfl (w_14.heap.size) rfl 32 (#[.slice A1 uu.length c1]) (0, 0) _ U_919.out Try.underlying32 rfl (by kernel_rfl) ?_)
        | ((with_reducible refine wpLd 39 (.tmp 4) ?_); refine wpList_load_row_g (by rfl) 39 (.tmp 4) rfl (w.heap.size) rfl 39 (#[.int .i64 kd, .int .u64 k, .int .u64 v, .int .i64 z]) (0, 0) _ O_916.out Try.underlying39 rfl (by kernel_rfl) ?_)
        | ((with_reducible refine wpLd 35 (.tmp 5) ?_); refine wpList_load_row_g (by rfl) 35 (.tmp 5) rfl (w.heap.size + 1) rfl 35 (#[.int .i64 e, .bool d, .int .u64 x]) (0, 0) _ An_917.out Try.underlying35 rfl (by kernel_rfl) ?_))
      have BQ := Aside0.mk (B921.out)
      refine (rmay_T uu A1 c1 kd k v z e d x w.heap.size _ R_915.out HL.out.2 B921.out.size Xhuu.out).mono ?_
      rw [Xhmu.out]
      rintro e_ w11 ⟨v0, rfl, hR, hb⟩
      obtain ⟨A3, c3, rfl, hc3, -⟩ := Kd.R_reads hR
      have HC3 := Aside0.mk hc3
      have R3_960 := Aside0.mk hR
      clear hR hc3
      have O_922 := Aside0.mk (blk_below O_916.out hb)
      have An_923 := Aside0.mk (blk_below An_917.out hb)
      have S_924 := Aside0.mk (blk_below S_918.out hb)
      have U_925 := Aside0.mk (blk_below U_919.out hb)
      have T_926 := Aside0.mk (blk_below T_920.out hb)
      have B927 := Aside0.mk (below_step B921.out hb)
      clear hb B921 R_915 O_916 An_917 S_918 U_919 T_920
      have L_V := Aside0.mk (show w.heap.size ≤ w11.heap.size from B927.out.size)
      have NE_O_V := Aside0.mk (show w.heap.size ≠ w11.heap.size by have := blk_lt O_922.out; omega)
      have NE_An_V := Aside0.mk (show w.heap.size + 1 ≠ w11.heap.size by have := blk_lt An_923.out; omega)
      have NE_S_V := Aside0.mk (show w3.heap.size ≠ w11.heap.size by have := blk_lt S_924.out; omega)
      have NE_U_V := Aside0.mk (show w_14.heap.size ≠ w11.heap.size by have := blk_lt U_925.out; omega)
      have NE_T_V := Aside0.mk (show w10.heap.size ≠ w11.heap.size by have := blk_lt T_926.out; omega)
      have O_928 := Aside0.mk (blk_alloc O_922.out (.cells #[.slice none 0 0] 32))
      have An_929 := Aside0.mk (blk_alloc An_923.out (.cells #[.slice none 0 0] 32))
      have S_930 := Aside0.mk (blk_alloc S_924.out (.cells #[.slice none 0 0] 32))
      have U_931 := Aside0.mk (blk_alloc U_925.out (.cells #[.slice none 0 0] 32))
      have T_932 := Aside0.mk (blk_alloc T_926.out (.cells #[.slice none 0 0] 32))
      have V_933 := Aside0.mk (blk_new (w11) (.cells #[.slice none 0 0] 32))
      have B934 := Aside0.mk (below_alloc B927.out (.cells #[.slice none 0 0] 32))
      clear O_922 An_923 S_924 U_925 T_926 B927
      have R3_935 := Aside0.mk (Kd.R_alloc (R3_960.out) (.cells #[.slice none 0 0] 32))
      clear R3_960
      go_wp2_with (first
        | ((with_reducible refine wpSt 32 (.tmp 13) (.tmp 56) ?_); refine store_whole (w := w) (B := w.heap.size) rfl rfl 32 (.tmp 13) (.tmp 56) rfl (g := w11.heap.size) (cs := #[.slice A3 vv.length c3]) rfl _ rfl rfl (by kernel_rfl) (by simp [Value.oneCell']) V_933.out (rfl) L_V.out B934.out ?_; intro w_936 h1 h2 h3 h4; have R3_937 := Aside0.mk (row_far R3_935.out V_933.out (by decide) h3); have O_938 := Aside0.mk ((h3 _ NE_O_V.out).trans O_928.out); have An_939 := Aside0.mk ((h3 _ NE_An_V.out).trans An_929.out); have S_940 := Aside0.mk ((h3 _ NE_S_V.out).trans S_930.out); have U_941 := Aside0.mk ((h3 _ NE_U_V.out).trans U_931.out); have T_942 := Aside0.mk ((h3 _ NE_T_V.out).trans T_932.out); have V_943 := Aside0.mk (h1); have B944 := Aside0.mk (h2); clear h1 h2 h3 h4 R3_935 O_928 An_929 S_930 U_931 T_932 V_933 B934)
        | ((with_reducible refine wpLd 29 (.tmp 11) ?_); refine wpList_load_row_g (by rfl) 29 (.tmp 11) rfl (w10.heap.size) rfl 29 (SV t) (0, 0) _ T_942.out Try.underlying29 rfl (info29 _) ?_)
        | ((with_reducible refine wpLd 32 (.tmp 13) ?_); refine wpList_load_row_g (by rfl) 32 (.tmp 13) rfl (w11.heap.size) rfl 32 (#[.slice A3 vv.length c3]) (0, 0) _ V_943.out Try.underlying32 rfl (by kernel_rfl) ?_))
      refine (alike_T t A3 c3 vv k5 _ Xhtl.out (R_C57 R3_937.out) HC3.out XhS.out).mono ?_
      rintro e_ w12 ⟨rfl, hb⟩
      have O_945 := Aside0.mk (blk_below O_938.out hb)
      have An_946 := Aside0.mk (blk_below An_939.out hb)
      have S_947 := Aside0.mk (blk_below S_940.out hb)
      have U_948 := Aside0.mk (blk_below U_941.out hb)
      have T_949 := Aside0.mk (blk_below T_942.out hb)
      have V_950 := Aside0.mk (blk_below V_943.out hb)
      have R3_951 := Aside0.mk (Kd.R_below R3_937.out hb)
      have B952 := Aside0.mk (below_step B944.out hb)
      clear hb O_938 An_939 S_940 U_941 T_942 V_943 R3_937 B944
      go_wp2_with fail
      go_ret
      exact ⟨rfl, B952.out⟩
theorem maylaw_T (A : Option Addr) (c : Nat) (l : List S26) (kd k v z e : Int) (d : Bool) (x : Int) (w : World) (hC : Kd.C k26 w A l.length l) (hcc : l.length ≤ c) (hg : l.length ≤ 4611686018427387904) :
    Calls Try.prog 6 #[.slice A l.length c, .agg #[.int .i64 kd, .int .u64 k, .int .u64 v, .int .i64 z], .agg #[.int .i64 e, .bool d, .int .u64 x]] w fun e w' => e = .returned (.bool true) ∧ Below w.heap.size w w' := by
  obtain ⟨hn1, hn2⟩ := newV_st l
  by_cases ht : (stl l).2 = true
  · exact mayl_err A c l kd k v z e d x _ 1 w hC hcc hg (hn1 ht) (by decide)
  have ht := Bool.eq_false_iff.2 ht
  obtain ⟨ha, ⟨hf, s, hs0, hr, hs⟩ | ⟨hnw, hf⟩⟩ := hn2 ht
  · obtain ⟨m1, m2, m3, m4⟩ := hr.may hs kd k v (e, d, x)
    have hcd := hr.card
    cases hb : (mayU (stl l).1 kd k v (e, d, x)).2 with
    | true =>
      have hc := m2.card
      obtain ⟨k5, hS⟩ := (m2.sorted (by omega)).1
      exact mayl_y A c l kd k v z e d x s _ _ _ k5 w hC hcc hg hs0 hs hf rfl (by omega) (Prod.ext rfl (m1.trans hb)) (Prod.ext rfl hb) m3 hS
    | false =>
      have hb2 := m1.trans hb
      exact mayl_n A c l kd k v z e d x s _ _ w hC hcc hg hs0 hs hf rfl (by omega) (Prod.ext (m4 hb2) hb2) (Prod.ext rfl hb)
  · exact mayl_err A c l kd k v z e d x _ 6 w hC hcc hg hnw (by decide)
def revenantlaw21_SpecMay.f (xs : List S26) (a1_0 a1_1 a1_2 a1_3 a2_0 : Int) (a2_1 : Bool) (a2_2 : Int) : Option Bool := if xs.length ≤ 4611686018427387904 then some true else none
theorem revenantlaw21_SpecMay.calls (A0_ : Option Addr) (c0 : Nat) (xs : List S26) (a1_0 a1_1 a1_2 a1_3 a2_0 : Int) (a2_1 : Bool) (a2_2 : Int) (r : Bool) (w : World) (hr0 : Kd.C k26 w A0_ xs.length xs) (hc0 : xs.length ≤ c0) (h : revenantlaw21_SpecMay.f xs a1_0 a1_1 a1_2 a1_3 a2_0 a2_1 a2_2 = some r) :
    Calls Try.prog 6 #[.slice A0_ xs.length c0, .agg #[.int .i64 a1_0, .int .u64 a1_1, .int .u64 a1_2, .int .i64 a1_3], .agg #[.int .i64 a2_0, .bool a2_1, .int .u64 a2_2]] w fun e w' => e = .returned (.bool r) ∧ Below w.heap.size w w' := by
  unfold revenantlaw21_SpecMay.f at h
  by_cases hb : xs.length ≤ 4611686018427387904
  · rw [if_pos hb] at h
    obtain rfl := Option.some.inj h
    exact maylaw_T A0_ c0 xs _ _ _ _ _ _ _ w hr0 hc0 hb
  · rw [if_neg hb] at h; cases h
theorem RSpecMay (xs : List S26) (a1_0 a1_1 a1_2 a1_3 a2_0 : Int) (a2_1 : Bool) (a2_2 : Int) {P Q R S : Prop} (g : P ∧ xs.length * 16 ≤ 140737488351232 ∧ Q) (_ : R) (_ : S) : revenantlaw21_SpecMay.f xs a1_0 a1_1 a1_2 a1_3 a2_0 a2_1 a2_2 = some true := if_pos (by have := g.2.1; omega)
end Go.Proofs.Ytcphmelmieedfab.PSpecExact

