/-
The reference's Of.
-/
import Derived.Test.YtcncndhoeiaoeaaDoorTalF
import Derived.Test.YtcncndhoeiaoeaaDoorShort
namespace Go.Proofs.YtcncndhoeiaoeaaDoor.PTallyExact
open Go Go.RowKit Go.Proofs.YtcncndhoeiaoeaaDoorW.PrintWords Go.Proofs.YtcncndhoeiaoeaaDoorW.PrintLast Go.Proofs.YtcncndhoeiaoeaaDoorW.PrintMore
attribute [local go_sem] max2_int min2_int max_two min_two max_three min_three max_four min_four
set_option linter.unusedVariables false
set_option linter.unusedSimpArgs false
def toE (u : S82) : S78 := ⟨0, u.f0, u.f1, u.f2, u.f3, u.f4, u.f5, u.f6⟩
theorem ofU_take (us : List S82) (k : Nat) (h : k < us.length) : ofV ((us.take (k + 1)).map toE) = stepE (ofV ((us.take k).map toE)) (toE (rd_T82 us (k : Int))) := by
  have := ofV_take (us.map toE) k (by simpa using h)
  rw [List.map_take, List.map_take, this]
  unfold rd_T78 rd_T82
  rw [Int.toNat_natCast, List.getD_eq_getElem?_getD, List.getD_eq_getElem?_getD, List.getElem?_map, List.getElem?_eq_getElem h]
  rfl
set_option maxHeartbeats 64000000 in
set_option maxRecDepth 100000 in
theorem refOf_T (A0 : Option Addr) (c0 : Nat) (us : List S82) (w : World) (hr : Kd.C k82 w A0 us.length us) (hn : us.length < 4611686018427387904) :
    Calls Tryd.prog 29 #[.slice A0 us.length c0] w fun e w' => e = .returned (.agg (TV (ofV (us.map toE)))) ∧ Below w.heap.size w w' := by
  have hu56 := Tryd.underlying56
  have hu54 := Tryd.underlying54
  have hu53 := Tryd.underlying53
  have hu58 := Tryd.underlying58
  have hu82 := Tryd.underlying82
  have hu73 := Tryd.underlying73
  have hu76 := Tryd.underlying76
  have HR0 := Aside0.mk hr
  have HN := Aside0.mk hn
  clear hr hn
  have L_X := Aside0.mk (show w.heap.size ≤ w.heap.size from Nat.le_refl _)
  have L_O := Aside0.mk (show w.heap.size ≤ w.heap.size + 1 from by have := L_X.out; omega)
  have NE_X_O := Aside0.mk (show w.heap.size ≠ w.heap.size + 1 by omega)
  have X_1 := Aside0.mk (blk_alloc (blk_new (w) (.cells #[.int .i64 0, .int .i64 0, .int .i64 0, .int .i64 0, .int .i64 0, .int .i64 0, .int .i64 0, .int .i64 0, .int .i64 0, .int .i64 0, .int .i64 0, .int .i64 0, .int .i64 0, .int .i64 0, .int .i64 0, .int .i64 0, .int .i64 0, .int .i64 0, .int .i64 0, .int .i64 0, .int .i64 0, .int .i64 0, .int .i64 0, .int .i64 0, .int .i64 0, .int .i64 0, .int .i64 0, .int .i64 0, .int .i64 0, .int .i64 0, .int .i64 0, .int .i64 0, .int .i64 0, .int .i64 0, .int .i64 0, .int .i64 0, .int .i64 0, .int .i64 0, .int .i64 0, .int .i64 0, .int .i64 0, .int .i64 0, .int .i64 0, .int .i64 0, .int .i64 0, .int .i64 0, .int .i64 0, .int .i64 0, .int .i64 0, .int .i64 0, .int .i64 0, .int .i64 0, .int .i64 0, .int .i64 0, .int .i64 0, .int .i64 0, .int .i64 0, .int .i64 0, .int .i64 0, .int .i64 0, .int .i64 0, .int .i64 0, .int .i64 0, .int .i64 0] 56)) (.cells #[.int .i64 0, .int .i64 0, .int .i64 0, .int .i64 0, .int .i64 0, .int .i64 0, .int .i64 0, .int .i64 0, .int .i64 0, .int .i64 0, .int .i64 0, .int .i64 0, .int .i64 0, .int .i64 0, .int .i64 0, .int .i64 0, .int .i64 0, .int .i64 0, .int .i64 0, .int .i64 0, .int .i64 0, .int .i64 0, .int .i64 0, .int .i64 0, .int .i64 0, .int .i64 0, .int .i64 0, .int .i64 0, .int .i64 0, .int .i64 0, .int .i64 0, .int .i64 0, .int .i64 0, .int .i64 0, .int .i64 0, .int .i64 0, .int .i64 0, .int .i64 0, .int .i64 0, .int .i64 0, .int .i64 0, .int .i64 0, .int .i64 0, .int .i64 0, .int .i64 0, .int .i64 0, .int .i64 0, .int .i64 0, .int .i64 0, .int .i64 0, .int .i64 0, .int .i64 0, .int .i64 0, .int .i64 0, .int .i64 0, .int .i64 0, .int .i64 0, .int .i64 0, .int .i64 0, .int .i64 0, .int .i64 0, .int .i64 0, .int .i64 0, .int .i64 0] 56))
  have O_2 := Aside0.mk (blk_new2 (w) (.cells #[.int .i64 0, .int .i64 0, .int .i64 0, .int .i64 0, .int .i64 0, .int .i64 0, .int .i64 0, .int .i64 0, .int .i64 0, .int .i64 0, .int .i64 0, .int .i64 0, .int .i64 0, .int .i64 0, .int .i64 0, .int .i64 0, .int .i64 0, .int .i64 0, .int .i64 0, .int .i64 0, .int .i64 0, .int .i64 0, .int .i64 0, .int .i64 0, .int .i64 0, .int .i64 0, .int .i64 0, .int .i64 0, .int .i64 0, .int .i64 0, .int .i64 0, .int .i64 0, .int .i64 0, .int .i64 0, .int .i64 0, .int .i64 0, .int .i64 0, .int .i64 0, .int .i64 0, .int .i64 0, .int .i64 0, .int .i64 0, .int .i64 0, .int .i64 0, .int .i64 0, .int .i64 0, .int .i64 0, .int .i64 0, .int .i64 0, .int .i64 0, .int .i64 0, .int .i64 0, .int .i64 0, .int .i64 0, .int .i64 0, .int .i64 0, .int .i64 0, .int .i64 0, .int .i64 0, .int .i64 0, .int .i64 0, .int .i64 0, .int .i64 0, .int .i64 0] 56) (.cells #[.int .i64 0, .int .i64 0, .int .i64 0, .int .i64 0, .int .i64 0, .int .i64 0, .int .i64 0, .int .i64 0, .int .i64 0, .int .i64 0, .int .i64 0, .int .i64 0, .int .i64 0, .int .i64 0, .int .i64 0, .int .i64 0, .int .i64 0, .int .i64 0, .int .i64 0, .int .i64 0, .int .i64 0, .int .i64 0, .int .i64 0, .int .i64 0, .int .i64 0, .int .i64 0, .int .i64 0, .int .i64 0, .int .i64 0, .int .i64 0, .int .i64 0, .int .i64 0, .int .i64 0, .int .i64 0, .int .i64 0, .int .i64 0, .int .i64 0, .int .i64 0, .int .i64 0, .int .i64 0, .int .i64 0, .int .i64 0, .int .i64 0, .int .i64 0, .int .i64 0, .int .i64 0, .int .i64 0, .int .i64 0, .int .i64 0, .int .i64 0, .int .i64 0, .int .i64 0, .int .i64 0, .int .i64 0, .int .i64 0, .int .i64 0, .int .i64 0, .int .i64 0, .int .i64 0, .int .i64 0, .int .i64 0, .int .i64 0, .int .i64 0, .int .i64 0] 56))
  have B3 := Aside0.mk (below_alloc (below_alloc (Below.refl w.heap.size w) (.cells #[.int .i64 0, .int .i64 0, .int .i64 0, .int .i64 0, .int .i64 0, .int .i64 0, .int .i64 0, .int .i64 0, .int .i64 0, .int .i64 0, .int .i64 0, .int .i64 0, .int .i64 0, .int .i64 0, .int .i64 0, .int .i64 0, .int .i64 0, .int .i64 0, .int .i64 0, .int .i64 0, .int .i64 0, .int .i64 0, .int .i64 0, .int .i64 0, .int .i64 0, .int .i64 0, .int .i64 0, .int .i64 0, .int .i64 0, .int .i64 0, .int .i64 0, .int .i64 0, .int .i64 0, .int .i64 0, .int .i64 0, .int .i64 0, .int .i64 0, .int .i64 0, .int .i64 0, .int .i64 0, .int .i64 0, .int .i64 0, .int .i64 0, .int .i64 0, .int .i64 0, .int .i64 0, .int .i64 0, .int .i64 0, .int .i64 0, .int .i64 0, .int .i64 0, .int .i64 0, .int .i64 0, .int .i64 0, .int .i64 0, .int .i64 0, .int .i64 0, .int .i64 0, .int .i64 0, .int .i64 0, .int .i64 0, .int .i64 0, .int .i64 0, .int .i64 0] 56)) (.cells #[.int .i64 0, .int .i64 0, .int .i64 0, .int .i64 0, .int .i64 0, .int .i64 0, .int .i64 0, .int .i64 0, .int .i64 0, .int .i64 0, .int .i64 0, .int .i64 0, .int .i64 0, .int .i64 0, .int .i64 0, .int .i64 0, .int .i64 0, .int .i64 0, .int .i64 0, .int .i64 0, .int .i64 0, .int .i64 0, .int .i64 0, .int .i64 0, .int .i64 0, .int .i64 0, .int .i64 0, .int .i64 0, .int .i64 0, .int .i64 0, .int .i64 0, .int .i64 0, .int .i64 0, .int .i64 0, .int .i64 0, .int .i64 0, .int .i64 0, .int .i64 0, .int .i64 0, .int .i64 0, .int .i64 0, .int .i64 0, .int .i64 0, .int .i64 0, .int .i64 0, .int .i64 0, .int .i64 0, .int .i64 0, .int .i64 0, .int .i64 0, .int .i64 0, .int .i64 0, .int .i64 0, .int .i64 0, .int .i64 0, .int .i64 0, .int .i64 0, .int .i64 0, .int .i64 0, .int .i64 0, .int .i64 0, .int .i64 0, .int .i64 0, .int .i64 0] 56))
  go_enter Tryd.func29, Tryd.ntmps29
  go_wp2_with (first
    | ((with_reducible refine wpSt 56 (.tmp 3) (.tmp 7) ?_); refine store_whole (w := w) (B := w.heap.size) rfl rfl 56 (.tmp 3) (.tmp 7) rfl (g := w.heap.size + 1) (cs := TV zero64) rfl _ rfl rfl (tot56 _ (by first | assumption | (simp [zero64]; done))) (TV_one _) O_2.out (by first | (simp [TV_size, zero64]; done) | (simp [TV_size, zero64]; omega) | (rw [TV_size, TV_size]; simp [zero64]; omega)) L_O.out B3.out ?_; intro w_4 h1 h2 h3 h4; have X_5 := Aside0.mk ((h3 _ NE_X_O.out).trans X_1.out); have O_6 := Aside0.mk (h1); have B7 := Aside0.mk (h2); clear h1 h2 h3 h4 X_1 O_2 B3))
  go_loopg [4] us.length (fun kq v4 w' => ∃ (k : Nat), v4 = .int .i64 (k : Int) ∧ Aside0 (k + kq = us.length) ∧ Aside0 (Below w.heap.size w w') ∧ Aside0 (w'.heap[w.heap.size]? = some (.cells (TV zero64) 56 (0, 0))) ∧ Aside0 (w'.heap[w.heap.size + 1]? = some (.cells (TV (ofV ((us.take k).map toE))) 56 (0, 0))))
  case atStart => exact ⟨0, rfl, ⟨by omega⟩, ⟨B7.out⟩, ⟨by rw [TV_zero]; exact X_5.out⟩, ⟨by rw [List.take_zero, List.map_nil, show ofV [] = zero64 from rfl]; exact O_6.out⟩⟩
  case round =>
    clear B7 X_5 O_6
    obtain ⟨k, rfl, HK, B900, X_900, O_900⟩ := hrel
    by_cases hi : k < us.length
    · have d1 : decide ((k : Int) < (us.length : Int)) = true := decide_eq_true (by omega)
      have q1 := Aside0.mk hi
      obtain ⟨ko, rfl⟩ : ∃ m, gk = m + 1 := ⟨gk - 1, by have := HK.out; omega⟩
      obtain ⟨p, hp, y0, y1, y2, y3, y4, y5, y6, y7, y8, y9, y10, y11⟩ := at_T82 (Kd.C_below HR0.out B900.out) (k : Int) (by omega) (by omega)
      subst hp
      have hst := ofU_take us k hi
      have hla := ofV_len ((us.take k).map toE)
      generalize rd_T82 us (k : Int) = ev at *
      obtain ⟨i0, idle, ⟨kd, o1, o2, o3⟩, ia, began, over, ⟨er, dn, va⟩⟩ := ev
      dsimp only at y0 y1 y2 y3 y4 y5 y6 y7 y8 y9 y10 y11
      simp only [Int.toNat_natCast] at y0 y1 y2 y3 y4 y5 y6 y7 y8 y9 y10 y11
      have p0 := eq_true (show (0 : Int) ≤ (k : Int) by omega)
      have p1 := eq_true (show (k : Int) < (us.length : Int) by omega)
      have p2 := eq_true hi
      have wi : wrap64 ((k : Int) + 1) = ((k + 1 : Nat) : Int) := by have := HN.out; unfold wrap64; omega
      obtain ⟨acc, eacc⟩ : ∃ a, ofV ((us.take k).map toE) = a := ⟨_, rfl⟩
      rw [eacc] at hst hla
      have O_901 := Aside0.mk (show wr.heap[w.heap.size + 1]? = some (.cells (TV acc) 56 (0, 0)) from by rw [← eacc]; exact O_900.out)
      clear O_900 eacc hi
      have HST := Aside0.mk hst
      have HLA := Aside0.mk hla
      clear hst hla
      have L_E := Aside0.mk (show w.heap.size ≤ wr.heap.size from B900.out.size)
      have NE_X_E := Aside0.mk (show w.heap.size ≠ wr.heap.size by have := blk_lt X_900.out; omega)
      have NE_O_E := Aside0.mk (show w.heap.size + 1 ≠ wr.heap.size by have := blk_lt O_901.out; omega)
      have X_902 := Aside0.mk (blk_alloc X_900.out (.cells #[.int .i64 0, .bool false, .int .i64 0, .int .u64 0, .int .u64 0, .int .i64 0, .int .i64 0, .bool false, .bool false, .int .i64 0, .bool false, .int .u64 0] 82))
      have O_903 := Aside0.mk (blk_alloc O_901.out (.cells #[.int .i64 0, .bool false, .int .i64 0, .int .u64 0, .int .u64 0, .int .i64 0, .int .i64 0, .bool false, .bool false, .int .i64 0, .bool false, .int .u64 0] 82))
      have E_904 := Aside0.mk (blk_new (wr) (.cells #[.int .i64 0, .bool false, .int .i64 0, .int .u64 0, .int .u64 0, .int .i64 0, .int .i64 0, .bool false, .bool false, .int .i64 0, .bool false, .int .u64 0] 82))
      have B905 := Aside0.mk (below_alloc B900.out (.cells #[.int .i64 0, .bool false, .int .i64 0, .int .u64 0, .int .u64 0, .int .i64 0, .int .i64 0, .bool false, .bool false, .int .i64 0, .bool false, .int .u64 0] 82))
      clear X_900 O_901 B900
      cases idle with
      | true =>
        have HE := Aside0.mk (show stepE acc (toE ⟨i0, true, ⟨kd, o1, o2, o3⟩, ia, began, over, ⟨er, dn, va⟩⟩) = bump acc 0 from by simp [stepE, toE])
        go_wp2_with (first
          | ((with_reducible refine wpSt 82 (.tmp 5) (.tmp 17) ?_); refine store_whole (w := w) (B := w.heap.size) rfl rfl 82 (.tmp 5) (.tmp 17) rfl (g := wr.heap.size) (cs := #[.int .i64 i0, .bool true, .int .i64 kd, .int .u64 o1, .int .u64 o2, .int .i64 o3, .int .i64 ia, .bool began, .bool over, .int .i64 er, .bool dn, .int .u64 va]) rfl _ rfl rfl (by kernel_rfl) (by intro q hq; simp only [List.mem_cons, List.not_mem_nil, or_false] at hq; rcases hq with rfl | rfl | rfl | rfl | rfl | rfl | rfl | rfl | rfl | rfl | rfl | rfl <;> rfl) E_904.out (rfl) L_E.out B905.out ?_; intro w_906 h1 h2 h3 h4; have X_907 := Aside0.mk ((h3 _ NE_X_E.out).trans X_902.out); have O_908 := Aside0.mk ((h3 _ NE_O_E.out).trans O_903.out); have E_909 := Aside0.mk (h1); have B910 := Aside0.mk (h2); clear h1 h2 h3 h4 X_902 O_903 E_904 B905; have e1 := (blk_cell E_909.out 1).trans (show (#[.int .i64 i0, .bool true, .int .i64 kd, .int .u64 o1, .int .u64 o2, .int .i64 o3, .int .i64 ia, .bool began, .bool over, .int .i64 er, .bool dn, .int .u64 va] : Array Value)[1]? = some _ from rfl); have e2 := (blk_cell E_909.out 2).trans (show (#[.int .i64 i0, .bool true, .int .i64 kd, .int .u64 o1, .int .u64 o2, .int .i64 o3, .int .i64 ia, .bool began, .bool over, .int .i64 er, .bool dn, .int .u64 va] : Array Value)[2]? = some _ from rfl); have e7 := (blk_cell E_909.out 7).trans (show (#[.int .i64 i0, .bool true, .int .i64 kd, .int .u64 o1, .int .u64 o2, .int .i64 o3, .int .i64 ia, .bool began, .bool over, .int .i64 er, .bool dn, .int .u64 va] : Array Value)[7]? = some _ from rfl); have e8 := (blk_cell E_909.out 8).trans (show (#[.int .i64 i0, .bool true, .int .i64 kd, .int .u64 o1, .int .u64 o2, .int .i64 o3, .int .i64 ia, .bool began, .bool over, .int .i64 er, .bool dn, .int .u64 va] : Array Value)[8]? = some _ from rfl); have e9 := (blk_cell E_909.out 9).trans (show (#[.int .i64 i0, .bool true, .int .i64 kd, .int .u64 o1, .int .u64 o2, .int .i64 o3, .int .i64 ia, .bool began, .bool over, .int .i64 er, .bool dn, .int .u64 va] : Array Value)[9]? = some _ from rfl); have e10 := (blk_cell E_909.out 10).trans (show (#[.int .i64 i0, .bool true, .int .i64 kd, .int .u64 o1, .int .u64 o2, .int .i64 o3, .int .i64 ia, .bool began, .bool over, .int .i64 er, .bool dn, .int .u64 va] : Array Value)[10]? = some _ from rfl); obtain ⟨xa, ya, qa⟩ := bump_at (l := acc) (0) (by have := HLA.out; omega); have za : w_906.cell? ⟨w.heap.size + 1, 0, none⟩ = some (.int .i64 xa) := (blk_cell O_908.out (0)).trans ya; clear ya)
          | ((with_reducible refine wpSt 3 (.tmp 26) (.tmp 25) ?_); refine store_cell (B := w.heap.size) (w := w) rfl rfl 3 (.tmp 26) (.tmp 25) rfl (g := w.heap.size + 1) (off := 0) (acc) _ rfl rfl (by kernel_rfl) O_908.out (by have := HLA.out; omega) L_O.out (B910.out) ?_; intro w_911 h1 h2 h3 h4; rw [qa] at h1; have X_912 := Aside0.mk ((h3 _ NE_X_O.out).trans X_907.out); have O_913 := Aside0.mk (h1); have E_914 := Aside0.mk ((h3 _ (Ne.symm NE_O_E.out)).trans E_909.out); have B915 := Aside0.mk (h2); clear h1 h2 h3 h4 X_907 O_908 E_909 B910))
        go_roundg ko
        case rel => exact ⟨k + 1, by first | rfl | rw [wi], ⟨by have := HK.out; omega⟩, ⟨B915.out⟩, ⟨X_912.out⟩, ⟨by rw [HST.out, HE.out]; exact O_913.out⟩⟩
        case measure => exact Nat.lt_succ_self _
      | false =>
        by_cases k1 : kd < 1
        · have b1 : decide (kd > 0) = false := decide_eq_false (by omega)
          have HE := Aside0.mk (show stepE acc (toE ⟨i0, false, ⟨kd, o1, o2, o3⟩, ia, began, over, ⟨er, dn, va⟩⟩) = acc from by simp [stepE, toE, k1])
          go_wp2_with (first
            | ((with_reducible refine wpSt 82 (.tmp 5) (.tmp 17) ?_); refine store_whole (w := w) (B := w.heap.size) rfl rfl 82 (.tmp 5) (.tmp 17) rfl (g := wr.heap.size) (cs := #[.int .i64 i0, .bool false, .int .i64 kd, .int .u64 o1, .int .u64 o2, .int .i64 o3, .int .i64 ia, .bool began, .bool over, .int .i64 er, .bool dn, .int .u64 va]) rfl _ rfl rfl (by kernel_rfl) (by intro q hq; simp only [List.mem_cons, List.not_mem_nil, or_false] at hq; rcases hq with rfl | rfl | rfl | rfl | rfl | rfl | rfl | rfl | rfl | rfl | rfl | rfl <;> rfl) E_904.out (rfl) L_E.out B905.out ?_; intro w_906 h1 h2 h3 h4; have X_907 := Aside0.mk ((h3 _ NE_X_E.out).trans X_902.out); have O_908 := Aside0.mk ((h3 _ NE_O_E.out).trans O_903.out); have E_909 := Aside0.mk (h1); have B910 := Aside0.mk (h2); clear h1 h2 h3 h4 X_902 O_903 E_904 B905; have e1 := (blk_cell E_909.out 1).trans (show (#[.int .i64 i0, .bool false, .int .i64 kd, .int .u64 o1, .int .u64 o2, .int .i64 o3, .int .i64 ia, .bool began, .bool over, .int .i64 er, .bool dn, .int .u64 va] : Array Value)[1]? = some _ from rfl); have e2 := (blk_cell E_909.out 2).trans (show (#[.int .i64 i0, .bool false, .int .i64 kd, .int .u64 o1, .int .u64 o2, .int .i64 o3, .int .i64 ia, .bool began, .bool over, .int .i64 er, .bool dn, .int .u64 va] : Array Value)[2]? = some _ from rfl); have e7 := (blk_cell E_909.out 7).trans (show (#[.int .i64 i0, .bool false, .int .i64 kd, .int .u64 o1, .int .u64 o2, .int .i64 o3, .int .i64 ia, .bool began, .bool over, .int .i64 er, .bool dn, .int .u64 va] : Array Value)[7]? = some _ from rfl); have e8 := (blk_cell E_909.out 8).trans (show (#[.int .i64 i0, .bool false, .int .i64 kd, .int .u64 o1, .int .u64 o2, .int .i64 o3, .int .i64 ia, .bool began, .bool over, .int .i64 er, .bool dn, .int .u64 va] : Array Value)[8]? = some _ from rfl); have e9 := (blk_cell E_909.out 9).trans (show (#[.int .i64 i0, .bool false, .int .i64 kd, .int .u64 o1, .int .u64 o2, .int .i64 o3, .int .i64 ia, .bool began, .bool over, .int .i64 er, .bool dn, .int .u64 va] : Array Value)[9]? = some _ from rfl); have e10 := (blk_cell E_909.out 10).trans (show (#[.int .i64 i0, .bool false, .int .i64 kd, .int .u64 o1, .int .u64 o2, .int .i64 o3, .int .i64 ia, .bool began, .bool over, .int .i64 er, .bool dn, .int .u64 va] : Array Value)[10]? = some _ from rfl)))
          go_roundg ko
          case rel => exact ⟨k + 1, by first | rfl | rw [wi], ⟨by have := HK.out; omega⟩, ⟨B910.out⟩, ⟨X_907.out⟩, ⟨by rw [HST.out, HE.out]; exact O_908.out⟩⟩
          case measure => exact Nat.lt_succ_self _
        have b1 : decide (kd > 0) = true := decide_eq_true (by omega)
        by_cases k8 : 8 < kd
        · have b8 : decide (kd < 9) = false := decide_eq_false (by omega)
          have HE := Aside0.mk (show stepE acc (toE ⟨i0, false, ⟨kd, o1, o2, o3⟩, ia, began, over, ⟨er, dn, va⟩⟩) = acc from by simp [stepE, toE, k1, k8])
          go_wp2_with (first
            | ((with_reducible refine wpSt 82 (.tmp 5) (.tmp 17) ?_); refine store_whole (w := w) (B := w.heap.size) rfl rfl 82 (.tmp 5) (.tmp 17) rfl (g := wr.heap.size) (cs := #[.int .i64 i0, .bool false, .int .i64 kd, .int .u64 o1, .int .u64 o2, .int .i64 o3, .int .i64 ia, .bool began, .bool over, .int .i64 er, .bool dn, .int .u64 va]) rfl _ rfl rfl (by kernel_rfl) (by intro q hq; simp only [List.mem_cons, List.not_mem_nil, or_false] at hq; rcases hq with rfl | rfl | rfl | rfl | rfl | rfl | rfl | rfl | rfl | rfl | rfl | rfl <;> rfl) E_904.out (rfl) L_E.out B905.out ?_; intro w_906 h1 h2 h3 h4; have X_907 := Aside0.mk ((h3 _ NE_X_E.out).trans X_902.out); have O_908 := Aside0.mk ((h3 _ NE_O_E.out).trans O_903.out); have E_909 := Aside0.mk (h1); have B910 := Aside0.mk (h2); clear h1 h2 h3 h4 X_902 O_903 E_904 B905; have e1 := (blk_cell E_909.out 1).trans (show (#[.int .i64 i0, .bool false, .int .i64 kd, .int .u64 o1, .int .u64 o2, .int .i64 o3, .int .i64 ia, .bool began, .bool over, .int .i64 er, .bool dn, .int .u64 va] : Array Value)[1]? = some _ from rfl); have e2 := (blk_cell E_909.out 2).trans (show (#[.int .i64 i0, .bool false, .int .i64 kd, .int .u64 o1, .int .u64 o2, .int .i64 o3, .int .i64 ia, .bool began, .bool over, .int .i64 er, .bool dn, .int .u64 va] : Array Value)[2]? = some _ from rfl); have e7 := (blk_cell E_909.out 7).trans (show (#[.int .i64 i0, .bool false, .int .i64 kd, .int .u64 o1, .int .u64 o2, .int .i64 o3, .int .i64 ia, .bool began, .bool over, .int .i64 er, .bool dn, .int .u64 va] : Array Value)[7]? = some _ from rfl); have e8 := (blk_cell E_909.out 8).trans (show (#[.int .i64 i0, .bool false, .int .i64 kd, .int .u64 o1, .int .u64 o2, .int .i64 o3, .int .i64 ia, .bool began, .bool over, .int .i64 er, .bool dn, .int .u64 va] : Array Value)[8]? = some _ from rfl); have e9 := (blk_cell E_909.out 9).trans (show (#[.int .i64 i0, .bool false, .int .i64 kd, .int .u64 o1, .int .u64 o2, .int .i64 o3, .int .i64 ia, .bool began, .bool over, .int .i64 er, .bool dn, .int .u64 va] : Array Value)[9]? = some _ from rfl); have e10 := (blk_cell E_909.out 10).trans (show (#[.int .i64 i0, .bool false, .int .i64 kd, .int .u64 o1, .int .u64 o2, .int .i64 o3, .int .i64 ia, .bool began, .bool over, .int .i64 er, .bool dn, .int .u64 va] : Array Value)[10]? = some _ from rfl)))
          go_roundg ko
          case rel => exact ⟨k + 1, by first | rfl | rw [wi], ⟨by have := HK.out; omega⟩, ⟨B910.out⟩, ⟨X_907.out⟩, ⟨by rw [HST.out, HE.out]; exact O_908.out⟩⟩
          case measure => exact Nat.lt_succ_self _
        have b8 : decide (kd < 9) = true := decide_eq_true (by omega)
        have k18 : 1 ≤ kd ∧ kd ≤ 8 := ⟨by omega, by omega⟩
        obtain ⟨n, rfl⟩ : ∃ n : Nat, kd = (n : Int) := ⟨kd.toNat, by omega⟩
        have QN := Aside0.mk (show n < 9 by omega)
        have n0 := eq_true (show (0 : Int) ≤ (n : Int) by omega)
        have n1 := eq_true (show (n : Int) < 9 by omega)
        have n2 := eq_true QN.out
        have n3 := eq_true (show 0 < n by omega)
        have n4 := eq_true (show (0 : Int) < (n : Int) by omega)
        have n5 := eq_false (show ¬ n = 0 by omega)
        have K1 := Aside0.mk k1
        have K8 := Aside0.mk k8
        clear k1 k8 k18
        cases began with
        | true =>
          cases over with
          | false =>
            have HE := Aside0.mk (show stepE acc (toE ⟨i0, false, ⟨(n : Int), o1, o2, o3⟩, ia, true, false, ⟨er, dn, va⟩⟩) = bump (bump acc (1 + n * 7)) (1 + n * 7 + 1) from by unfold stepE toE; dsimp only; rw [if_neg (by decide), if_neg K1.out, if_neg K8.out, Int.toNat_natCast]; simp [overV])
            go_wp2_with (first
              | ((with_reducible refine wpSt 82 (.tmp 5) (.tmp 17) ?_); refine store_whole (w := w) (B := w.heap.size) rfl rfl 82 (.tmp 5) (.tmp 17) rfl (g := wr.heap.size) (cs := #[.int .i64 i0, .bool false, .int .i64 (n : Int), .int .u64 o1, .int .u64 o2, .int .i64 o3, .int .i64 ia, .bool true, .bool false, .int .i64 er, .bool dn, .int .u64 va]) rfl _ rfl rfl (by kernel_rfl) (by intro q hq; simp only [List.mem_cons, List.not_mem_nil, or_false] at hq; rcases hq with rfl | rfl | rfl | rfl | rfl | rfl | rfl | rfl | rfl | rfl | rfl | rfl <;> rfl) E_904.out (rfl) L_E.out B905.out ?_; intro w_906 h1 h2 h3 h4; have X_907 := Aside0.mk ((h3 _ NE_X_E.out).trans X_902.out); have O_908 := Aside0.mk ((h3 _ NE_O_E.out).trans O_903.out); have E_909 := Aside0.mk (h1); have B910 := Aside0.mk (h2); clear h1 h2 h3 h4 X_902 O_903 E_904 B905; have e1 := (blk_cell E_909.out 1).trans (show (#[.int .i64 i0, .bool false, .int .i64 (n : Int), .int .u64 o1, .int .u64 o2, .int .i64 o3, .int .i64 ia, .bool true, .bool false, .int .i64 er, .bool dn, .int .u64 va] : Array Value)[1]? = some _ from rfl); have e2 := (blk_cell E_909.out 2).trans (show (#[.int .i64 i0, .bool false, .int .i64 (n : Int), .int .u64 o1, .int .u64 o2, .int .i64 o3, .int .i64 ia, .bool true, .bool false, .int .i64 er, .bool dn, .int .u64 va] : Array Value)[2]? = some _ from rfl); have e7 := (blk_cell E_909.out 7).trans (show (#[.int .i64 i0, .bool false, .int .i64 (n : Int), .int .u64 o1, .int .u64 o2, .int .i64 o3, .int .i64 ia, .bool true, .bool false, .int .i64 er, .bool dn, .int .u64 va] : Array Value)[7]? = some _ from rfl); have e8 := (blk_cell E_909.out 8).trans (show (#[.int .i64 i0, .bool false, .int .i64 (n : Int), .int .u64 o1, .int .u64 o2, .int .i64 o3, .int .i64 ia, .bool true, .bool false, .int .i64 er, .bool dn, .int .u64 va] : Array Value)[8]? = some _ from rfl); have e9 := (blk_cell E_909.out 9).trans (show (#[.int .i64 i0, .bool false, .int .i64 (n : Int), .int .u64 o1, .int .u64 o2, .int .i64 o3, .int .i64 ia, .bool true, .bool false, .int .i64 er, .bool dn, .int .u64 va] : Array Value)[9]? = some _ from rfl); have e10 := (blk_cell E_909.out 10).trans (show (#[.int .i64 i0, .bool false, .int .i64 (n : Int), .int .u64 o1, .int .u64 o2, .int .i64 o3, .int .i64 ia, .bool true, .bool false, .int .i64 er, .bool dn, .int .u64 va] : Array Value)[10]? = some _ from rfl)))
            obtain ⟨xv0, yv0, qv0⟩ := bump_at (l := acc) (1 + n * 7) (by (try simp only [bump_len]); have := HLA.out; have := QN.out; omega)
            have yv0A := Aside0.mk yv0
            have qv0A := Aside0.mk qv0
            clear yv0 qv0
            refine start_ (n := 10) (S := fun w' => w'.cell? ⟨w.heap.size + 1, 1 + n * 7, none⟩ = some (.int .i64 xv0)) (ds := [9]) (lb 10 0) (by kernel_rfl) rfl rfl ((blk_cell (blk_drew O_908.out) (1 + n * 7)).trans yv0A.out) (fun hHeld => ?_)
            refine pS (v := ?_) (a' := ?_) 0 (some 33) (lb 10 1) rfl rfl (by kernel_rfl) (fun _ _ _ h => h) (by rfl) ?_ ?_ ?_; rotate_left; (intro w'; go_simp; with_reducible rfl); rotate_left; (simp only [Act.put, List.setIfInBounds_toArray, List.set_cons_zero, List.set_cons_succ, i64_w, i32_w]; rfl)
            refine pS (v := ?_) (a' := ?_) 1 (some 34) (lb 10 3) rfl rfl (by kernel_rfl) (fun _ _ _ h => h) (by rfl) ?_ ?_ ?_; rotate_left; (intro w'; go_simp; with_reducible rfl); rotate_left; (simp only [Act.put, List.setIfInBounds_toArray, List.set_cons_zero, List.set_cons_succ, i64_w, i32_w]; rfl)
            refine pS (v := ?_) (a' := ?_) 2 (some 35) (lb 10 7) rfl rfl (by kernel_rfl) (fun _ _ _ h => h) (by rfl) ?_ ?_ ?_; rotate_left; (intro w'; go_simp; with_reducible rfl); rotate_left; (simp only [Act.put, List.setIfInBounds_toArray, List.set_cons_zero, List.set_cons_succ, i64_w, i32_w]; rfl)
            refine pS (v := ?_) (a' := ?_) 3 (some 36) (lb 10 15) rfl rfl (by kernel_rfl) (fun _ _ _ h => h) (by rfl) ?_ ?_ ?_; rotate_left; (intro w'; go_simp; with_reducible rfl); rotate_left; (simp only [Act.put, List.setIfInBounds_toArray, List.set_cons_zero, List.set_cons_succ, i64_w, i32_w]; rfl)
            refine pS (v := ?_) (a' := ?_) 6 (some 39) (lb 10 79) rfl rfl (by kernel_rfl) (fun _ _ _ h => h) (by rfl) ?_ ?_ ?_; rotate_left; (intro w'; go_simp; with_reducible rfl); rotate_left; (simp only [Act.put, List.setIfInBounds_toArray, List.set_cons_zero, List.set_cons_succ, i64_w, i32_w]; rfl)
            refine pS (v := ?_) (a' := ?_) 7 (some 40) (lb 10 207) rfl rfl (by kernel_rfl) (fun _ _ _ h => h) (by rfl) ?_ ?_ ?_; rotate_left; (intro w'; go_simp; with_reducible rfl); rotate_left; (simp only [Act.put, List.setIfInBounds_toArray, List.set_cons_zero, List.set_cons_succ, i64_w, i32_w]; rfl)
            refine tS (v := ?_) (a' := ?_) 4 (some 37) (lb 10 223) rfl rfl (by kernel_rfl) (fun _ _ _ h => h) hHeld (by rfl) ?_ ?_ ?_; rotate_left; (rintro w' s0; go_simp; with_reducible rfl); rotate_left; (simp only [Act.put, List.setIfInBounds_toArray, List.set_cons_zero, List.set_cons_succ, i64_w, i32_w]; rfl)
            refine pS (v := ?_) (a' := ?_) 5 (some 38) (lb 10 255) rfl rfl (by kernel_rfl) (fun _ _ _ h => h) (by rfl) ?_ ?_ ?_; rotate_left; (intro w'; go_simp; with_reducible rfl); rotate_left; (simp only [Act.put, List.setIfInBounds_toArray, List.set_cons_zero, List.set_cons_succ, i64_w, i32_w]; rfl)
            refine pS (v := ?_) (a' := ?_) 8 (some 41) (lb 10 511) rfl rfl (by kernel_rfl) (fun _ _ _ h => h) (by rfl) ?_ ?_ ?_; rotate_left; (intro w'; go_simp; with_reducible rfl); rotate_left; (simp only [Act.put, List.setIfInBounds_toArray, List.set_cons_zero, List.set_cons_succ, i64_w, i32_w]; rfl)
            refine last_ (i := 9) (N := none) (lb 10 1023) rfl rfl (by kernel_rfl) (by decide) (fun K hK => ?_)
            refine skip_cell (w := w) 3 (.tmp 41) (.tmp 38) (by rfl) rfl rfl (g := w.heap.size + 1) (1 + n * 7) ?_ (.int .i64 (wrap64 (xv0 + 1))) ?_ rfl (by kernel_rfl) rfl (blk_drew O_908.out) (by rw [TV_size]; (try simp only [bump_len]); have := HLA.out; have := QN.out; omega) L_O.out (below_drew B910.out) ?_
            · rfl
            · rfl
            intro wz10 h1 h2 h3
            have X_911 := Aside0.mk ((h3 _ NE_X_O.out).trans (blk_drew X_907.out))
            have E_912 := Aside0.mk ((h3 _ (Ne.symm NE_O_E.out)).trans (blk_drew E_909.out))
            have O_913 := Aside0.mk (show wz10.heap[w.heap.size + 1]? = some (.cells (TV (bump (acc) (1 + n * 7))) 56 (0, 0)) from by rw [h1, TV_set, qv0A.out])
            have B914 := Aside0.mk h2
            clear h1 h2 h3 yv0A qv0A X_907 E_909 O_908 B910
            refine hK.out _ _ ?_
            clear hK K
            refine done_ (by kernel_rfl) ?_
            have e1 := (blk_cell E_912.out 1).trans (show (#[.int .i64 i0, .bool false, .int .i64 (n : Int), .int .u64 o1, .int .u64 o2, .int .i64 o3, .int .i64 ia, .bool true, .bool false, .int .i64 er, .bool dn, .int .u64 va] : Array Value)[1]? = some _ from rfl)
            have e2 := (blk_cell E_912.out 2).trans (show (#[.int .i64 i0, .bool false, .int .i64 (n : Int), .int .u64 o1, .int .u64 o2, .int .i64 o3, .int .i64 ia, .bool true, .bool false, .int .i64 er, .bool dn, .int .u64 va] : Array Value)[2]? = some _ from rfl)
            have e7 := (blk_cell E_912.out 7).trans (show (#[.int .i64 i0, .bool false, .int .i64 (n : Int), .int .u64 o1, .int .u64 o2, .int .i64 o3, .int .i64 ia, .bool true, .bool false, .int .i64 er, .bool dn, .int .u64 va] : Array Value)[7]? = some _ from rfl)
            have e8 := (blk_cell E_912.out 8).trans (show (#[.int .i64 i0, .bool false, .int .i64 (n : Int), .int .u64 o1, .int .u64 o2, .int .i64 o3, .int .i64 ia, .bool true, .bool false, .int .i64 er, .bool dn, .int .u64 va] : Array Value)[8]? = some _ from rfl)
            have e9 := (blk_cell E_912.out 9).trans (show (#[.int .i64 i0, .bool false, .int .i64 (n : Int), .int .u64 o1, .int .u64 o2, .int .i64 o3, .int .i64 ia, .bool true, .bool false, .int .i64 er, .bool dn, .int .u64 va] : Array Value)[9]? = some _ from rfl)
            have e10 := (blk_cell E_912.out 10).trans (show (#[.int .i64 i0, .bool false, .int .i64 (n : Int), .int .u64 o1, .int .u64 o2, .int .i64 o3, .int .i64 ia, .bool true, .bool false, .int .i64 er, .bool dn, .int .u64 va] : Array Value)[10]? = some _ from rfl)
            go_wp2_with fail
            obtain ⟨xv1, yv1, qv1⟩ := bump_at (l := bump (acc) (1 + n * 7)) (1 + n * 7 + 1) (by (try simp only [bump_len]); have := HLA.out; have := QN.out; omega)
            have yv1A := Aside0.mk yv1
            have qv1A := Aside0.mk qv1
            clear yv1 qv1
            refine start_ (n := 10) (S := fun w' => w'.cell? ⟨w.heap.size + 1, 1 + n * 7 + 1, none⟩ = some (.int .i64 xv1)) (ds := [9]) (lb 10 0) (by kernel_rfl) rfl rfl ((blk_cell (blk_drew O_913.out) (1 + n * 7 + 1)).trans yv1A.out) (fun hHeld => ?_)
            refine pS (v := ?_) (a' := ?_) 0 (some 44) (lb 10 1) rfl rfl (by kernel_rfl) (fun _ _ _ h => h) (by rfl) ?_ ?_ ?_; rotate_left; (intro w'; go_simp; with_reducible rfl); rotate_left; (simp only [Act.put, List.setIfInBounds_toArray, List.set_cons_zero, List.set_cons_succ, i64_w, i32_w]; rfl)
            refine pS (v := ?_) (a' := ?_) 1 (some 45) (lb 10 3) rfl rfl (by kernel_rfl) (fun _ _ _ h => h) (by rfl) ?_ ?_ ?_; rotate_left; (intro w'; go_simp; with_reducible rfl); rotate_left; (simp only [Act.put, List.setIfInBounds_toArray, List.set_cons_zero, List.set_cons_succ, i64_w, i32_w]; rfl)
            refine pS (v := ?_) (a' := ?_) 2 (some 46) (lb 10 7) rfl rfl (by kernel_rfl) (fun _ _ _ h => h) (by rfl) ?_ ?_ ?_; rotate_left; (intro w'; go_simp; with_reducible rfl); rotate_left; (simp only [Act.put, List.setIfInBounds_toArray, List.set_cons_zero, List.set_cons_succ, i64_w, i32_w]; rfl)
            refine pS (v := ?_) (a' := ?_) 3 (some 47) (lb 10 15) rfl rfl (by kernel_rfl) (fun _ _ _ h => h) (by rfl) ?_ ?_ ?_; rotate_left; (intro w'; go_simp; with_reducible rfl); rotate_left; (simp only [Act.put, List.setIfInBounds_toArray, List.set_cons_zero, List.set_cons_succ, i64_w, i32_w]; rfl)
            refine pS (v := ?_) (a' := ?_) 6 (some 50) (lb 10 79) rfl rfl (by kernel_rfl) (fun _ _ _ h => h) (by rfl) ?_ ?_ ?_; rotate_left; (intro w'; go_simp; with_reducible rfl); rotate_left; (simp only [Act.put, List.setIfInBounds_toArray, List.set_cons_zero, List.set_cons_succ, i64_w, i32_w]; rfl)
            refine pS (v := ?_) (a' := ?_) 7 (some 51) (lb 10 207) rfl rfl (by kernel_rfl) (fun _ _ _ h => h) (by rfl) ?_ ?_ ?_; rotate_left; (intro w'; go_simp; with_reducible rfl); rotate_left; (simp only [Act.put, List.setIfInBounds_toArray, List.set_cons_zero, List.set_cons_succ, i64_w, i32_w]; rfl)
            refine tS (v := ?_) (a' := ?_) 4 (some 48) (lb 10 223) rfl rfl (by kernel_rfl) (fun _ _ _ h => h) hHeld (by rfl) ?_ ?_ ?_; rotate_left; (rintro w' s0; go_simp; with_reducible rfl); rotate_left; (simp only [Act.put, List.setIfInBounds_toArray, List.set_cons_zero, List.set_cons_succ, i64_w, i32_w]; rfl)
            refine pS (v := ?_) (a' := ?_) 5 (some 49) (lb 10 255) rfl rfl (by kernel_rfl) (fun _ _ _ h => h) (by rfl) ?_ ?_ ?_; rotate_left; (intro w'; go_simp; with_reducible rfl); rotate_left; (simp only [Act.put, List.setIfInBounds_toArray, List.set_cons_zero, List.set_cons_succ, i64_w, i32_w]; rfl)
            refine pS (v := ?_) (a' := ?_) 8 (some 52) (lb 10 511) rfl rfl (by kernel_rfl) (fun _ _ _ h => h) (by rfl) ?_ ?_ ?_; rotate_left; (intro w'; go_simp; with_reducible rfl); rotate_left; (simp only [Act.put, List.setIfInBounds_toArray, List.set_cons_zero, List.set_cons_succ, i64_w, i32_w]; rfl)
            refine last_ (i := 9) (N := none) (lb 10 1023) rfl rfl (by kernel_rfl) (by decide) (fun K hK => ?_)
            refine skip_cell (w := w) 3 (.tmp 52) (.tmp 49) (by rfl) rfl rfl (g := w.heap.size + 1) (1 + n * 7 + 1) ?_ (.int .i64 (wrap64 (xv1 + 1))) ?_ rfl (by kernel_rfl) rfl (blk_drew O_913.out) (by rw [TV_size]; (try simp only [bump_len]); have := HLA.out; have := QN.out; omega) L_O.out (below_drew B914.out) ?_
            · rfl
            · rfl
            intro wz12 h1 h2 h3
            have X_915 := Aside0.mk ((h3 _ NE_X_O.out).trans (blk_drew X_911.out))
            have E_916 := Aside0.mk ((h3 _ (Ne.symm NE_O_E.out)).trans (blk_drew E_912.out))
            have O_917 := Aside0.mk (show wz12.heap[w.heap.size + 1]? = some (.cells (TV (bump (bump (acc) (1 + n * 7)) (1 + n * 7 + 1))) 56 (0, 0)) from by rw [h1, TV_set, qv1A.out])
            have B918 := Aside0.mk h2
            clear h1 h2 h3 yv1A qv1A X_911 E_912 O_913 B914
            refine hK.out _ _ ?_
            clear hK K
            refine done_ (by kernel_rfl) ?_
            have e1 := (blk_cell E_916.out 1).trans (show (#[.int .i64 i0, .bool false, .int .i64 (n : Int), .int .u64 o1, .int .u64 o2, .int .i64 o3, .int .i64 ia, .bool true, .bool false, .int .i64 er, .bool dn, .int .u64 va] : Array Value)[1]? = some _ from rfl)
            have e2 := (blk_cell E_916.out 2).trans (show (#[.int .i64 i0, .bool false, .int .i64 (n : Int), .int .u64 o1, .int .u64 o2, .int .i64 o3, .int .i64 ia, .bool true, .bool false, .int .i64 er, .bool dn, .int .u64 va] : Array Value)[2]? = some _ from rfl)
            have e7 := (blk_cell E_916.out 7).trans (show (#[.int .i64 i0, .bool false, .int .i64 (n : Int), .int .u64 o1, .int .u64 o2, .int .i64 o3, .int .i64 ia, .bool true, .bool false, .int .i64 er, .bool dn, .int .u64 va] : Array Value)[7]? = some _ from rfl)
            have e8 := (blk_cell E_916.out 8).trans (show (#[.int .i64 i0, .bool false, .int .i64 (n : Int), .int .u64 o1, .int .u64 o2, .int .i64 o3, .int .i64 ia, .bool true, .bool false, .int .i64 er, .bool dn, .int .u64 va] : Array Value)[8]? = some _ from rfl)
            have e9 := (blk_cell E_916.out 9).trans (show (#[.int .i64 i0, .bool false, .int .i64 (n : Int), .int .u64 o1, .int .u64 o2, .int .i64 o3, .int .i64 ia, .bool true, .bool false, .int .i64 er, .bool dn, .int .u64 va] : Array Value)[9]? = some _ from rfl)
            have e10 := (blk_cell E_916.out 10).trans (show (#[.int .i64 i0, .bool false, .int .i64 (n : Int), .int .u64 o1, .int .u64 o2, .int .i64 o3, .int .i64 ia, .bool true, .bool false, .int .i64 er, .bool dn, .int .u64 va] : Array Value)[10]? = some _ from rfl)
            go_wp2_with fail
            go_roundg ko
            case rel => exact ⟨k + 1, by first | rfl | rw [wi], ⟨by have := HK.out; omega⟩, ⟨B918.out⟩, ⟨X_915.out⟩, ⟨by rw [HST.out, HE.out]; exact O_917.out⟩⟩
            case measure => exact Nat.lt_succ_self _
          | true =>
            by_cases c6 : er = 6
            · subst c6
              have HE := Aside0.mk (show stepE acc (toE ⟨i0, false, ⟨(n : Int), o1, o2, o3⟩, ia, true, true, ⟨6, dn, va⟩⟩) = bump (bump (bump (bump acc (1 + n * 7)) (1 + n * 7 + 1)) (1 + n * 7 + 2)) (1 + n * 7 + 5) from by unfold stepE toE; dsimp only; rw [if_neg (by decide), if_neg K1.out, if_neg K8.out, Int.toNat_natCast]; simp [overV])
              go_wp2_with (first
                | ((with_reducible refine wpSt 82 (.tmp 5) (.tmp 17) ?_); refine store_whole (w := w) (B := w.heap.size) rfl rfl 82 (.tmp 5) (.tmp 17) rfl (g := wr.heap.size) (cs := #[.int .i64 i0, .bool false, .int .i64 (n : Int), .int .u64 o1, .int .u64 o2, .int .i64 o3, .int .i64 ia, .bool true, .bool true, .int .i64 6, .bool dn, .int .u64 va]) rfl _ rfl rfl (by kernel_rfl) (by intro q hq; simp only [List.mem_cons, List.not_mem_nil, or_false] at hq; rcases hq with rfl | rfl | rfl | rfl | rfl | rfl | rfl | rfl | rfl | rfl | rfl | rfl <;> rfl) E_904.out (rfl) L_E.out B905.out ?_; intro w_906 h1 h2 h3 h4; have X_907 := Aside0.mk ((h3 _ NE_X_E.out).trans X_902.out); have O_908 := Aside0.mk ((h3 _ NE_O_E.out).trans O_903.out); have E_909 := Aside0.mk (h1); have B910 := Aside0.mk (h2); clear h1 h2 h3 h4 X_902 O_903 E_904 B905; have e1 := (blk_cell E_909.out 1).trans (show (#[.int .i64 i0, .bool false, .int .i64 (n : Int), .int .u64 o1, .int .u64 o2, .int .i64 o3, .int .i64 ia, .bool true, .bool true, .int .i64 6, .bool dn, .int .u64 va] : Array Value)[1]? = some _ from rfl); have e2 := (blk_cell E_909.out 2).trans (show (#[.int .i64 i0, .bool false, .int .i64 (n : Int), .int .u64 o1, .int .u64 o2, .int .i64 o3, .int .i64 ia, .bool true, .bool true, .int .i64 6, .bool dn, .int .u64 va] : Array Value)[2]? = some _ from rfl); have e7 := (blk_cell E_909.out 7).trans (show (#[.int .i64 i0, .bool false, .int .i64 (n : Int), .int .u64 o1, .int .u64 o2, .int .i64 o3, .int .i64 ia, .bool true, .bool true, .int .i64 6, .bool dn, .int .u64 va] : Array Value)[7]? = some _ from rfl); have e8 := (blk_cell E_909.out 8).trans (show (#[.int .i64 i0, .bool false, .int .i64 (n : Int), .int .u64 o1, .int .u64 o2, .int .i64 o3, .int .i64 ia, .bool true, .bool true, .int .i64 6, .bool dn, .int .u64 va] : Array Value)[8]? = some _ from rfl); have e9 := (blk_cell E_909.out 9).trans (show (#[.int .i64 i0, .bool false, .int .i64 (n : Int), .int .u64 o1, .int .u64 o2, .int .i64 o3, .int .i64 ia, .bool true, .bool true, .int .i64 6, .bool dn, .int .u64 va] : Array Value)[9]? = some _ from rfl); have e10 := (blk_cell E_909.out 10).trans (show (#[.int .i64 i0, .bool false, .int .i64 (n : Int), .int .u64 o1, .int .u64 o2, .int .i64 o3, .int .i64 ia, .bool true, .bool true, .int .i64 6, .bool dn, .int .u64 va] : Array Value)[10]? = some _ from rfl)))
              obtain ⟨xv0, yv0, qv0⟩ := bump_at (l := acc) (1 + n * 7) (by (try simp only [bump_len]); have := HLA.out; have := QN.out; omega)
              have yv0A := Aside0.mk yv0
              have qv0A := Aside0.mk qv0
              clear yv0 qv0
              refine start_ (n := 10) (S := fun w' => w'.cell? ⟨w.heap.size + 1, 1 + n * 7, none⟩ = some (.int .i64 xv0)) (ds := [9]) (lb 10 0) (by kernel_rfl) rfl rfl ((blk_cell (blk_drew O_908.out) (1 + n * 7)).trans yv0A.out) (fun hHeld => ?_)
              refine pS (v := ?_) (a' := ?_) 0 (some 33) (lb 10 1) rfl rfl (by kernel_rfl) (fun _ _ _ h => h) (by rfl) ?_ ?_ ?_; rotate_left; (intro w'; go_simp; with_reducible rfl); rotate_left; (simp only [Act.put, List.setIfInBounds_toArray, List.set_cons_zero, List.set_cons_succ, i64_w, i32_w]; rfl)
              refine pS (v := ?_) (a' := ?_) 1 (some 34) (lb 10 3) rfl rfl (by kernel_rfl) (fun _ _ _ h => h) (by rfl) ?_ ?_ ?_; rotate_left; (intro w'; go_simp; with_reducible rfl); rotate_left; (simp only [Act.put, List.setIfInBounds_toArray, List.set_cons_zero, List.set_cons_succ, i64_w, i32_w]; rfl)
              refine pS (v := ?_) (a' := ?_) 2 (some 35) (lb 10 7) rfl rfl (by kernel_rfl) (fun _ _ _ h => h) (by rfl) ?_ ?_ ?_; rotate_left; (intro w'; go_simp; with_reducible rfl); rotate_left; (simp only [Act.put, List.setIfInBounds_toArray, List.set_cons_zero, List.set_cons_succ, i64_w, i32_w]; rfl)
              refine pS (v := ?_) (a' := ?_) 3 (some 36) (lb 10 15) rfl rfl (by kernel_rfl) (fun _ _ _ h => h) (by rfl) ?_ ?_ ?_; rotate_left; (intro w'; go_simp; with_reducible rfl); rotate_left; (simp only [Act.put, List.setIfInBounds_toArray, List.set_cons_zero, List.set_cons_succ, i64_w, i32_w]; rfl)
              refine pS (v := ?_) (a' := ?_) 6 (some 39) (lb 10 79) rfl rfl (by kernel_rfl) (fun _ _ _ h => h) (by rfl) ?_ ?_ ?_; rotate_left; (intro w'; go_simp; with_reducible rfl); rotate_left; (simp only [Act.put, List.setIfInBounds_toArray, List.set_cons_zero, List.set_cons_succ, i64_w, i32_w]; rfl)
              refine pS (v := ?_) (a' := ?_) 7 (some 40) (lb 10 207) rfl rfl (by kernel_rfl) (fun _ _ _ h => h) (by rfl) ?_ ?_ ?_; rotate_left; (intro w'; go_simp; with_reducible rfl); rotate_left; (simp only [Act.put, List.setIfInBounds_toArray, List.set_cons_zero, List.set_cons_succ, i64_w, i32_w]; rfl)
              refine tS (v := ?_) (a' := ?_) 4 (some 37) (lb 10 223) rfl rfl (by kernel_rfl) (fun _ _ _ h => h) hHeld (by rfl) ?_ ?_ ?_; rotate_left; (rintro w' s0; go_simp; with_reducible rfl); rotate_left; (simp only [Act.put, List.setIfInBounds_toArray, List.set_cons_zero, List.set_cons_succ, i64_w, i32_w]; rfl)
              refine pS (v := ?_) (a' := ?_) 5 (some 38) (lb 10 255) rfl rfl (by kernel_rfl) (fun _ _ _ h => h) (by rfl) ?_ ?_ ?_; rotate_left; (intro w'; go_simp; with_reducible rfl); rotate_left; (simp only [Act.put, List.setIfInBounds_toArray, List.set_cons_zero, List.set_cons_succ, i64_w, i32_w]; rfl)
              refine pS (v := ?_) (a' := ?_) 8 (some 41) (lb 10 511) rfl rfl (by kernel_rfl) (fun _ _ _ h => h) (by rfl) ?_ ?_ ?_; rotate_left; (intro w'; go_simp; with_reducible rfl); rotate_left; (simp only [Act.put, List.setIfInBounds_toArray, List.set_cons_zero, List.set_cons_succ, i64_w, i32_w]; rfl)
              refine last_ (i := 9) (N := none) (lb 10 1023) rfl rfl (by kernel_rfl) (by decide) (fun K hK => ?_)
              refine skip_cell (w := w) 3 (.tmp 41) (.tmp 38) (by rfl) rfl rfl (g := w.heap.size + 1) (1 + n * 7) ?_ (.int .i64 (wrap64 (xv0 + 1))) ?_ rfl (by kernel_rfl) rfl (blk_drew O_908.out) (by rw [TV_size]; (try simp only [bump_len]); have := HLA.out; have := QN.out; omega) L_O.out (below_drew B910.out) ?_
              · rfl
              · rfl
              intro wz10 h1 h2 h3
              have X_911 := Aside0.mk ((h3 _ NE_X_O.out).trans (blk_drew X_907.out))
              have E_912 := Aside0.mk ((h3 _ (Ne.symm NE_O_E.out)).trans (blk_drew E_909.out))
              have O_913 := Aside0.mk (show wz10.heap[w.heap.size + 1]? = some (.cells (TV (bump (acc) (1 + n * 7))) 56 (0, 0)) from by rw [h1, TV_set, qv0A.out])
              have B914 := Aside0.mk h2
              clear h1 h2 h3 yv0A qv0A X_907 E_909 O_908 B910
              refine hK.out _ _ ?_
              clear hK K
              refine done_ (by kernel_rfl) ?_
              have e1 := (blk_cell E_912.out 1).trans (show (#[.int .i64 i0, .bool false, .int .i64 (n : Int), .int .u64 o1, .int .u64 o2, .int .i64 o3, .int .i64 ia, .bool true, .bool true, .int .i64 6, .bool dn, .int .u64 va] : Array Value)[1]? = some _ from rfl)
              have e2 := (blk_cell E_912.out 2).trans (show (#[.int .i64 i0, .bool false, .int .i64 (n : Int), .int .u64 o1, .int .u64 o2, .int .i64 o3, .int .i64 ia, .bool true, .bool true, .int .i64 6, .bool dn, .int .u64 va] : Array Value)[2]? = some _ from rfl)
              have e7 := (blk_cell E_912.out 7).trans (show (#[.int .i64 i0, .bool false, .int .i64 (n : Int), .int .u64 o1, .int .u64 o2, .int .i64 o3, .int .i64 ia, .bool true, .bool true, .int .i64 6, .bool dn, .int .u64 va] : Array Value)[7]? = some _ from rfl)
              have e8 := (blk_cell E_912.out 8).trans (show (#[.int .i64 i0, .bool false, .int .i64 (n : Int), .int .u64 o1, .int .u64 o2, .int .i64 o3, .int .i64 ia, .bool true, .bool true, .int .i64 6, .bool dn, .int .u64 va] : Array Value)[8]? = some _ from rfl)
              have e9 := (blk_cell E_912.out 9).trans (show (#[.int .i64 i0, .bool false, .int .i64 (n : Int), .int .u64 o1, .int .u64 o2, .int .i64 o3, .int .i64 ia, .bool true, .bool true, .int .i64 6, .bool dn, .int .u64 va] : Array Value)[9]? = some _ from rfl)
              have e10 := (blk_cell E_912.out 10).trans (show (#[.int .i64 i0, .bool false, .int .i64 (n : Int), .int .u64 o1, .int .u64 o2, .int .i64 o3, .int .i64 ia, .bool true, .bool true, .int .i64 6, .bool dn, .int .u64 va] : Array Value)[10]? = some _ from rfl)
              go_wp2_with fail
              obtain ⟨xv1, yv1, qv1⟩ := bump_at (l := bump (acc) (1 + n * 7)) (1 + n * 7 + 1) (by (try simp only [bump_len]); have := HLA.out; have := QN.out; omega)
              have yv1A := Aside0.mk yv1
              have qv1A := Aside0.mk qv1
              clear yv1 qv1
              refine start_ (n := 10) (S := fun w' => w'.cell? ⟨w.heap.size + 1, 1 + n * 7 + 1, none⟩ = some (.int .i64 xv1)) (ds := [9]) (lb 10 0) (by kernel_rfl) rfl rfl ((blk_cell (blk_drew O_913.out) (1 + n * 7 + 1)).trans yv1A.out) (fun hHeld => ?_)
              refine pS (v := ?_) (a' := ?_) 0 (some 44) (lb 10 1) rfl rfl (by kernel_rfl) (fun _ _ _ h => h) (by rfl) ?_ ?_ ?_; rotate_left; (intro w'; go_simp; with_reducible rfl); rotate_left; (simp only [Act.put, List.setIfInBounds_toArray, List.set_cons_zero, List.set_cons_succ, i64_w, i32_w]; rfl)
              refine pS (v := ?_) (a' := ?_) 1 (some 45) (lb 10 3) rfl rfl (by kernel_rfl) (fun _ _ _ h => h) (by rfl) ?_ ?_ ?_; rotate_left; (intro w'; go_simp; with_reducible rfl); rotate_left; (simp only [Act.put, List.setIfInBounds_toArray, List.set_cons_zero, List.set_cons_succ, i64_w, i32_w]; rfl)
              refine pS (v := ?_) (a' := ?_) 2 (some 46) (lb 10 7) rfl rfl (by kernel_rfl) (fun _ _ _ h => h) (by rfl) ?_ ?_ ?_; rotate_left; (intro w'; go_simp; with_reducible rfl); rotate_left; (simp only [Act.put, List.setIfInBounds_toArray, List.set_cons_zero, List.set_cons_succ, i64_w, i32_w]; rfl)
              refine pS (v := ?_) (a' := ?_) 3 (some 47) (lb 10 15) rfl rfl (by kernel_rfl) (fun _ _ _ h => h) (by rfl) ?_ ?_ ?_; rotate_left; (intro w'; go_simp; with_reducible rfl); rotate_left; (simp only [Act.put, List.setIfInBounds_toArray, List.set_cons_zero, List.set_cons_succ, i64_w, i32_w]; rfl)
              refine pS (v := ?_) (a' := ?_) 6 (some 50) (lb 10 79) rfl rfl (by kernel_rfl) (fun _ _ _ h => h) (by rfl) ?_ ?_ ?_; rotate_left; (intro w'; go_simp; with_reducible rfl); rotate_left; (simp only [Act.put, List.setIfInBounds_toArray, List.set_cons_zero, List.set_cons_succ, i64_w, i32_w]; rfl)
              refine pS (v := ?_) (a' := ?_) 7 (some 51) (lb 10 207) rfl rfl (by kernel_rfl) (fun _ _ _ h => h) (by rfl) ?_ ?_ ?_; rotate_left; (intro w'; go_simp; with_reducible rfl); rotate_left; (simp only [Act.put, List.setIfInBounds_toArray, List.set_cons_zero, List.set_cons_succ, i64_w, i32_w]; rfl)
              refine tS (v := ?_) (a' := ?_) 4 (some 48) (lb 10 223) rfl rfl (by kernel_rfl) (fun _ _ _ h => h) hHeld (by rfl) ?_ ?_ ?_; rotate_left; (rintro w' s0; go_simp; with_reducible rfl); rotate_left; (simp only [Act.put, List.setIfInBounds_toArray, List.set_cons_zero, List.set_cons_succ, i64_w, i32_w]; rfl)
              refine pS (v := ?_) (a' := ?_) 5 (some 49) (lb 10 255) rfl rfl (by kernel_rfl) (fun _ _ _ h => h) (by rfl) ?_ ?_ ?_; rotate_left; (intro w'; go_simp; with_reducible rfl); rotate_left; (simp only [Act.put, List.setIfInBounds_toArray, List.set_cons_zero, List.set_cons_succ, i64_w, i32_w]; rfl)
              refine pS (v := ?_) (a' := ?_) 8 (some 52) (lb 10 511) rfl rfl (by kernel_rfl) (fun _ _ _ h => h) (by rfl) ?_ ?_ ?_; rotate_left; (intro w'; go_simp; with_reducible rfl); rotate_left; (simp only [Act.put, List.setIfInBounds_toArray, List.set_cons_zero, List.set_cons_succ, i64_w, i32_w]; rfl)
              refine last_ (i := 9) (N := none) (lb 10 1023) rfl rfl (by kernel_rfl) (by decide) (fun K hK => ?_)
              refine skip_cell (w := w) 3 (.tmp 52) (.tmp 49) (by rfl) rfl rfl (g := w.heap.size + 1) (1 + n * 7 + 1) ?_ (.int .i64 (wrap64 (xv1 + 1))) ?_ rfl (by kernel_rfl) rfl (blk_drew O_913.out) (by rw [TV_size]; (try simp only [bump_len]); have := HLA.out; have := QN.out; omega) L_O.out (below_drew B914.out) ?_
              · rfl
              · rfl
              intro wz12 h1 h2 h3
              have X_915 := Aside0.mk ((h3 _ NE_X_O.out).trans (blk_drew X_911.out))
              have E_916 := Aside0.mk ((h3 _ (Ne.symm NE_O_E.out)).trans (blk_drew E_912.out))
              have O_917 := Aside0.mk (show wz12.heap[w.heap.size + 1]? = some (.cells (TV (bump (bump (acc) (1 + n * 7)) (1 + n * 7 + 1))) 56 (0, 0)) from by rw [h1, TV_set, qv1A.out])
              have B918 := Aside0.mk h2
              clear h1 h2 h3 yv1A qv1A X_911 E_912 O_913 B914
              refine hK.out _ _ ?_
              clear hK K
              refine done_ (by kernel_rfl) ?_
              have e1 := (blk_cell E_916.out 1).trans (show (#[.int .i64 i0, .bool false, .int .i64 (n : Int), .int .u64 o1, .int .u64 o2, .int .i64 o3, .int .i64 ia, .bool true, .bool true, .int .i64 6, .bool dn, .int .u64 va] : Array Value)[1]? = some _ from rfl)
              have e2 := (blk_cell E_916.out 2).trans (show (#[.int .i64 i0, .bool false, .int .i64 (n : Int), .int .u64 o1, .int .u64 o2, .int .i64 o3, .int .i64 ia, .bool true, .bool true, .int .i64 6, .bool dn, .int .u64 va] : Array Value)[2]? = some _ from rfl)
              have e7 := (blk_cell E_916.out 7).trans (show (#[.int .i64 i0, .bool false, .int .i64 (n : Int), .int .u64 o1, .int .u64 o2, .int .i64 o3, .int .i64 ia, .bool true, .bool true, .int .i64 6, .bool dn, .int .u64 va] : Array Value)[7]? = some _ from rfl)
              have e8 := (blk_cell E_916.out 8).trans (show (#[.int .i64 i0, .bool false, .int .i64 (n : Int), .int .u64 o1, .int .u64 o2, .int .i64 o3, .int .i64 ia, .bool true, .bool true, .int .i64 6, .bool dn, .int .u64 va] : Array Value)[8]? = some _ from rfl)
              have e9 := (blk_cell E_916.out 9).trans (show (#[.int .i64 i0, .bool false, .int .i64 (n : Int), .int .u64 o1, .int .u64 o2, .int .i64 o3, .int .i64 ia, .bool true, .bool true, .int .i64 6, .bool dn, .int .u64 va] : Array Value)[9]? = some _ from rfl)
              have e10 := (blk_cell E_916.out 10).trans (show (#[.int .i64 i0, .bool false, .int .i64 (n : Int), .int .u64 o1, .int .u64 o2, .int .i64 o3, .int .i64 ia, .bool true, .bool true, .int .i64 6, .bool dn, .int .u64 va] : Array Value)[10]? = some _ from rfl)
              go_wp2_with fail
              obtain ⟨xv2, yv2, qv2⟩ := bump_at (l := bump (bump (acc) (1 + n * 7)) (1 + n * 7 + 1)) (1 + n * 7 + 2) (by (try simp only [bump_len]); have := HLA.out; have := QN.out; omega)
              have yv2A := Aside0.mk yv2
              have qv2A := Aside0.mk qv2
              clear yv2 qv2
              refine start_ (n := 10) (S := fun w' => w'.cell? ⟨w.heap.size + 1, 1 + n * 7 + 2, none⟩ = some (.int .i64 xv2)) (ds := [9]) (lb 10 0) (by kernel_rfl) rfl rfl ((blk_cell (blk_drew O_917.out) (1 + n * 7 + 2)).trans yv2A.out) (fun hHeld => ?_)
              refine pS (v := ?_) (a' := ?_) 0 (some 55) (lb 10 1) rfl rfl (by kernel_rfl) (fun _ _ _ h => h) (by rfl) ?_ ?_ ?_; rotate_left; (intro w'; go_simp; with_reducible rfl); rotate_left; (simp only [Act.put, List.setIfInBounds_toArray, List.set_cons_zero, List.set_cons_succ, i64_w, i32_w]; rfl)
              refine pS (v := ?_) (a' := ?_) 1 (some 56) (lb 10 3) rfl rfl (by kernel_rfl) (fun _ _ _ h => h) (by rfl) ?_ ?_ ?_; rotate_left; (intro w'; go_simp; with_reducible rfl); rotate_left; (simp only [Act.put, List.setIfInBounds_toArray, List.set_cons_zero, List.set_cons_succ, i64_w, i32_w]; rfl)
              refine pS (v := ?_) (a' := ?_) 2 (some 57) (lb 10 7) rfl rfl (by kernel_rfl) (fun _ _ _ h => h) (by rfl) ?_ ?_ ?_; rotate_left; (intro w'; go_simp; with_reducible rfl); rotate_left; (simp only [Act.put, List.setIfInBounds_toArray, List.set_cons_zero, List.set_cons_succ, i64_w, i32_w]; rfl)
              refine pS (v := ?_) (a' := ?_) 3 (some 58) (lb 10 15) rfl rfl (by kernel_rfl) (fun _ _ _ h => h) (by rfl) ?_ ?_ ?_; rotate_left; (intro w'; go_simp; with_reducible rfl); rotate_left; (simp only [Act.put, List.setIfInBounds_toArray, List.set_cons_zero, List.set_cons_succ, i64_w, i32_w]; rfl)
              refine pS (v := ?_) (a' := ?_) 6 (some 61) (lb 10 79) rfl rfl (by kernel_rfl) (fun _ _ _ h => h) (by rfl) ?_ ?_ ?_; rotate_left; (intro w'; go_simp; with_reducible rfl); rotate_left; (simp only [Act.put, List.setIfInBounds_toArray, List.set_cons_zero, List.set_cons_succ, i64_w, i32_w]; rfl)
              refine pS (v := ?_) (a' := ?_) 7 (some 62) (lb 10 207) rfl rfl (by kernel_rfl) (fun _ _ _ h => h) (by rfl) ?_ ?_ ?_; rotate_left; (intro w'; go_simp; with_reducible rfl); rotate_left; (simp only [Act.put, List.setIfInBounds_toArray, List.set_cons_zero, List.set_cons_succ, i64_w, i32_w]; rfl)
              refine tS (v := ?_) (a' := ?_) 4 (some 59) (lb 10 223) rfl rfl (by kernel_rfl) (fun _ _ _ h => h) hHeld (by rfl) ?_ ?_ ?_; rotate_left; (rintro w' s0; go_simp; with_reducible rfl); rotate_left; (simp only [Act.put, List.setIfInBounds_toArray, List.set_cons_zero, List.set_cons_succ, i64_w, i32_w]; rfl)
              refine pS (v := ?_) (a' := ?_) 5 (some 60) (lb 10 255) rfl rfl (by kernel_rfl) (fun _ _ _ h => h) (by rfl) ?_ ?_ ?_; rotate_left; (intro w'; go_simp; with_reducible rfl); rotate_left; (simp only [Act.put, List.setIfInBounds_toArray, List.set_cons_zero, List.set_cons_succ, i64_w, i32_w]; rfl)
              refine pS (v := ?_) (a' := ?_) 8 (some 63) (lb 10 511) rfl rfl (by kernel_rfl) (fun _ _ _ h => h) (by rfl) ?_ ?_ ?_; rotate_left; (intro w'; go_simp; with_reducible rfl); rotate_left; (simp only [Act.put, List.setIfInBounds_toArray, List.set_cons_zero, List.set_cons_succ, i64_w, i32_w]; rfl)
              refine last_ (i := 9) (N := none) (lb 10 1023) rfl rfl (by kernel_rfl) (by decide) (fun K hK => ?_)
              refine skip_cell (w := w) 3 (.tmp 63) (.tmp 60) (by rfl) rfl rfl (g := w.heap.size + 1) (1 + n * 7 + 2) ?_ (.int .i64 (wrap64 (xv2 + 1))) ?_ rfl (by kernel_rfl) rfl (blk_drew O_917.out) (by rw [TV_size]; (try simp only [bump_len]); have := HLA.out; have := QN.out; omega) L_O.out (below_drew B918.out) ?_
              · rfl
              · rfl
              intro wz14 h1 h2 h3
              have X_919 := Aside0.mk ((h3 _ NE_X_O.out).trans (blk_drew X_915.out))
              have E_920 := Aside0.mk ((h3 _ (Ne.symm NE_O_E.out)).trans (blk_drew E_916.out))
              have O_921 := Aside0.mk (show wz14.heap[w.heap.size + 1]? = some (.cells (TV (bump (bump (bump (acc) (1 + n * 7)) (1 + n * 7 + 1)) (1 + n * 7 + 2))) 56 (0, 0)) from by rw [h1, TV_set, qv2A.out])
              have B922 := Aside0.mk h2
              clear h1 h2 h3 yv2A qv2A X_915 E_916 O_917 B918
              refine hK.out _ _ ?_
              clear hK K
              refine done_ (by kernel_rfl) ?_
              have e1 := (blk_cell E_920.out 1).trans (show (#[.int .i64 i0, .bool false, .int .i64 (n : Int), .int .u64 o1, .int .u64 o2, .int .i64 o3, .int .i64 ia, .bool true, .bool true, .int .i64 6, .bool dn, .int .u64 va] : Array Value)[1]? = some _ from rfl)
              have e2 := (blk_cell E_920.out 2).trans (show (#[.int .i64 i0, .bool false, .int .i64 (n : Int), .int .u64 o1, .int .u64 o2, .int .i64 o3, .int .i64 ia, .bool true, .bool true, .int .i64 6, .bool dn, .int .u64 va] : Array Value)[2]? = some _ from rfl)
              have e7 := (blk_cell E_920.out 7).trans (show (#[.int .i64 i0, .bool false, .int .i64 (n : Int), .int .u64 o1, .int .u64 o2, .int .i64 o3, .int .i64 ia, .bool true, .bool true, .int .i64 6, .bool dn, .int .u64 va] : Array Value)[7]? = some _ from rfl)
              have e8 := (blk_cell E_920.out 8).trans (show (#[.int .i64 i0, .bool false, .int .i64 (n : Int), .int .u64 o1, .int .u64 o2, .int .i64 o3, .int .i64 ia, .bool true, .bool true, .int .i64 6, .bool dn, .int .u64 va] : Array Value)[8]? = some _ from rfl)
              have e9 := (blk_cell E_920.out 9).trans (show (#[.int .i64 i0, .bool false, .int .i64 (n : Int), .int .u64 o1, .int .u64 o2, .int .i64 o3, .int .i64 ia, .bool true, .bool true, .int .i64 6, .bool dn, .int .u64 va] : Array Value)[9]? = some _ from rfl)
              have e10 := (blk_cell E_920.out 10).trans (show (#[.int .i64 i0, .bool false, .int .i64 (n : Int), .int .u64 o1, .int .u64 o2, .int .i64 o3, .int .i64 ia, .bool true, .bool true, .int .i64 6, .bool dn, .int .u64 va] : Array Value)[10]? = some _ from rfl)
              go_wp2_with fail
              obtain ⟨xv5, yv5, qv5⟩ := bump_at (l := bump (bump (bump (acc) (1 + n * 7)) (1 + n * 7 + 1)) (1 + n * 7 + 2)) (1 + n * 7 + 5) (by (try simp only [bump_len]); have := HLA.out; have := QN.out; omega)
              have yv5A := Aside0.mk yv5
              have qv5A := Aside0.mk qv5
              clear yv5 qv5
              refine start_ (n := 10) (S := fun w' => w'.cell? ⟨w.heap.size + 1, 1 + n * 7 + 5, none⟩ = some (.int .i64 xv5)) (ds := [9]) (lb 10 0) (by kernel_rfl) rfl rfl ((blk_cell (blk_drew O_921.out) (1 + n * 7 + 5)).trans yv5A.out) (fun hHeld => ?_)
              refine pS (v := ?_) (a' := ?_) 0 (some 117) (lb 10 1) rfl rfl (by kernel_rfl) (fun _ _ _ h => h) (by rfl) ?_ ?_ ?_; rotate_left; (intro w'; go_simp; with_reducible rfl); rotate_left; (simp only [Act.put, List.setIfInBounds_toArray, List.set_cons_zero, List.set_cons_succ, i64_w, i32_w]; rfl)
              refine pS (v := ?_) (a' := ?_) 1 (some 118) (lb 10 3) rfl rfl (by kernel_rfl) (fun _ _ _ h => h) (by rfl) ?_ ?_ ?_; rotate_left; (intro w'; go_simp; with_reducible rfl); rotate_left; (simp only [Act.put, List.setIfInBounds_toArray, List.set_cons_zero, List.set_cons_succ, i64_w, i32_w]; rfl)
              refine pS (v := ?_) (a' := ?_) 2 (some 119) (lb 10 7) rfl rfl (by kernel_rfl) (fun _ _ _ h => h) (by rfl) ?_ ?_ ?_; rotate_left; (intro w'; go_simp; with_reducible rfl); rotate_left; (simp only [Act.put, List.setIfInBounds_toArray, List.set_cons_zero, List.set_cons_succ, i64_w, i32_w]; rfl)
              refine pS (v := ?_) (a' := ?_) 3 (some 120) (lb 10 15) rfl rfl (by kernel_rfl) (fun _ _ _ h => h) (by rfl) ?_ ?_ ?_; rotate_left; (intro w'; go_simp; with_reducible rfl); rotate_left; (simp only [Act.put, List.setIfInBounds_toArray, List.set_cons_zero, List.set_cons_succ, i64_w, i32_w]; rfl)
              refine pS (v := ?_) (a' := ?_) 6 (some 123) (lb 10 79) rfl rfl (by kernel_rfl) (fun _ _ _ h => h) (by rfl) ?_ ?_ ?_; rotate_left; (intro w'; go_simp; with_reducible rfl); rotate_left; (simp only [Act.put, List.setIfInBounds_toArray, List.set_cons_zero, List.set_cons_succ, i64_w, i32_w]; rfl)
              refine pS (v := ?_) (a' := ?_) 7 (some 124) (lb 10 207) rfl rfl (by kernel_rfl) (fun _ _ _ h => h) (by rfl) ?_ ?_ ?_; rotate_left; (intro w'; go_simp; with_reducible rfl); rotate_left; (simp only [Act.put, List.setIfInBounds_toArray, List.set_cons_zero, List.set_cons_succ, i64_w, i32_w]; rfl)
              refine tS (v := ?_) (a' := ?_) 4 (some 121) (lb 10 223) rfl rfl (by kernel_rfl) (fun _ _ _ h => h) hHeld (by rfl) ?_ ?_ ?_; rotate_left; (rintro w' s0; go_simp; with_reducible rfl); rotate_left; (simp only [Act.put, List.setIfInBounds_toArray, List.set_cons_zero, List.set_cons_succ, i64_w, i32_w]; rfl)
              refine pS (v := ?_) (a' := ?_) 5 (some 122) (lb 10 255) rfl rfl (by kernel_rfl) (fun _ _ _ h => h) (by rfl) ?_ ?_ ?_; rotate_left; (intro w'; go_simp; with_reducible rfl); rotate_left; (simp only [Act.put, List.setIfInBounds_toArray, List.set_cons_zero, List.set_cons_succ, i64_w, i32_w]; rfl)
              refine pS (v := ?_) (a' := ?_) 8 (some 125) (lb 10 511) rfl rfl (by kernel_rfl) (fun _ _ _ h => h) (by rfl) ?_ ?_ ?_; rotate_left; (intro w'; go_simp; with_reducible rfl); rotate_left; (simp only [Act.put, List.setIfInBounds_toArray, List.set_cons_zero, List.set_cons_succ, i64_w, i32_w]; rfl)
              refine last_ (i := 9) (N := none) (lb 10 1023) rfl rfl (by kernel_rfl) (by decide) (fun K hK => ?_)
              refine skip_cell (w := w) 3 (.tmp 125) (.tmp 122) (by rfl) rfl rfl (g := w.heap.size + 1) (1 + n * 7 + 5) ?_ (.int .i64 (wrap64 (xv5 + 1))) ?_ rfl (by kernel_rfl) rfl (blk_drew O_921.out) (by rw [TV_size]; (try simp only [bump_len]); have := HLA.out; have := QN.out; omega) L_O.out (below_drew B922.out) ?_
              · rfl
              · rfl
              intro wz20 h1 h2 h3
              have X_923 := Aside0.mk ((h3 _ NE_X_O.out).trans (blk_drew X_919.out))
              have E_924 := Aside0.mk ((h3 _ (Ne.symm NE_O_E.out)).trans (blk_drew E_920.out))
              have O_925 := Aside0.mk (show wz20.heap[w.heap.size + 1]? = some (.cells (TV (bump (bump (bump (bump (acc) (1 + n * 7)) (1 + n * 7 + 1)) (1 + n * 7 + 2)) (1 + n * 7 + 5))) 56 (0, 0)) from by rw [h1, TV_set, qv5A.out])
              have B926 := Aside0.mk h2
              clear h1 h2 h3 yv5A qv5A X_919 E_920 O_921 B922
              refine hK.out _ _ ?_
              clear hK K
              refine done_ (by kernel_rfl) ?_
              have e1 := (blk_cell E_924.out 1).trans (show (#[.int .i64 i0, .bool false, .int .i64 (n : Int), .int .u64 o1, .int .u64 o2, .int .i64 o3, .int .i64 ia, .bool true, .bool true, .int .i64 6, .bool dn, .int .u64 va] : Array Value)[1]? = some _ from rfl)
              have e2 := (blk_cell E_924.out 2).trans (show (#[.int .i64 i0, .bool false, .int .i64 (n : Int), .int .u64 o1, .int .u64 o2, .int .i64 o3, .int .i64 ia, .bool true, .bool true, .int .i64 6, .bool dn, .int .u64 va] : Array Value)[2]? = some _ from rfl)
              have e7 := (blk_cell E_924.out 7).trans (show (#[.int .i64 i0, .bool false, .int .i64 (n : Int), .int .u64 o1, .int .u64 o2, .int .i64 o3, .int .i64 ia, .bool true, .bool true, .int .i64 6, .bool dn, .int .u64 va] : Array Value)[7]? = some _ from rfl)
              have e8 := (blk_cell E_924.out 8).trans (show (#[.int .i64 i0, .bool false, .int .i64 (n : Int), .int .u64 o1, .int .u64 o2, .int .i64 o3, .int .i64 ia, .bool true, .bool true, .int .i64 6, .bool dn, .int .u64 va] : Array Value)[8]? = some _ from rfl)
              have e9 := (blk_cell E_924.out 9).trans (show (#[.int .i64 i0, .bool false, .int .i64 (n : Int), .int .u64 o1, .int .u64 o2, .int .i64 o3, .int .i64 ia, .bool true, .bool true, .int .i64 6, .bool dn, .int .u64 va] : Array Value)[9]? = some _ from rfl)
              have e10 := (blk_cell E_924.out 10).trans (show (#[.int .i64 i0, .bool false, .int .i64 (n : Int), .int .u64 o1, .int .u64 o2, .int .i64 o3, .int .i64 ia, .bool true, .bool true, .int .i64 6, .bool dn, .int .u64 va] : Array Value)[10]? = some _ from rfl)
              go_wp2_with fail
              go_roundg ko
              case rel => exact ⟨k + 1, by first | rfl | rw [wi], ⟨by have := HK.out; omega⟩, ⟨B926.out⟩, ⟨X_923.out⟩, ⟨by rw [HST.out, HE.out]; exact O_925.out⟩⟩
              case measure => exact Nat.lt_succ_self _
            by_cases c7 : er = 7
            · subst c7
              clear c6
              have HE := Aside0.mk (show stepE acc (toE ⟨i0, false, ⟨(n : Int), o1, o2, o3⟩, ia, true, true, ⟨7, dn, va⟩⟩) = bump (bump (bump (bump acc (1 + n * 7)) (1 + n * 7 + 1)) (1 + n * 7 + 2)) (1 + n * 7 + 6) from by unfold stepE toE; dsimp only; rw [if_neg (by decide), if_neg K1.out, if_neg K8.out, Int.toNat_natCast]; simp [overV])
              go_wp2_with (first
                | ((with_reducible refine wpSt 82 (.tmp 5) (.tmp 17) ?_); refine store_whole (w := w) (B := w.heap.size) rfl rfl 82 (.tmp 5) (.tmp 17) rfl (g := wr.heap.size) (cs := #[.int .i64 i0, .bool false, .int .i64 (n : Int), .int .u64 o1, .int .u64 o2, .int .i64 o3, .int .i64 ia, .bool true, .bool true, .int .i64 7, .bool dn, .int .u64 va]) rfl _ rfl rfl (by kernel_rfl) (by intro q hq; simp only [List.mem_cons, List.not_mem_nil, or_false] at hq; rcases hq with rfl | rfl | rfl | rfl | rfl | rfl | rfl | rfl | rfl | rfl | rfl | rfl <;> rfl) E_904.out (rfl) L_E.out B905.out ?_; intro w_906 h1 h2 h3 h4; have X_907 := Aside0.mk ((h3 _ NE_X_E.out).trans X_902.out); have O_908 := Aside0.mk ((h3 _ NE_O_E.out).trans O_903.out); have E_909 := Aside0.mk (h1); have B910 := Aside0.mk (h2); clear h1 h2 h3 h4 X_902 O_903 E_904 B905; have e1 := (blk_cell E_909.out 1).trans (show (#[.int .i64 i0, .bool false, .int .i64 (n : Int), .int .u64 o1, .int .u64 o2, .int .i64 o3, .int .i64 ia, .bool true, .bool true, .int .i64 7, .bool dn, .int .u64 va] : Array Value)[1]? = some _ from rfl); have e2 := (blk_cell E_909.out 2).trans (show (#[.int .i64 i0, .bool false, .int .i64 (n : Int), .int .u64 o1, .int .u64 o2, .int .i64 o3, .int .i64 ia, .bool true, .bool true, .int .i64 7, .bool dn, .int .u64 va] : Array Value)[2]? = some _ from rfl); have e7 := (blk_cell E_909.out 7).trans (show (#[.int .i64 i0, .bool false, .int .i64 (n : Int), .int .u64 o1, .int .u64 o2, .int .i64 o3, .int .i64 ia, .bool true, .bool true, .int .i64 7, .bool dn, .int .u64 va] : Array Value)[7]? = some _ from rfl); have e8 := (blk_cell E_909.out 8).trans (show (#[.int .i64 i0, .bool false, .int .i64 (n : Int), .int .u64 o1, .int .u64 o2, .int .i64 o3, .int .i64 ia, .bool true, .bool true, .int .i64 7, .bool dn, .int .u64 va] : Array Value)[8]? = some _ from rfl); have e9 := (blk_cell E_909.out 9).trans (show (#[.int .i64 i0, .bool false, .int .i64 (n : Int), .int .u64 o1, .int .u64 o2, .int .i64 o3, .int .i64 ia, .bool true, .bool true, .int .i64 7, .bool dn, .int .u64 va] : Array Value)[9]? = some _ from rfl); have e10 := (blk_cell E_909.out 10).trans (show (#[.int .i64 i0, .bool false, .int .i64 (n : Int), .int .u64 o1, .int .u64 o2, .int .i64 o3, .int .i64 ia, .bool true, .bool true, .int .i64 7, .bool dn, .int .u64 va] : Array Value)[10]? = some _ from rfl)))
              obtain ⟨xv0, yv0, qv0⟩ := bump_at (l := acc) (1 + n * 7) (by (try simp only [bump_len]); have := HLA.out; have := QN.out; omega)
              have yv0A := Aside0.mk yv0
              have qv0A := Aside0.mk qv0
              clear yv0 qv0
              refine start_ (n := 10) (S := fun w' => w'.cell? ⟨w.heap.size + 1, 1 + n * 7, none⟩ = some (.int .i64 xv0)) (ds := [9]) (lb 10 0) (by kernel_rfl) rfl rfl ((blk_cell (blk_drew O_908.out) (1 + n * 7)).trans yv0A.out) (fun hHeld => ?_)
              refine pS (v := ?_) (a' := ?_) 0 (some 33) (lb 10 1) rfl rfl (by kernel_rfl) (fun _ _ _ h => h) (by rfl) ?_ ?_ ?_; rotate_left; (intro w'; go_simp; with_reducible rfl); rotate_left; (simp only [Act.put, List.setIfInBounds_toArray, List.set_cons_zero, List.set_cons_succ, i64_w, i32_w]; rfl)
              refine pS (v := ?_) (a' := ?_) 1 (some 34) (lb 10 3) rfl rfl (by kernel_rfl) (fun _ _ _ h => h) (by rfl) ?_ ?_ ?_; rotate_left; (intro w'; go_simp; with_reducible rfl); rotate_left; (simp only [Act.put, List.setIfInBounds_toArray, List.set_cons_zero, List.set_cons_succ, i64_w, i32_w]; rfl)
              refine pS (v := ?_) (a' := ?_) 2 (some 35) (lb 10 7) rfl rfl (by kernel_rfl) (fun _ _ _ h => h) (by rfl) ?_ ?_ ?_; rotate_left; (intro w'; go_simp; with_reducible rfl); rotate_left; (simp only [Act.put, List.setIfInBounds_toArray, List.set_cons_zero, List.set_cons_succ, i64_w, i32_w]; rfl)
              refine pS (v := ?_) (a' := ?_) 3 (some 36) (lb 10 15) rfl rfl (by kernel_rfl) (fun _ _ _ h => h) (by rfl) ?_ ?_ ?_; rotate_left; (intro w'; go_simp; with_reducible rfl); rotate_left; (simp only [Act.put, List.setIfInBounds_toArray, List.set_cons_zero, List.set_cons_succ, i64_w, i32_w]; rfl)
              refine pS (v := ?_) (a' := ?_) 6 (some 39) (lb 10 79) rfl rfl (by kernel_rfl) (fun _ _ _ h => h) (by rfl) ?_ ?_ ?_; rotate_left; (intro w'; go_simp; with_reducible rfl); rotate_left; (simp only [Act.put, List.setIfInBounds_toArray, List.set_cons_zero, List.set_cons_succ, i64_w, i32_w]; rfl)
              refine pS (v := ?_) (a' := ?_) 7 (some 40) (lb 10 207) rfl rfl (by kernel_rfl) (fun _ _ _ h => h) (by rfl) ?_ ?_ ?_; rotate_left; (intro w'; go_simp; with_reducible rfl); rotate_left; (simp only [Act.put, List.setIfInBounds_toArray, List.set_cons_zero, List.set_cons_succ, i64_w, i32_w]; rfl)
              refine tS (v := ?_) (a' := ?_) 4 (some 37) (lb 10 223) rfl rfl (by kernel_rfl) (fun _ _ _ h => h) hHeld (by rfl) ?_ ?_ ?_; rotate_left; (rintro w' s0; go_simp; with_reducible rfl); rotate_left; (simp only [Act.put, List.setIfInBounds_toArray, List.set_cons_zero, List.set_cons_succ, i64_w, i32_w]; rfl)
              refine pS (v := ?_) (a' := ?_) 5 (some 38) (lb 10 255) rfl rfl (by kernel_rfl) (fun _ _ _ h => h) (by rfl) ?_ ?_ ?_; rotate_left; (intro w'; go_simp; with_reducible rfl); rotate_left; (simp only [Act.put, List.setIfInBounds_toArray, List.set_cons_zero, List.set_cons_succ, i64_w, i32_w]; rfl)
              refine pS (v := ?_) (a' := ?_) 8 (some 41) (lb 10 511) rfl rfl (by kernel_rfl) (fun _ _ _ h => h) (by rfl) ?_ ?_ ?_; rotate_left; (intro w'; go_simp; with_reducible rfl); rotate_left; (simp only [Act.put, List.setIfInBounds_toArray, List.set_cons_zero, List.set_cons_succ, i64_w, i32_w]; rfl)
              refine last_ (i := 9) (N := none) (lb 10 1023) rfl rfl (by kernel_rfl) (by decide) (fun K hK => ?_)
              refine skip_cell (w := w) 3 (.tmp 41) (.tmp 38) (by rfl) rfl rfl (g := w.heap.size + 1) (1 + n * 7) ?_ (.int .i64 (wrap64 (xv0 + 1))) ?_ rfl (by kernel_rfl) rfl (blk_drew O_908.out) (by rw [TV_size]; (try simp only [bump_len]); have := HLA.out; have := QN.out; omega) L_O.out (below_drew B910.out) ?_
              · rfl
              · rfl
              intro wz10 h1 h2 h3
              have X_911 := Aside0.mk ((h3 _ NE_X_O.out).trans (blk_drew X_907.out))
              have E_912 := Aside0.mk ((h3 _ (Ne.symm NE_O_E.out)).trans (blk_drew E_909.out))
              have O_913 := Aside0.mk (show wz10.heap[w.heap.size + 1]? = some (.cells (TV (bump (acc) (1 + n * 7))) 56 (0, 0)) from by rw [h1, TV_set, qv0A.out])
              have B914 := Aside0.mk h2
              clear h1 h2 h3 yv0A qv0A X_907 E_909 O_908 B910
              refine hK.out _ _ ?_
              clear hK K
              refine done_ (by kernel_rfl) ?_
              have e1 := (blk_cell E_912.out 1).trans (show (#[.int .i64 i0, .bool false, .int .i64 (n : Int), .int .u64 o1, .int .u64 o2, .int .i64 o3, .int .i64 ia, .bool true, .bool true, .int .i64 7, .bool dn, .int .u64 va] : Array Value)[1]? = some _ from rfl)
              have e2 := (blk_cell E_912.out 2).trans (show (#[.int .i64 i0, .bool false, .int .i64 (n : Int), .int .u64 o1, .int .u64 o2, .int .i64 o3, .int .i64 ia, .bool true, .bool true, .int .i64 7, .bool dn, .int .u64 va] : Array Value)[2]? = some _ from rfl)
              have e7 := (blk_cell E_912.out 7).trans (show (#[.int .i64 i0, .bool false, .int .i64 (n : Int), .int .u64 o1, .int .u64 o2, .int .i64 o3, .int .i64 ia, .bool true, .bool true, .int .i64 7, .bool dn, .int .u64 va] : Array Value)[7]? = some _ from rfl)
              have e8 := (blk_cell E_912.out 8).trans (show (#[.int .i64 i0, .bool false, .int .i64 (n : Int), .int .u64 o1, .int .u64 o2, .int .i64 o3, .int .i64 ia, .bool true, .bool true, .int .i64 7, .bool dn, .int .u64 va] : Array Value)[8]? = some _ from rfl)
              have e9 := (blk_cell E_912.out 9).trans (show (#[.int .i64 i0, .bool false, .int .i64 (n : Int), .int .u64 o1, .int .u64 o2, .int .i64 o3, .int .i64 ia, .bool true, .bool true, .int .i64 7, .bool dn, .int .u64 va] : Array Value)[9]? = some _ from rfl)
              have e10 := (blk_cell E_912.out 10).trans (show (#[.int .i64 i0, .bool false, .int .i64 (n : Int), .int .u64 o1, .int .u64 o2, .int .i64 o3, .int .i64 ia, .bool true, .bool true, .int .i64 7, .bool dn, .int .u64 va] : Array Value)[10]? = some _ from rfl)
              go_wp2_with fail
              obtain ⟨xv1, yv1, qv1⟩ := bump_at (l := bump (acc) (1 + n * 7)) (1 + n * 7 + 1) (by (try simp only [bump_len]); have := HLA.out; have := QN.out; omega)
              have yv1A := Aside0.mk yv1
              have qv1A := Aside0.mk qv1
              clear yv1 qv1
              refine start_ (n := 10) (S := fun w' => w'.cell? ⟨w.heap.size + 1, 1 + n * 7 + 1, none⟩ = some (.int .i64 xv1)) (ds := [9]) (lb 10 0) (by kernel_rfl) rfl rfl ((blk_cell (blk_drew O_913.out) (1 + n * 7 + 1)).trans yv1A.out) (fun hHeld => ?_)
              refine pS (v := ?_) (a' := ?_) 0 (some 44) (lb 10 1) rfl rfl (by kernel_rfl) (fun _ _ _ h => h) (by rfl) ?_ ?_ ?_; rotate_left; (intro w'; go_simp; with_reducible rfl); rotate_left; (simp only [Act.put, List.setIfInBounds_toArray, List.set_cons_zero, List.set_cons_succ, i64_w, i32_w]; rfl)
              refine pS (v := ?_) (a' := ?_) 1 (some 45) (lb 10 3) rfl rfl (by kernel_rfl) (fun _ _ _ h => h) (by rfl) ?_ ?_ ?_; rotate_left; (intro w'; go_simp; with_reducible rfl); rotate_left; (simp only [Act.put, List.setIfInBounds_toArray, List.set_cons_zero, List.set_cons_succ, i64_w, i32_w]; rfl)
              refine pS (v := ?_) (a' := ?_) 2 (some 46) (lb 10 7) rfl rfl (by kernel_rfl) (fun _ _ _ h => h) (by rfl) ?_ ?_ ?_; rotate_left; (intro w'; go_simp; with_reducible rfl); rotate_left; (simp only [Act.put, List.setIfInBounds_toArray, List.set_cons_zero, List.set_cons_succ, i64_w, i32_w]; rfl)
              refine pS (v := ?_) (a' := ?_) 3 (some 47) (lb 10 15) rfl rfl (by kernel_rfl) (fun _ _ _ h => h) (by rfl) ?_ ?_ ?_; rotate_left; (intro w'; go_simp; with_reducible rfl); rotate_left; (simp only [Act.put, List.setIfInBounds_toArray, List.set_cons_zero, List.set_cons_succ, i64_w, i32_w]; rfl)
              refine pS (v := ?_) (a' := ?_) 6 (some 50) (lb 10 79) rfl rfl (by kernel_rfl) (fun _ _ _ h => h) (by rfl) ?_ ?_ ?_; rotate_left; (intro w'; go_simp; with_reducible rfl); rotate_left; (simp only [Act.put, List.setIfInBounds_toArray, List.set_cons_zero, List.set_cons_succ, i64_w, i32_w]; rfl)
              refine pS (v := ?_) (a' := ?_) 7 (some 51) (lb 10 207) rfl rfl (by kernel_rfl) (fun _ _ _ h => h) (by rfl) ?_ ?_ ?_; rotate_left; (intro w'; go_simp; with_reducible rfl); rotate_left; (simp only [Act.put, List.setIfInBounds_toArray, List.set_cons_zero, List.set_cons_succ, i64_w, i32_w]; rfl)
              refine tS (v := ?_) (a' := ?_) 4 (some 48) (lb 10 223) rfl rfl (by kernel_rfl) (fun _ _ _ h => h) hHeld (by rfl) ?_ ?_ ?_; rotate_left; (rintro w' s0; go_simp; with_reducible rfl); rotate_left; (simp only [Act.put, List.setIfInBounds_toArray, List.set_cons_zero, List.set_cons_succ, i64_w, i32_w]; rfl)
              refine pS (v := ?_) (a' := ?_) 5 (some 49) (lb 10 255) rfl rfl (by kernel_rfl) (fun _ _ _ h => h) (by rfl) ?_ ?_ ?_; rotate_left; (intro w'; go_simp; with_reducible rfl); rotate_left; (simp only [Act.put, List.setIfInBounds_toArray, List.set_cons_zero, List.set_cons_succ, i64_w, i32_w]; rfl)
              refine pS (v := ?_) (a' := ?_) 8 (some 52) (lb 10 511) rfl rfl (by kernel_rfl) (fun _ _ _ h => h) (by rfl) ?_ ?_ ?_; rotate_left; (intro w'; go_simp; with_reducible rfl); rotate_left; (simp only [Act.put, List.setIfInBounds_toArray, List.set_cons_zero, List.set_cons_succ, i64_w, i32_w]; rfl)
              refine last_ (i := 9) (N := none) (lb 10 1023) rfl rfl (by kernel_rfl) (by decide) (fun K hK => ?_)
              refine skip_cell (w := w) 3 (.tmp 52) (.tmp 49) (by rfl) rfl rfl (g := w.heap.size + 1) (1 + n * 7 + 1) ?_ (.int .i64 (wrap64 (xv1 + 1))) ?_ rfl (by kernel_rfl) rfl (blk_drew O_913.out) (by rw [TV_size]; (try simp only [bump_len]); have := HLA.out; have := QN.out; omega) L_O.out (below_drew B914.out) ?_
              · rfl
              · rfl
              intro wz12 h1 h2 h3
              have X_915 := Aside0.mk ((h3 _ NE_X_O.out).trans (blk_drew X_911.out))
              have E_916 := Aside0.mk ((h3 _ (Ne.symm NE_O_E.out)).trans (blk_drew E_912.out))
              have O_917 := Aside0.mk (show wz12.heap[w.heap.size + 1]? = some (.cells (TV (bump (bump (acc) (1 + n * 7)) (1 + n * 7 + 1))) 56 (0, 0)) from by rw [h1, TV_set, qv1A.out])
              have B918 := Aside0.mk h2
              clear h1 h2 h3 yv1A qv1A X_911 E_912 O_913 B914
              refine hK.out _ _ ?_
              clear hK K
              refine done_ (by kernel_rfl) ?_
              have e1 := (blk_cell E_916.out 1).trans (show (#[.int .i64 i0, .bool false, .int .i64 (n : Int), .int .u64 o1, .int .u64 o2, .int .i64 o3, .int .i64 ia, .bool true, .bool true, .int .i64 7, .bool dn, .int .u64 va] : Array Value)[1]? = some _ from rfl)
              have e2 := (blk_cell E_916.out 2).trans (show (#[.int .i64 i0, .bool false, .int .i64 (n : Int), .int .u64 o1, .int .u64 o2, .int .i64 o3, .int .i64 ia, .bool true, .bool true, .int .i64 7, .bool dn, .int .u64 va] : Array Value)[2]? = some _ from rfl)
              have e7 := (blk_cell E_916.out 7).trans (show (#[.int .i64 i0, .bool false, .int .i64 (n : Int), .int .u64 o1, .int .u64 o2, .int .i64 o3, .int .i64 ia, .bool true, .bool true, .int .i64 7, .bool dn, .int .u64 va] : Array Value)[7]? = some _ from rfl)
              have e8 := (blk_cell E_916.out 8).trans (show (#[.int .i64 i0, .bool false, .int .i64 (n : Int), .int .u64 o1, .int .u64 o2, .int .i64 o3, .int .i64 ia, .bool true, .bool true, .int .i64 7, .bool dn, .int .u64 va] : Array Value)[8]? = some _ from rfl)
              have e9 := (blk_cell E_916.out 9).trans (show (#[.int .i64 i0, .bool false, .int .i64 (n : Int), .int .u64 o1, .int .u64 o2, .int .i64 o3, .int .i64 ia, .bool true, .bool true, .int .i64 7, .bool dn, .int .u64 va] : Array Value)[9]? = some _ from rfl)
              have e10 := (blk_cell E_916.out 10).trans (show (#[.int .i64 i0, .bool false, .int .i64 (n : Int), .int .u64 o1, .int .u64 o2, .int .i64 o3, .int .i64 ia, .bool true, .bool true, .int .i64 7, .bool dn, .int .u64 va] : Array Value)[10]? = some _ from rfl)
              go_wp2_with fail
              obtain ⟨xv2, yv2, qv2⟩ := bump_at (l := bump (bump (acc) (1 + n * 7)) (1 + n * 7 + 1)) (1 + n * 7 + 2) (by (try simp only [bump_len]); have := HLA.out; have := QN.out; omega)
              have yv2A := Aside0.mk yv2
              have qv2A := Aside0.mk qv2
              clear yv2 qv2
              refine start_ (n := 10) (S := fun w' => w'.cell? ⟨w.heap.size + 1, 1 + n * 7 + 2, none⟩ = some (.int .i64 xv2)) (ds := [9]) (lb 10 0) (by kernel_rfl) rfl rfl ((blk_cell (blk_drew O_917.out) (1 + n * 7 + 2)).trans yv2A.out) (fun hHeld => ?_)
              refine pS (v := ?_) (a' := ?_) 0 (some 55) (lb 10 1) rfl rfl (by kernel_rfl) (fun _ _ _ h => h) (by rfl) ?_ ?_ ?_; rotate_left; (intro w'; go_simp; with_reducible rfl); rotate_left; (simp only [Act.put, List.setIfInBounds_toArray, List.set_cons_zero, List.set_cons_succ, i64_w, i32_w]; rfl)
              refine pS (v := ?_) (a' := ?_) 1 (some 56) (lb 10 3) rfl rfl (by kernel_rfl) (fun _ _ _ h => h) (by rfl) ?_ ?_ ?_; rotate_left; (intro w'; go_simp; with_reducible rfl); rotate_left; (simp only [Act.put, List.setIfInBounds_toArray, List.set_cons_zero, List.set_cons_succ, i64_w, i32_w]; rfl)
              refine pS (v := ?_) (a' := ?_) 2 (some 57) (lb 10 7) rfl rfl (by kernel_rfl) (fun _ _ _ h => h) (by rfl) ?_ ?_ ?_; rotate_left; (intro w'; go_simp; with_reducible rfl); rotate_left; (simp only [Act.put, List.setIfInBounds_toArray, List.set_cons_zero, List.set_cons_succ, i64_w, i32_w]; rfl)
              refine pS (v := ?_) (a' := ?_) 3 (some 58) (lb 10 15) rfl rfl (by kernel_rfl) (fun _ _ _ h => h) (by rfl) ?_ ?_ ?_; rotate_left; (intro w'; go_simp; with_reducible rfl); rotate_left; (simp only [Act.put, List.setIfInBounds_toArray, List.set_cons_zero, List.set_cons_succ, i64_w, i32_w]; rfl)
              refine pS (v := ?_) (a' := ?_) 6 (some 61) (lb 10 79) rfl rfl (by kernel_rfl) (fun _ _ _ h => h) (by rfl) ?_ ?_ ?_; rotate_left; (intro w'; go_simp; with_reducible rfl); rotate_left; (simp only [Act.put, List.setIfInBounds_toArray, List.set_cons_zero, List.set_cons_succ, i64_w, i32_w]; rfl)
              refine pS (v := ?_) (a' := ?_) 7 (some 62) (lb 10 207) rfl rfl (by kernel_rfl) (fun _ _ _ h => h) (by rfl) ?_ ?_ ?_; rotate_left; (intro w'; go_simp; with_reducible rfl); rotate_left; (simp only [Act.put, List.setIfInBounds_toArray, List.set_cons_zero, List.set_cons_succ, i64_w, i32_w]; rfl)
              refine tS (v := ?_) (a' := ?_) 4 (some 59) (lb 10 223) rfl rfl (by kernel_rfl) (fun _ _ _ h => h) hHeld (by rfl) ?_ ?_ ?_; rotate_left; (rintro w' s0; go_simp; with_reducible rfl); rotate_left; (simp only [Act.put, List.setIfInBounds_toArray, List.set_cons_zero, List.set_cons_succ, i64_w, i32_w]; rfl)
              refine pS (v := ?_) (a' := ?_) 5 (some 60) (lb 10 255) rfl rfl (by kernel_rfl) (fun _ _ _ h => h) (by rfl) ?_ ?_ ?_; rotate_left; (intro w'; go_simp; with_reducible rfl); rotate_left; (simp only [Act.put, List.setIfInBounds_toArray, List.set_cons_zero, List.set_cons_succ, i64_w, i32_w]; rfl)
              refine pS (v := ?_) (a' := ?_) 8 (some 63) (lb 10 511) rfl rfl (by kernel_rfl) (fun _ _ _ h => h) (by rfl) ?_ ?_ ?_; rotate_left; (intro w'; go_simp; with_reducible rfl); rotate_left; (simp only [Act.put, List.setIfInBounds_toArray, List.set_cons_zero, List.set_cons_succ, i64_w, i32_w]; rfl)
              refine last_ (i := 9) (N := none) (lb 10 1023) rfl rfl (by kernel_rfl) (by decide) (fun K hK => ?_)
              refine skip_cell (w := w) 3 (.tmp 63) (.tmp 60) (by rfl) rfl rfl (g := w.heap.size + 1) (1 + n * 7 + 2) ?_ (.int .i64 (wrap64 (xv2 + 1))) ?_ rfl (by kernel_rfl) rfl (blk_drew O_917.out) (by rw [TV_size]; (try simp only [bump_len]); have := HLA.out; have := QN.out; omega) L_O.out (below_drew B918.out) ?_
              · rfl
              · rfl
              intro wz14 h1 h2 h3
              have X_919 := Aside0.mk ((h3 _ NE_X_O.out).trans (blk_drew X_915.out))
              have E_920 := Aside0.mk ((h3 _ (Ne.symm NE_O_E.out)).trans (blk_drew E_916.out))
              have O_921 := Aside0.mk (show wz14.heap[w.heap.size + 1]? = some (.cells (TV (bump (bump (bump (acc) (1 + n * 7)) (1 + n * 7 + 1)) (1 + n * 7 + 2))) 56 (0, 0)) from by rw [h1, TV_set, qv2A.out])
              have B922 := Aside0.mk h2
              clear h1 h2 h3 yv2A qv2A X_915 E_916 O_917 B918
              refine hK.out _ _ ?_
              clear hK K
              refine done_ (by kernel_rfl) ?_
              have e1 := (blk_cell E_920.out 1).trans (show (#[.int .i64 i0, .bool false, .int .i64 (n : Int), .int .u64 o1, .int .u64 o2, .int .i64 o3, .int .i64 ia, .bool true, .bool true, .int .i64 7, .bool dn, .int .u64 va] : Array Value)[1]? = some _ from rfl)
              have e2 := (blk_cell E_920.out 2).trans (show (#[.int .i64 i0, .bool false, .int .i64 (n : Int), .int .u64 o1, .int .u64 o2, .int .i64 o3, .int .i64 ia, .bool true, .bool true, .int .i64 7, .bool dn, .int .u64 va] : Array Value)[2]? = some _ from rfl)
              have e7 := (blk_cell E_920.out 7).trans (show (#[.int .i64 i0, .bool false, .int .i64 (n : Int), .int .u64 o1, .int .u64 o2, .int .i64 o3, .int .i64 ia, .bool true, .bool true, .int .i64 7, .bool dn, .int .u64 va] : Array Value)[7]? = some _ from rfl)
              have e8 := (blk_cell E_920.out 8).trans (show (#[.int .i64 i0, .bool false, .int .i64 (n : Int), .int .u64 o1, .int .u64 o2, .int .i64 o3, .int .i64 ia, .bool true, .bool true, .int .i64 7, .bool dn, .int .u64 va] : Array Value)[8]? = some _ from rfl)
              have e9 := (blk_cell E_920.out 9).trans (show (#[.int .i64 i0, .bool false, .int .i64 (n : Int), .int .u64 o1, .int .u64 o2, .int .i64 o3, .int .i64 ia, .bool true, .bool true, .int .i64 7, .bool dn, .int .u64 va] : Array Value)[9]? = some _ from rfl)
              have e10 := (blk_cell E_920.out 10).trans (show (#[.int .i64 i0, .bool false, .int .i64 (n : Int), .int .u64 o1, .int .u64 o2, .int .i64 o3, .int .i64 ia, .bool true, .bool true, .int .i64 7, .bool dn, .int .u64 va] : Array Value)[10]? = some _ from rfl)
              go_wp2_with fail
              obtain ⟨xv6, yv6, qv6⟩ := bump_at (l := bump (bump (bump (acc) (1 + n * 7)) (1 + n * 7 + 1)) (1 + n * 7 + 2)) (1 + n * 7 + 6) (by (try simp only [bump_len]); have := HLA.out; have := QN.out; omega)
              have yv6A := Aside0.mk yv6
              have qv6A := Aside0.mk qv6
              clear yv6 qv6
              refine start_ (n := 10) (S := fun w' => w'.cell? ⟨w.heap.size + 1, 1 + n * 7 + 6, none⟩ = some (.int .i64 xv6)) (ds := [9]) (lb 10 0) (by kernel_rfl) rfl rfl ((blk_cell (blk_drew O_921.out) (1 + n * 7 + 6)).trans yv6A.out) (fun hHeld => ?_)
              refine pS (v := ?_) (a' := ?_) 0 (some 134) (lb 10 1) rfl rfl (by kernel_rfl) (fun _ _ _ h => h) (by rfl) ?_ ?_ ?_; rotate_left; (intro w'; go_simp; with_reducible rfl); rotate_left; (simp only [Act.put, List.setIfInBounds_toArray, List.set_cons_zero, List.set_cons_succ, i64_w, i32_w]; rfl)
              refine pS (v := ?_) (a' := ?_) 1 (some 135) (lb 10 3) rfl rfl (by kernel_rfl) (fun _ _ _ h => h) (by rfl) ?_ ?_ ?_; rotate_left; (intro w'; go_simp; with_reducible rfl); rotate_left; (simp only [Act.put, List.setIfInBounds_toArray, List.set_cons_zero, List.set_cons_succ, i64_w, i32_w]; rfl)
              refine pS (v := ?_) (a' := ?_) 2 (some 136) (lb 10 7) rfl rfl (by kernel_rfl) (fun _ _ _ h => h) (by rfl) ?_ ?_ ?_; rotate_left; (intro w'; go_simp; with_reducible rfl); rotate_left; (simp only [Act.put, List.setIfInBounds_toArray, List.set_cons_zero, List.set_cons_succ, i64_w, i32_w]; rfl)
              refine pS (v := ?_) (a' := ?_) 3 (some 137) (lb 10 15) rfl rfl (by kernel_rfl) (fun _ _ _ h => h) (by rfl) ?_ ?_ ?_; rotate_left; (intro w'; go_simp; with_reducible rfl); rotate_left; (simp only [Act.put, List.setIfInBounds_toArray, List.set_cons_zero, List.set_cons_succ, i64_w, i32_w]; rfl)
              refine pS (v := ?_) (a' := ?_) 6 (some 140) (lb 10 79) rfl rfl (by kernel_rfl) (fun _ _ _ h => h) (by rfl) ?_ ?_ ?_; rotate_left; (intro w'; go_simp; with_reducible rfl); rotate_left; (simp only [Act.put, List.setIfInBounds_toArray, List.set_cons_zero, List.set_cons_succ, i64_w, i32_w]; rfl)
              refine pS (v := ?_) (a' := ?_) 7 (some 141) (lb 10 207) rfl rfl (by kernel_rfl) (fun _ _ _ h => h) (by rfl) ?_ ?_ ?_; rotate_left; (intro w'; go_simp; with_reducible rfl); rotate_left; (simp only [Act.put, List.setIfInBounds_toArray, List.set_cons_zero, List.set_cons_succ, i64_w, i32_w]; rfl)
              refine tS (v := ?_) (a' := ?_) 4 (some 138) (lb 10 223) rfl rfl (by kernel_rfl) (fun _ _ _ h => h) hHeld (by rfl) ?_ ?_ ?_; rotate_left; (rintro w' s0; go_simp; with_reducible rfl); rotate_left; (simp only [Act.put, List.setIfInBounds_toArray, List.set_cons_zero, List.set_cons_succ, i64_w, i32_w]; rfl)
              refine pS (v := ?_) (a' := ?_) 5 (some 139) (lb 10 255) rfl rfl (by kernel_rfl) (fun _ _ _ h => h) (by rfl) ?_ ?_ ?_; rotate_left; (intro w'; go_simp; with_reducible rfl); rotate_left; (simp only [Act.put, List.setIfInBounds_toArray, List.set_cons_zero, List.set_cons_succ, i64_w, i32_w]; rfl)
              refine pS (v := ?_) (a' := ?_) 8 (some 142) (lb 10 511) rfl rfl (by kernel_rfl) (fun _ _ _ h => h) (by rfl) ?_ ?_ ?_; rotate_left; (intro w'; go_simp; with_reducible rfl); rotate_left; (simp only [Act.put, List.setIfInBounds_toArray, List.set_cons_zero, List.set_cons_succ, i64_w, i32_w]; rfl)
              refine last_ (i := 9) (N := none) (lb 10 1023) rfl rfl (by kernel_rfl) (by decide) (fun K hK => ?_)
              refine skip_cell (w := w) 3 (.tmp 142) (.tmp 139) (by rfl) rfl rfl (g := w.heap.size + 1) (1 + n * 7 + 6) ?_ (.int .i64 (wrap64 (xv6 + 1))) ?_ rfl (by kernel_rfl) rfl (blk_drew O_921.out) (by rw [TV_size]; (try simp only [bump_len]); have := HLA.out; have := QN.out; omega) L_O.out (below_drew B922.out) ?_
              · rfl
              · rfl
              intro wz22 h1 h2 h3
              have X_923 := Aside0.mk ((h3 _ NE_X_O.out).trans (blk_drew X_919.out))
              have E_924 := Aside0.mk ((h3 _ (Ne.symm NE_O_E.out)).trans (blk_drew E_920.out))
              have O_925 := Aside0.mk (show wz22.heap[w.heap.size + 1]? = some (.cells (TV (bump (bump (bump (bump (acc) (1 + n * 7)) (1 + n * 7 + 1)) (1 + n * 7 + 2)) (1 + n * 7 + 6))) 56 (0, 0)) from by rw [h1, TV_set, qv6A.out])
              have B926 := Aside0.mk h2
              clear h1 h2 h3 yv6A qv6A X_919 E_920 O_921 B922
              refine hK.out _ _ ?_
              clear hK K
              refine done_ (by kernel_rfl) ?_
              have e1 := (blk_cell E_924.out 1).trans (show (#[.int .i64 i0, .bool false, .int .i64 (n : Int), .int .u64 o1, .int .u64 o2, .int .i64 o3, .int .i64 ia, .bool true, .bool true, .int .i64 7, .bool dn, .int .u64 va] : Array Value)[1]? = some _ from rfl)
              have e2 := (blk_cell E_924.out 2).trans (show (#[.int .i64 i0, .bool false, .int .i64 (n : Int), .int .u64 o1, .int .u64 o2, .int .i64 o3, .int .i64 ia, .bool true, .bool true, .int .i64 7, .bool dn, .int .u64 va] : Array Value)[2]? = some _ from rfl)
              have e7 := (blk_cell E_924.out 7).trans (show (#[.int .i64 i0, .bool false, .int .i64 (n : Int), .int .u64 o1, .int .u64 o2, .int .i64 o3, .int .i64 ia, .bool true, .bool true, .int .i64 7, .bool dn, .int .u64 va] : Array Value)[7]? = some _ from rfl)
              have e8 := (blk_cell E_924.out 8).trans (show (#[.int .i64 i0, .bool false, .int .i64 (n : Int), .int .u64 o1, .int .u64 o2, .int .i64 o3, .int .i64 ia, .bool true, .bool true, .int .i64 7, .bool dn, .int .u64 va] : Array Value)[8]? = some _ from rfl)
              have e9 := (blk_cell E_924.out 9).trans (show (#[.int .i64 i0, .bool false, .int .i64 (n : Int), .int .u64 o1, .int .u64 o2, .int .i64 o3, .int .i64 ia, .bool true, .bool true, .int .i64 7, .bool dn, .int .u64 va] : Array Value)[9]? = some _ from rfl)
              have e10 := (blk_cell E_924.out 10).trans (show (#[.int .i64 i0, .bool false, .int .i64 (n : Int), .int .u64 o1, .int .u64 o2, .int .i64 o3, .int .i64 ia, .bool true, .bool true, .int .i64 7, .bool dn, .int .u64 va] : Array Value)[10]? = some _ from rfl)
              go_wp2_with fail
              go_roundg ko
              case rel => exact ⟨k + 1, by first | rfl | rw [wi], ⟨by have := HK.out; omega⟩, ⟨B926.out⟩, ⟨X_923.out⟩, ⟨by rw [HST.out, HE.out]; exact O_925.out⟩⟩
              case measure => exact Nat.lt_succ_self _
            by_cases c0 : er = 0
            · subst c0
              clear c6 c7
              cases dn with
              | true =>
                have HE := Aside0.mk (show stepE acc (toE ⟨i0, false, ⟨(n : Int), o1, o2, o3⟩, ia, true, true, ⟨0, true, va⟩⟩) = bump (bump (bump (bump acc (1 + n * 7)) (1 + n * 7 + 1)) (1 + n * 7 + 2)) (1 + n * 7 + 3) from by unfold stepE toE; dsimp only; rw [if_neg (by decide), if_neg K1.out, if_neg K8.out, Int.toNat_natCast]; simp [overV])
                go_wp2_with (first
                  | ((with_reducible refine wpSt 82 (.tmp 5) (.tmp 17) ?_); refine store_whole (w := w) (B := w.heap.size) rfl rfl 82 (.tmp 5) (.tmp 17) rfl (g := wr.heap.size) (cs := #[.int .i64 i0, .bool false, .int .i64 (n : Int), .int .u64 o1, .int .u64 o2, .int .i64 o3, .int .i64 ia, .bool true, .bool true, .int .i64 0, .bool true, .int .u64 va]) rfl _ rfl rfl (by kernel_rfl) (by intro q hq; simp only [List.mem_cons, List.not_mem_nil, or_false] at hq; rcases hq with rfl | rfl | rfl | rfl | rfl | rfl | rfl | rfl | rfl | rfl | rfl | rfl <;> rfl) E_904.out (rfl) L_E.out B905.out ?_; intro w_906 h1 h2 h3 h4; have X_907 := Aside0.mk ((h3 _ NE_X_E.out).trans X_902.out); have O_908 := Aside0.mk ((h3 _ NE_O_E.out).trans O_903.out); have E_909 := Aside0.mk (h1); have B910 := Aside0.mk (h2); clear h1 h2 h3 h4 X_902 O_903 E_904 B905; have e1 := (blk_cell E_909.out 1).trans (show (#[.int .i64 i0, .bool false, .int .i64 (n : Int), .int .u64 o1, .int .u64 o2, .int .i64 o3, .int .i64 ia, .bool true, .bool true, .int .i64 0, .bool true, .int .u64 va] : Array Value)[1]? = some _ from rfl); have e2 := (blk_cell E_909.out 2).trans (show (#[.int .i64 i0, .bool false, .int .i64 (n : Int), .int .u64 o1, .int .u64 o2, .int .i64 o3, .int .i64 ia, .bool true, .bool true, .int .i64 0, .bool true, .int .u64 va] : Array Value)[2]? = some _ from rfl); have e7 := (blk_cell E_909.out 7).trans (show (#[.int .i64 i0, .bool false, .int .i64 (n : Int), .int .u64 o1, .int .u64 o2, .int .i64 o3, .int .i64 ia, .bool true, .bool true, .int .i64 0, .bool true, .int .u64 va] : Array Value)[7]? = some _ from rfl); have e8 := (blk_cell E_909.out 8).trans (show (#[.int .i64 i0, .bool false, .int .i64 (n : Int), .int .u64 o1, .int .u64 o2, .int .i64 o3, .int .i64 ia, .bool true, .bool true, .int .i64 0, .bool true, .int .u64 va] : Array Value)[8]? = some _ from rfl); have e9 := (blk_cell E_909.out 9).trans (show (#[.int .i64 i0, .bool false, .int .i64 (n : Int), .int .u64 o1, .int .u64 o2, .int .i64 o3, .int .i64 ia, .bool true, .bool true, .int .i64 0, .bool true, .int .u64 va] : Array Value)[9]? = some _ from rfl); have e10 := (blk_cell E_909.out 10).trans (show (#[.int .i64 i0, .bool false, .int .i64 (n : Int), .int .u64 o1, .int .u64 o2, .int .i64 o3, .int .i64 ia, .bool true, .bool true, .int .i64 0, .bool true, .int .u64 va] : Array Value)[10]? = some _ from rfl)))
                obtain ⟨xv0, yv0, qv0⟩ := bump_at (l := acc) (1 + n * 7) (by (try simp only [bump_len]); have := HLA.out; have := QN.out; omega)
                have yv0A := Aside0.mk yv0
                have qv0A := Aside0.mk qv0
                clear yv0 qv0
                refine start_ (n := 10) (S := fun w' => w'.cell? ⟨w.heap.size + 1, 1 + n * 7, none⟩ = some (.int .i64 xv0)) (ds := [9]) (lb 10 0) (by kernel_rfl) rfl rfl ((blk_cell (blk_drew O_908.out) (1 + n * 7)).trans yv0A.out) (fun hHeld => ?_)
                refine pS (v := ?_) (a' := ?_) 0 (some 33) (lb 10 1) rfl rfl (by kernel_rfl) (fun _ _ _ h => h) (by rfl) ?_ ?_ ?_; rotate_left; (intro w'; go_simp; with_reducible rfl); rotate_left; (simp only [Act.put, List.setIfInBounds_toArray, List.set_cons_zero, List.set_cons_succ, i64_w, i32_w]; rfl)
                refine pS (v := ?_) (a' := ?_) 1 (some 34) (lb 10 3) rfl rfl (by kernel_rfl) (fun _ _ _ h => h) (by rfl) ?_ ?_ ?_; rotate_left; (intro w'; go_simp; with_reducible rfl); rotate_left; (simp only [Act.put, List.setIfInBounds_toArray, List.set_cons_zero, List.set_cons_succ, i64_w, i32_w]; rfl)
                refine pS (v := ?_) (a' := ?_) 2 (some 35) (lb 10 7) rfl rfl (by kernel_rfl) (fun _ _ _ h => h) (by rfl) ?_ ?_ ?_; rotate_left; (intro w'; go_simp; with_reducible rfl); rotate_left; (simp only [Act.put, List.setIfInBounds_toArray, List.set_cons_zero, List.set_cons_succ, i64_w, i32_w]; rfl)
                refine pS (v := ?_) (a' := ?_) 3 (some 36) (lb 10 15) rfl rfl (by kernel_rfl) (fun _ _ _ h => h) (by rfl) ?_ ?_ ?_; rotate_left; (intro w'; go_simp; with_reducible rfl); rotate_left; (simp only [Act.put, List.setIfInBounds_toArray, List.set_cons_zero, List.set_cons_succ, i64_w, i32_w]; rfl)
                refine pS (v := ?_) (a' := ?_) 6 (some 39) (lb 10 79) rfl rfl (by kernel_rfl) (fun _ _ _ h => h) (by rfl) ?_ ?_ ?_; rotate_left; (intro w'; go_simp; with_reducible rfl); rotate_left; (simp only [Act.put, List.setIfInBounds_toArray, List.set_cons_zero, List.set_cons_succ, i64_w, i32_w]; rfl)
                refine pS (v := ?_) (a' := ?_) 7 (some 40) (lb 10 207) rfl rfl (by kernel_rfl) (fun _ _ _ h => h) (by rfl) ?_ ?_ ?_; rotate_left; (intro w'; go_simp; with_reducible rfl); rotate_left; (simp only [Act.put, List.setIfInBounds_toArray, List.set_cons_zero, List.set_cons_succ, i64_w, i32_w]; rfl)
                refine tS (v := ?_) (a' := ?_) 4 (some 37) (lb 10 223) rfl rfl (by kernel_rfl) (fun _ _ _ h => h) hHeld (by rfl) ?_ ?_ ?_; rotate_left; (rintro w' s0; go_simp; with_reducible rfl); rotate_left; (simp only [Act.put, List.setIfInBounds_toArray, List.set_cons_zero, List.set_cons_succ, i64_w, i32_w]; rfl)
                refine pS (v := ?_) (a' := ?_) 5 (some 38) (lb 10 255) rfl rfl (by kernel_rfl) (fun _ _ _ h => h) (by rfl) ?_ ?_ ?_; rotate_left; (intro w'; go_simp; with_reducible rfl); rotate_left; (simp only [Act.put, List.setIfInBounds_toArray, List.set_cons_zero, List.set_cons_succ, i64_w, i32_w]; rfl)
                refine pS (v := ?_) (a' := ?_) 8 (some 41) (lb 10 511) rfl rfl (by kernel_rfl) (fun _ _ _ h => h) (by rfl) ?_ ?_ ?_; rotate_left; (intro w'; go_simp; with_reducible rfl); rotate_left; (simp only [Act.put, List.setIfInBounds_toArray, List.set_cons_zero, List.set_cons_succ, i64_w, i32_w]; rfl)
                refine last_ (i := 9) (N := none) (lb 10 1023) rfl rfl (by kernel_rfl) (by decide) (fun K hK => ?_)
                refine skip_cell (w := w) 3 (.tmp 41) (.tmp 38) (by rfl) rfl rfl (g := w.heap.size + 1) (1 + n * 7) ?_ (.int .i64 (wrap64 (xv0 + 1))) ?_ rfl (by kernel_rfl) rfl (blk_drew O_908.out) (by rw [TV_size]; (try simp only [bump_len]); have := HLA.out; have := QN.out; omega) L_O.out (below_drew B910.out) ?_
                · rfl
                · rfl
                intro wz10 h1 h2 h3
                have X_911 := Aside0.mk ((h3 _ NE_X_O.out).trans (blk_drew X_907.out))
                have E_912 := Aside0.mk ((h3 _ (Ne.symm NE_O_E.out)).trans (blk_drew E_909.out))
                have O_913 := Aside0.mk (show wz10.heap[w.heap.size + 1]? = some (.cells (TV (bump (acc) (1 + n * 7))) 56 (0, 0)) from by rw [h1, TV_set, qv0A.out])
                have B914 := Aside0.mk h2
                clear h1 h2 h3 yv0A qv0A X_907 E_909 O_908 B910
                refine hK.out _ _ ?_
                clear hK K
                refine done_ (by kernel_rfl) ?_
                have e1 := (blk_cell E_912.out 1).trans (show (#[.int .i64 i0, .bool false, .int .i64 (n : Int), .int .u64 o1, .int .u64 o2, .int .i64 o3, .int .i64 ia, .bool true, .bool true, .int .i64 0, .bool true, .int .u64 va] : Array Value)[1]? = some _ from rfl)
                have e2 := (blk_cell E_912.out 2).trans (show (#[.int .i64 i0, .bool false, .int .i64 (n : Int), .int .u64 o1, .int .u64 o2, .int .i64 o3, .int .i64 ia, .bool true, .bool true, .int .i64 0, .bool true, .int .u64 va] : Array Value)[2]? = some _ from rfl)
                have e7 := (blk_cell E_912.out 7).trans (show (#[.int .i64 i0, .bool false, .int .i64 (n : Int), .int .u64 o1, .int .u64 o2, .int .i64 o3, .int .i64 ia, .bool true, .bool true, .int .i64 0, .bool true, .int .u64 va] : Array Value)[7]? = some _ from rfl)
                have e8 := (blk_cell E_912.out 8).trans (show (#[.int .i64 i0, .bool false, .int .i64 (n : Int), .int .u64 o1, .int .u64 o2, .int .i64 o3, .int .i64 ia, .bool true, .bool true, .int .i64 0, .bool true, .int .u64 va] : Array Value)[8]? = some _ from rfl)
                have e9 := (blk_cell E_912.out 9).trans (show (#[.int .i64 i0, .bool false, .int .i64 (n : Int), .int .u64 o1, .int .u64 o2, .int .i64 o3, .int .i64 ia, .bool true, .bool true, .int .i64 0, .bool true, .int .u64 va] : Array Value)[9]? = some _ from rfl)
                have e10 := (blk_cell E_912.out 10).trans (show (#[.int .i64 i0, .bool false, .int .i64 (n : Int), .int .u64 o1, .int .u64 o2, .int .i64 o3, .int .i64 ia, .bool true, .bool true, .int .i64 0, .bool true, .int .u64 va] : Array Value)[10]? = some _ from rfl)
                go_wp2_with fail
                obtain ⟨xv1, yv1, qv1⟩ := bump_at (l := bump (acc) (1 + n * 7)) (1 + n * 7 + 1) (by (try simp only [bump_len]); have := HLA.out; have := QN.out; omega)
                have yv1A := Aside0.mk yv1
                have qv1A := Aside0.mk qv1
                clear yv1 qv1
                refine start_ (n := 10) (S := fun w' => w'.cell? ⟨w.heap.size + 1, 1 + n * 7 + 1, none⟩ = some (.int .i64 xv1)) (ds := [9]) (lb 10 0) (by kernel_rfl) rfl rfl ((blk_cell (blk_drew O_913.out) (1 + n * 7 + 1)).trans yv1A.out) (fun hHeld => ?_)
                refine pS (v := ?_) (a' := ?_) 0 (some 44) (lb 10 1) rfl rfl (by kernel_rfl) (fun _ _ _ h => h) (by rfl) ?_ ?_ ?_; rotate_left; (intro w'; go_simp; with_reducible rfl); rotate_left; (simp only [Act.put, List.setIfInBounds_toArray, List.set_cons_zero, List.set_cons_succ, i64_w, i32_w]; rfl)
                refine pS (v := ?_) (a' := ?_) 1 (some 45) (lb 10 3) rfl rfl (by kernel_rfl) (fun _ _ _ h => h) (by rfl) ?_ ?_ ?_; rotate_left; (intro w'; go_simp; with_reducible rfl); rotate_left; (simp only [Act.put, List.setIfInBounds_toArray, List.set_cons_zero, List.set_cons_succ, i64_w, i32_w]; rfl)
                refine pS (v := ?_) (a' := ?_) 2 (some 46) (lb 10 7) rfl rfl (by kernel_rfl) (fun _ _ _ h => h) (by rfl) ?_ ?_ ?_; rotate_left; (intro w'; go_simp; with_reducible rfl); rotate_left; (simp only [Act.put, List.setIfInBounds_toArray, List.set_cons_zero, List.set_cons_succ, i64_w, i32_w]; rfl)
                refine pS (v := ?_) (a' := ?_) 3 (some 47) (lb 10 15) rfl rfl (by kernel_rfl) (fun _ _ _ h => h) (by rfl) ?_ ?_ ?_; rotate_left; (intro w'; go_simp; with_reducible rfl); rotate_left; (simp only [Act.put, List.setIfInBounds_toArray, List.set_cons_zero, List.set_cons_succ, i64_w, i32_w]; rfl)
                refine pS (v := ?_) (a' := ?_) 6 (some 50) (lb 10 79) rfl rfl (by kernel_rfl) (fun _ _ _ h => h) (by rfl) ?_ ?_ ?_; rotate_left; (intro w'; go_simp; with_reducible rfl); rotate_left; (simp only [Act.put, List.setIfInBounds_toArray, List.set_cons_zero, List.set_cons_succ, i64_w, i32_w]; rfl)
                refine pS (v := ?_) (a' := ?_) 7 (some 51) (lb 10 207) rfl rfl (by kernel_rfl) (fun _ _ _ h => h) (by rfl) ?_ ?_ ?_; rotate_left; (intro w'; go_simp; with_reducible rfl); rotate_left; (simp only [Act.put, List.setIfInBounds_toArray, List.set_cons_zero, List.set_cons_succ, i64_w, i32_w]; rfl)
                refine tS (v := ?_) (a' := ?_) 4 (some 48) (lb 10 223) rfl rfl (by kernel_rfl) (fun _ _ _ h => h) hHeld (by rfl) ?_ ?_ ?_; rotate_left; (rintro w' s0; go_simp; with_reducible rfl); rotate_left; (simp only [Act.put, List.setIfInBounds_toArray, List.set_cons_zero, List.set_cons_succ, i64_w, i32_w]; rfl)
                refine pS (v := ?_) (a' := ?_) 5 (some 49) (lb 10 255) rfl rfl (by kernel_rfl) (fun _ _ _ h => h) (by rfl) ?_ ?_ ?_; rotate_left; (intro w'; go_simp; with_reducible rfl); rotate_left; (simp only [Act.put, List.setIfInBounds_toArray, List.set_cons_zero, List.set_cons_succ, i64_w, i32_w]; rfl)
                refine pS (v := ?_) (a' := ?_) 8 (some 52) (lb 10 511) rfl rfl (by kernel_rfl) (fun _ _ _ h => h) (by rfl) ?_ ?_ ?_; rotate_left; (intro w'; go_simp; with_reducible rfl); rotate_left; (simp only [Act.put, List.setIfInBounds_toArray, List.set_cons_zero, List.set_cons_succ, i64_w, i32_w]; rfl)
                refine last_ (i := 9) (N := none) (lb 10 1023) rfl rfl (by kernel_rfl) (by decide) (fun K hK => ?_)
                refine skip_cell (w := w) 3 (.tmp 52) (.tmp 49) (by rfl) rfl rfl (g := w.heap.size + 1) (1 + n * 7 + 1) ?_ (.int .i64 (wrap64 (xv1 + 1))) ?_ rfl (by kernel_rfl) rfl (blk_drew O_913.out) (by rw [TV_size]; (try simp only [bump_len]); have := HLA.out; have := QN.out; omega) L_O.out (below_drew B914.out) ?_
                · rfl
                · rfl
                intro wz12 h1 h2 h3
                have X_915 := Aside0.mk ((h3 _ NE_X_O.out).trans (blk_drew X_911.out))
                have E_916 := Aside0.mk ((h3 _ (Ne.symm NE_O_E.out)).trans (blk_drew E_912.out))
                have O_917 := Aside0.mk (show wz12.heap[w.heap.size + 1]? = some (.cells (TV (bump (bump (acc) (1 + n * 7)) (1 + n * 7 + 1))) 56 (0, 0)) from by rw [h1, TV_set, qv1A.out])
                have B918 := Aside0.mk h2
                clear h1 h2 h3 yv1A qv1A X_911 E_912 O_913 B914
                refine hK.out _ _ ?_
                clear hK K
                refine done_ (by kernel_rfl) ?_
                have e1 := (blk_cell E_916.out 1).trans (show (#[.int .i64 i0, .bool false, .int .i64 (n : Int), .int .u64 o1, .int .u64 o2, .int .i64 o3, .int .i64 ia, .bool true, .bool true, .int .i64 0, .bool true, .int .u64 va] : Array Value)[1]? = some _ from rfl)
                have e2 := (blk_cell E_916.out 2).trans (show (#[.int .i64 i0, .bool false, .int .i64 (n : Int), .int .u64 o1, .int .u64 o2, .int .i64 o3, .int .i64 ia, .bool true, .bool true, .int .i64 0, .bool true, .int .u64 va] : Array Value)[2]? = some _ from rfl)
                have e7 := (blk_cell E_916.out 7).trans (show (#[.int .i64 i0, .bool false, .int .i64 (n : Int), .int .u64 o1, .int .u64 o2, .int .i64 o3, .int .i64 ia, .bool true, .bool true, .int .i64 0, .bool true, .int .u64 va] : Array Value)[7]? = some _ from rfl)
                have e8 := (blk_cell E_916.out 8).trans (show (#[.int .i64 i0, .bool false, .int .i64 (n : Int), .int .u64 o1, .int .u64 o2, .int .i64 o3, .int .i64 ia, .bool true, .bool true, .int .i64 0, .bool true, .int .u64 va] : Array Value)[8]? = some _ from rfl)
                have e9 := (blk_cell E_916.out 9).trans (show (#[.int .i64 i0, .bool false, .int .i64 (n : Int), .int .u64 o1, .int .u64 o2, .int .i64 o3, .int .i64 ia, .bool true, .bool true, .int .i64 0, .bool true, .int .u64 va] : Array Value)[9]? = some _ from rfl)
                have e10 := (blk_cell E_916.out 10).trans (show (#[.int .i64 i0, .bool false, .int .i64 (n : Int), .int .u64 o1, .int .u64 o2, .int .i64 o3, .int .i64 ia, .bool true, .bool true, .int .i64 0, .bool true, .int .u64 va] : Array Value)[10]? = some _ from rfl)
                go_wp2_with fail
                obtain ⟨xv2, yv2, qv2⟩ := bump_at (l := bump (bump (acc) (1 + n * 7)) (1 + n * 7 + 1)) (1 + n * 7 + 2) (by (try simp only [bump_len]); have := HLA.out; have := QN.out; omega)
                have yv2A := Aside0.mk yv2
                have qv2A := Aside0.mk qv2
                clear yv2 qv2
                refine start_ (n := 10) (S := fun w' => w'.cell? ⟨w.heap.size + 1, 1 + n * 7 + 2, none⟩ = some (.int .i64 xv2)) (ds := [9]) (lb 10 0) (by kernel_rfl) rfl rfl ((blk_cell (blk_drew O_917.out) (1 + n * 7 + 2)).trans yv2A.out) (fun hHeld => ?_)
                refine pS (v := ?_) (a' := ?_) 0 (some 55) (lb 10 1) rfl rfl (by kernel_rfl) (fun _ _ _ h => h) (by rfl) ?_ ?_ ?_; rotate_left; (intro w'; go_simp; with_reducible rfl); rotate_left; (simp only [Act.put, List.setIfInBounds_toArray, List.set_cons_zero, List.set_cons_succ, i64_w, i32_w]; rfl)
                refine pS (v := ?_) (a' := ?_) 1 (some 56) (lb 10 3) rfl rfl (by kernel_rfl) (fun _ _ _ h => h) (by rfl) ?_ ?_ ?_; rotate_left; (intro w'; go_simp; with_reducible rfl); rotate_left; (simp only [Act.put, List.setIfInBounds_toArray, List.set_cons_zero, List.set_cons_succ, i64_w, i32_w]; rfl)
                refine pS (v := ?_) (a' := ?_) 2 (some 57) (lb 10 7) rfl rfl (by kernel_rfl) (fun _ _ _ h => h) (by rfl) ?_ ?_ ?_; rotate_left; (intro w'; go_simp; with_reducible rfl); rotate_left; (simp only [Act.put, List.setIfInBounds_toArray, List.set_cons_zero, List.set_cons_succ, i64_w, i32_w]; rfl)
                refine pS (v := ?_) (a' := ?_) 3 (some 58) (lb 10 15) rfl rfl (by kernel_rfl) (fun _ _ _ h => h) (by rfl) ?_ ?_ ?_; rotate_left; (intro w'; go_simp; with_reducible rfl); rotate_left; (simp only [Act.put, List.setIfInBounds_toArray, List.set_cons_zero, List.set_cons_succ, i64_w, i32_w]; rfl)
                refine pS (v := ?_) (a' := ?_) 6 (some 61) (lb 10 79) rfl rfl (by kernel_rfl) (fun _ _ _ h => h) (by rfl) ?_ ?_ ?_; rotate_left; (intro w'; go_simp; with_reducible rfl); rotate_left; (simp only [Act.put, List.setIfInBounds_toArray, List.set_cons_zero, List.set_cons_succ, i64_w, i32_w]; rfl)
                refine pS (v := ?_) (a' := ?_) 7 (some 62) (lb 10 207) rfl rfl (by kernel_rfl) (fun _ _ _ h => h) (by rfl) ?_ ?_ ?_; rotate_left; (intro w'; go_simp; with_reducible rfl); rotate_left; (simp only [Act.put, List.setIfInBounds_toArray, List.set_cons_zero, List.set_cons_succ, i64_w, i32_w]; rfl)
                refine tS (v := ?_) (a' := ?_) 4 (some 59) (lb 10 223) rfl rfl (by kernel_rfl) (fun _ _ _ h => h) hHeld (by rfl) ?_ ?_ ?_; rotate_left; (rintro w' s0; go_simp; with_reducible rfl); rotate_left; (simp only [Act.put, List.setIfInBounds_toArray, List.set_cons_zero, List.set_cons_succ, i64_w, i32_w]; rfl)
                refine pS (v := ?_) (a' := ?_) 5 (some 60) (lb 10 255) rfl rfl (by kernel_rfl) (fun _ _ _ h => h) (by rfl) ?_ ?_ ?_; rotate_left; (intro w'; go_simp; with_reducible rfl); rotate_left; (simp only [Act.put, List.setIfInBounds_toArray, List.set_cons_zero, List.set_cons_succ, i64_w, i32_w]; rfl)
                refine pS (v := ?_) (a' := ?_) 8 (some 63) (lb 10 511) rfl rfl (by kernel_rfl) (fun _ _ _ h => h) (by rfl) ?_ ?_ ?_; rotate_left; (intro w'; go_simp; with_reducible rfl); rotate_left; (simp only [Act.put, List.setIfInBounds_toArray, List.set_cons_zero, List.set_cons_succ, i64_w, i32_w]; rfl)
                refine last_ (i := 9) (N := none) (lb 10 1023) rfl rfl (by kernel_rfl) (by decide) (fun K hK => ?_)
                refine skip_cell (w := w) 3 (.tmp 63) (.tmp 60) (by rfl) rfl rfl (g := w.heap.size + 1) (1 + n * 7 + 2) ?_ (.int .i64 (wrap64 (xv2 + 1))) ?_ rfl (by kernel_rfl) rfl (blk_drew O_917.out) (by rw [TV_size]; (try simp only [bump_len]); have := HLA.out; have := QN.out; omega) L_O.out (below_drew B918.out) ?_
                · rfl
                · rfl
                intro wz14 h1 h2 h3
                have X_919 := Aside0.mk ((h3 _ NE_X_O.out).trans (blk_drew X_915.out))
                have E_920 := Aside0.mk ((h3 _ (Ne.symm NE_O_E.out)).trans (blk_drew E_916.out))
                have O_921 := Aside0.mk (show wz14.heap[w.heap.size + 1]? = some (.cells (TV (bump (bump (bump (acc) (1 + n * 7)) (1 + n * 7 + 1)) (1 + n * 7 + 2))) 56 (0, 0)) from by rw [h1, TV_set, qv2A.out])
                have B922 := Aside0.mk h2
                clear h1 h2 h3 yv2A qv2A X_915 E_916 O_917 B918
                refine hK.out _ _ ?_
                clear hK K
                refine done_ (by kernel_rfl) ?_
                have e1 := (blk_cell E_920.out 1).trans (show (#[.int .i64 i0, .bool false, .int .i64 (n : Int), .int .u64 o1, .int .u64 o2, .int .i64 o3, .int .i64 ia, .bool true, .bool true, .int .i64 0, .bool true, .int .u64 va] : Array Value)[1]? = some _ from rfl)
                have e2 := (blk_cell E_920.out 2).trans (show (#[.int .i64 i0, .bool false, .int .i64 (n : Int), .int .u64 o1, .int .u64 o2, .int .i64 o3, .int .i64 ia, .bool true, .bool true, .int .i64 0, .bool true, .int .u64 va] : Array Value)[2]? = some _ from rfl)
                have e7 := (blk_cell E_920.out 7).trans (show (#[.int .i64 i0, .bool false, .int .i64 (n : Int), .int .u64 o1, .int .u64 o2, .int .i64 o3, .int .i64 ia, .bool true, .bool true, .int .i64 0, .bool true, .int .u64 va] : Array Value)[7]? = some _ from rfl)
                have e8 := (blk_cell E_920.out 8).trans (show (#[.int .i64 i0, .bool false, .int .i64 (n : Int), .int .u64 o1, .int .u64 o2, .int .i64 o3, .int .i64 ia, .bool true, .bool true, .int .i64 0, .bool true, .int .u64 va] : Array Value)[8]? = some _ from rfl)
                have e9 := (blk_cell E_920.out 9).trans (show (#[.int .i64 i0, .bool false, .int .i64 (n : Int), .int .u64 o1, .int .u64 o2, .int .i64 o3, .int .i64 ia, .bool true, .bool true, .int .i64 0, .bool true, .int .u64 va] : Array Value)[9]? = some _ from rfl)
                have e10 := (blk_cell E_920.out 10).trans (show (#[.int .i64 i0, .bool false, .int .i64 (n : Int), .int .u64 o1, .int .u64 o2, .int .i64 o3, .int .i64 ia, .bool true, .bool true, .int .i64 0, .bool true, .int .u64 va] : Array Value)[10]? = some _ from rfl)
                go_wp2_with fail
                obtain ⟨xv3, yv3, qv3⟩ := bump_at (l := bump (bump (bump (acc) (1 + n * 7)) (1 + n * 7 + 1)) (1 + n * 7 + 2)) (1 + n * 7 + 3) (by (try simp only [bump_len]); have := HLA.out; have := QN.out; omega)
                have yv3A := Aside0.mk yv3
                have qv3A := Aside0.mk qv3
                clear yv3 qv3
                refine start_ (n := 10) (S := fun w' => w'.cell? ⟨w.heap.size + 1, 1 + n * 7 + 3, none⟩ = some (.int .i64 xv3)) (ds := [9]) (lb 10 0) (by kernel_rfl) rfl rfl ((blk_cell (blk_drew O_921.out) (1 + n * 7 + 3)).trans yv3A.out) (fun hHeld => ?_)
                refine pS (v := ?_) (a' := ?_) 0 (some 77) (lb 10 1) rfl rfl (by kernel_rfl) (fun _ _ _ h => h) (by rfl) ?_ ?_ ?_; rotate_left; (intro w'; go_simp; with_reducible rfl); rotate_left; (simp only [Act.put, List.setIfInBounds_toArray, List.set_cons_zero, List.set_cons_succ, i64_w, i32_w]; rfl)
                refine pS (v := ?_) (a' := ?_) 1 (some 78) (lb 10 3) rfl rfl (by kernel_rfl) (fun _ _ _ h => h) (by rfl) ?_ ?_ ?_; rotate_left; (intro w'; go_simp; with_reducible rfl); rotate_left; (simp only [Act.put, List.setIfInBounds_toArray, List.set_cons_zero, List.set_cons_succ, i64_w, i32_w]; rfl)
                refine pS (v := ?_) (a' := ?_) 2 (some 79) (lb 10 7) rfl rfl (by kernel_rfl) (fun _ _ _ h => h) (by rfl) ?_ ?_ ?_; rotate_left; (intro w'; go_simp; with_reducible rfl); rotate_left; (simp only [Act.put, List.setIfInBounds_toArray, List.set_cons_zero, List.set_cons_succ, i64_w, i32_w]; rfl)
                refine pS (v := ?_) (a' := ?_) 3 (some 80) (lb 10 15) rfl rfl (by kernel_rfl) (fun _ _ _ h => h) (by rfl) ?_ ?_ ?_; rotate_left; (intro w'; go_simp; with_reducible rfl); rotate_left; (simp only [Act.put, List.setIfInBounds_toArray, List.set_cons_zero, List.set_cons_succ, i64_w, i32_w]; rfl)
                refine pS (v := ?_) (a' := ?_) 6 (some 83) (lb 10 79) rfl rfl (by kernel_rfl) (fun _ _ _ h => h) (by rfl) ?_ ?_ ?_; rotate_left; (intro w'; go_simp; with_reducible rfl); rotate_left; (simp only [Act.put, List.setIfInBounds_toArray, List.set_cons_zero, List.set_cons_succ, i64_w, i32_w]; rfl)
                refine pS (v := ?_) (a' := ?_) 7 (some 84) (lb 10 207) rfl rfl (by kernel_rfl) (fun _ _ _ h => h) (by rfl) ?_ ?_ ?_; rotate_left; (intro w'; go_simp; with_reducible rfl); rotate_left; (simp only [Act.put, List.setIfInBounds_toArray, List.set_cons_zero, List.set_cons_succ, i64_w, i32_w]; rfl)
                refine tS (v := ?_) (a' := ?_) 4 (some 81) (lb 10 223) rfl rfl (by kernel_rfl) (fun _ _ _ h => h) hHeld (by rfl) ?_ ?_ ?_; rotate_left; (rintro w' s0; go_simp; with_reducible rfl); rotate_left; (simp only [Act.put, List.setIfInBounds_toArray, List.set_cons_zero, List.set_cons_succ, i64_w, i32_w]; rfl)
                refine pS (v := ?_) (a' := ?_) 5 (some 82) (lb 10 255) rfl rfl (by kernel_rfl) (fun _ _ _ h => h) (by rfl) ?_ ?_ ?_; rotate_left; (intro w'; go_simp; with_reducible rfl); rotate_left; (simp only [Act.put, List.setIfInBounds_toArray, List.set_cons_zero, List.set_cons_succ, i64_w, i32_w]; rfl)
                refine pS (v := ?_) (a' := ?_) 8 (some 85) (lb 10 511) rfl rfl (by kernel_rfl) (fun _ _ _ h => h) (by rfl) ?_ ?_ ?_; rotate_left; (intro w'; go_simp; with_reducible rfl); rotate_left; (simp only [Act.put, List.setIfInBounds_toArray, List.set_cons_zero, List.set_cons_succ, i64_w, i32_w]; rfl)
                refine last_ (i := 9) (N := none) (lb 10 1023) rfl rfl (by kernel_rfl) (by decide) (fun K hK => ?_)
                refine skip_cell (w := w) 3 (.tmp 85) (.tmp 82) (by rfl) rfl rfl (g := w.heap.size + 1) (1 + n * 7 + 3) ?_ (.int .i64 (wrap64 (xv3 + 1))) ?_ rfl (by kernel_rfl) rfl (blk_drew O_921.out) (by rw [TV_size]; (try simp only [bump_len]); have := HLA.out; have := QN.out; omega) L_O.out (below_drew B922.out) ?_
                · rfl
                · rfl
                intro wz16 h1 h2 h3
                have X_923 := Aside0.mk ((h3 _ NE_X_O.out).trans (blk_drew X_919.out))
                have E_924 := Aside0.mk ((h3 _ (Ne.symm NE_O_E.out)).trans (blk_drew E_920.out))
                have O_925 := Aside0.mk (show wz16.heap[w.heap.size + 1]? = some (.cells (TV (bump (bump (bump (bump (acc) (1 + n * 7)) (1 + n * 7 + 1)) (1 + n * 7 + 2)) (1 + n * 7 + 3))) 56 (0, 0)) from by rw [h1, TV_set, qv3A.out])
                have B926 := Aside0.mk h2
                clear h1 h2 h3 yv3A qv3A X_919 E_920 O_921 B922
                refine hK.out _ _ ?_
                clear hK K
                refine done_ (by kernel_rfl) ?_
                have e1 := (blk_cell E_924.out 1).trans (show (#[.int .i64 i0, .bool false, .int .i64 (n : Int), .int .u64 o1, .int .u64 o2, .int .i64 o3, .int .i64 ia, .bool true, .bool true, .int .i64 0, .bool true, .int .u64 va] : Array Value)[1]? = some _ from rfl)
                have e2 := (blk_cell E_924.out 2).trans (show (#[.int .i64 i0, .bool false, .int .i64 (n : Int), .int .u64 o1, .int .u64 o2, .int .i64 o3, .int .i64 ia, .bool true, .bool true, .int .i64 0, .bool true, .int .u64 va] : Array Value)[2]? = some _ from rfl)
                have e7 := (blk_cell E_924.out 7).trans (show (#[.int .i64 i0, .bool false, .int .i64 (n : Int), .int .u64 o1, .int .u64 o2, .int .i64 o3, .int .i64 ia, .bool true, .bool true, .int .i64 0, .bool true, .int .u64 va] : Array Value)[7]? = some _ from rfl)
                have e8 := (blk_cell E_924.out 8).trans (show (#[.int .i64 i0, .bool false, .int .i64 (n : Int), .int .u64 o1, .int .u64 o2, .int .i64 o3, .int .i64 ia, .bool true, .bool true, .int .i64 0, .bool true, .int .u64 va] : Array Value)[8]? = some _ from rfl)
                have e9 := (blk_cell E_924.out 9).trans (show (#[.int .i64 i0, .bool false, .int .i64 (n : Int), .int .u64 o1, .int .u64 o2, .int .i64 o3, .int .i64 ia, .bool true, .bool true, .int .i64 0, .bool true, .int .u64 va] : Array Value)[9]? = some _ from rfl)
                have e10 := (blk_cell E_924.out 10).trans (show (#[.int .i64 i0, .bool false, .int .i64 (n : Int), .int .u64 o1, .int .u64 o2, .int .i64 o3, .int .i64 ia, .bool true, .bool true, .int .i64 0, .bool true, .int .u64 va] : Array Value)[10]? = some _ from rfl)
                go_wp2_with fail
                go_roundg ko
                case rel => exact ⟨k + 1, by first | rfl | rw [wi], ⟨by have := HK.out; omega⟩, ⟨B926.out⟩, ⟨X_923.out⟩, ⟨by rw [HST.out, HE.out]; exact O_925.out⟩⟩
                case measure => exact Nat.lt_succ_self _
              | false =>
                have HE := Aside0.mk (show stepE acc (toE ⟨i0, false, ⟨(n : Int), o1, o2, o3⟩, ia, true, true, ⟨0, false, va⟩⟩) = bump (bump (bump (bump acc (1 + n * 7)) (1 + n * 7 + 1)) (1 + n * 7 + 2)) (1 + n * 7 + 4) from by unfold stepE toE; dsimp only; rw [if_neg (by decide), if_neg K1.out, if_neg K8.out, Int.toNat_natCast]; simp [overV])
                go_wp2_with (first
                  | ((with_reducible refine wpSt 82 (.tmp 5) (.tmp 17) ?_); refine store_whole (w := w) (B := w.heap.size) rfl rfl 82 (.tmp 5) (.tmp 17) rfl (g := wr.heap.size) (cs := #[.int .i64 i0, .bool false, .int .i64 (n : Int), .int .u64 o1, .int .u64 o2, .int .i64 o3, .int .i64 ia, .bool true, .bool true, .int .i64 0, .bool false, .int .u64 va]) rfl _ rfl rfl (by kernel_rfl) (by intro q hq; simp only [List.mem_cons, List.not_mem_nil, or_false] at hq; rcases hq with rfl | rfl | rfl | rfl | rfl | rfl | rfl | rfl | rfl | rfl | rfl | rfl <;> rfl) E_904.out (rfl) L_E.out B905.out ?_; intro w_906 h1 h2 h3 h4; have X_907 := Aside0.mk ((h3 _ NE_X_E.out).trans X_902.out); have O_908 := Aside0.mk ((h3 _ NE_O_E.out).trans O_903.out); have E_909 := Aside0.mk (h1); have B910 := Aside0.mk (h2); clear h1 h2 h3 h4 X_902 O_903 E_904 B905; have e1 := (blk_cell E_909.out 1).trans (show (#[.int .i64 i0, .bool false, .int .i64 (n : Int), .int .u64 o1, .int .u64 o2, .int .i64 o3, .int .i64 ia, .bool true, .bool true, .int .i64 0, .bool false, .int .u64 va] : Array Value)[1]? = some _ from rfl); have e2 := (blk_cell E_909.out 2).trans (show (#[.int .i64 i0, .bool false, .int .i64 (n : Int), .int .u64 o1, .int .u64 o2, .int .i64 o3, .int .i64 ia, .bool true, .bool true, .int .i64 0, .bool false, .int .u64 va] : Array Value)[2]? = some _ from rfl); have e7 := (blk_cell E_909.out 7).trans (show (#[.int .i64 i0, .bool false, .int .i64 (n : Int), .int .u64 o1, .int .u64 o2, .int .i64 o3, .int .i64 ia, .bool true, .bool true, .int .i64 0, .bool false, .int .u64 va] : Array Value)[7]? = some _ from rfl); have e8 := (blk_cell E_909.out 8).trans (show (#[.int .i64 i0, .bool false, .int .i64 (n : Int), .int .u64 o1, .int .u64 o2, .int .i64 o3, .int .i64 ia, .bool true, .bool true, .int .i64 0, .bool false, .int .u64 va] : Array Value)[8]? = some _ from rfl); have e9 := (blk_cell E_909.out 9).trans (show (#[.int .i64 i0, .bool false, .int .i64 (n : Int), .int .u64 o1, .int .u64 o2, .int .i64 o3, .int .i64 ia, .bool true, .bool true, .int .i64 0, .bool false, .int .u64 va] : Array Value)[9]? = some _ from rfl); have e10 := (blk_cell E_909.out 10).trans (show (#[.int .i64 i0, .bool false, .int .i64 (n : Int), .int .u64 o1, .int .u64 o2, .int .i64 o3, .int .i64 ia, .bool true, .bool true, .int .i64 0, .bool false, .int .u64 va] : Array Value)[10]? = some _ from rfl)))
                obtain ⟨xv0, yv0, qv0⟩ := bump_at (l := acc) (1 + n * 7) (by (try simp only [bump_len]); have := HLA.out; have := QN.out; omega)
                have yv0A := Aside0.mk yv0
                have qv0A := Aside0.mk qv0
                clear yv0 qv0
                refine start_ (n := 10) (S := fun w' => w'.cell? ⟨w.heap.size + 1, 1 + n * 7, none⟩ = some (.int .i64 xv0)) (ds := [9]) (lb 10 0) (by kernel_rfl) rfl rfl ((blk_cell (blk_drew O_908.out) (1 + n * 7)).trans yv0A.out) (fun hHeld => ?_)
                refine pS (v := ?_) (a' := ?_) 0 (some 33) (lb 10 1) rfl rfl (by kernel_rfl) (fun _ _ _ h => h) (by rfl) ?_ ?_ ?_; rotate_left; (intro w'; go_simp; with_reducible rfl); rotate_left; (simp only [Act.put, List.setIfInBounds_toArray, List.set_cons_zero, List.set_cons_succ, i64_w, i32_w]; rfl)
                refine pS (v := ?_) (a' := ?_) 1 (some 34) (lb 10 3) rfl rfl (by kernel_rfl) (fun _ _ _ h => h) (by rfl) ?_ ?_ ?_; rotate_left; (intro w'; go_simp; with_reducible rfl); rotate_left; (simp only [Act.put, List.setIfInBounds_toArray, List.set_cons_zero, List.set_cons_succ, i64_w, i32_w]; rfl)
                refine pS (v := ?_) (a' := ?_) 2 (some 35) (lb 10 7) rfl rfl (by kernel_rfl) (fun _ _ _ h => h) (by rfl) ?_ ?_ ?_; rotate_left; (intro w'; go_simp; with_reducible rfl); rotate_left; (simp only [Act.put, List.setIfInBounds_toArray, List.set_cons_zero, List.set_cons_succ, i64_w, i32_w]; rfl)
                refine pS (v := ?_) (a' := ?_) 3 (some 36) (lb 10 15) rfl rfl (by kernel_rfl) (fun _ _ _ h => h) (by rfl) ?_ ?_ ?_; rotate_left; (intro w'; go_simp; with_reducible rfl); rotate_left; (simp only [Act.put, List.setIfInBounds_toArray, List.set_cons_zero, List.set_cons_succ, i64_w, i32_w]; rfl)
                refine pS (v := ?_) (a' := ?_) 6 (some 39) (lb 10 79) rfl rfl (by kernel_rfl) (fun _ _ _ h => h) (by rfl) ?_ ?_ ?_; rotate_left; (intro w'; go_simp; with_reducible rfl); rotate_left; (simp only [Act.put, List.setIfInBounds_toArray, List.set_cons_zero, List.set_cons_succ, i64_w, i32_w]; rfl)
                refine pS (v := ?_) (a' := ?_) 7 (some 40) (lb 10 207) rfl rfl (by kernel_rfl) (fun _ _ _ h => h) (by rfl) ?_ ?_ ?_; rotate_left; (intro w'; go_simp; with_reducible rfl); rotate_left; (simp only [Act.put, List.setIfInBounds_toArray, List.set_cons_zero, List.set_cons_succ, i64_w, i32_w]; rfl)
                refine tS (v := ?_) (a' := ?_) 4 (some 37) (lb 10 223) rfl rfl (by kernel_rfl) (fun _ _ _ h => h) hHeld (by rfl) ?_ ?_ ?_; rotate_left; (rintro w' s0; go_simp; with_reducible rfl); rotate_left; (simp only [Act.put, List.setIfInBounds_toArray, List.set_cons_zero, List.set_cons_succ, i64_w, i32_w]; rfl)
                refine pS (v := ?_) (a' := ?_) 5 (some 38) (lb 10 255) rfl rfl (by kernel_rfl) (fun _ _ _ h => h) (by rfl) ?_ ?_ ?_; rotate_left; (intro w'; go_simp; with_reducible rfl); rotate_left; (simp only [Act.put, List.setIfInBounds_toArray, List.set_cons_zero, List.set_cons_succ, i64_w, i32_w]; rfl)
                refine pS (v := ?_) (a' := ?_) 8 (some 41) (lb 10 511) rfl rfl (by kernel_rfl) (fun _ _ _ h => h) (by rfl) ?_ ?_ ?_; rotate_left; (intro w'; go_simp; with_reducible rfl); rotate_left; (simp only [Act.put, List.setIfInBounds_toArray, List.set_cons_zero, List.set_cons_succ, i64_w, i32_w]; rfl)
                refine last_ (i := 9) (N := none) (lb 10 1023) rfl rfl (by kernel_rfl) (by decide) (fun K hK => ?_)
                refine skip_cell (w := w) 3 (.tmp 41) (.tmp 38) (by rfl) rfl rfl (g := w.heap.size + 1) (1 + n * 7) ?_ (.int .i64 (wrap64 (xv0 + 1))) ?_ rfl (by kernel_rfl) rfl (blk_drew O_908.out) (by rw [TV_size]; (try simp only [bump_len]); have := HLA.out; have := QN.out; omega) L_O.out (below_drew B910.out) ?_
                · rfl
                · rfl
                intro wz10 h1 h2 h3
                have X_911 := Aside0.mk ((h3 _ NE_X_O.out).trans (blk_drew X_907.out))
                have E_912 := Aside0.mk ((h3 _ (Ne.symm NE_O_E.out)).trans (blk_drew E_909.out))
                have O_913 := Aside0.mk (show wz10.heap[w.heap.size + 1]? = some (.cells (TV (bump (acc) (1 + n * 7))) 56 (0, 0)) from by rw [h1, TV_set, qv0A.out])
                have B914 := Aside0.mk h2
                clear h1 h2 h3 yv0A qv0A X_907 E_909 O_908 B910
                refine hK.out _ _ ?_
                clear hK K
                refine done_ (by kernel_rfl) ?_
                have e1 := (blk_cell E_912.out 1).trans (show (#[.int .i64 i0, .bool false, .int .i64 (n : Int), .int .u64 o1, .int .u64 o2, .int .i64 o3, .int .i64 ia, .bool true, .bool true, .int .i64 0, .bool false, .int .u64 va] : Array Value)[1]? = some _ from rfl)
                have e2 := (blk_cell E_912.out 2).trans (show (#[.int .i64 i0, .bool false, .int .i64 (n : Int), .int .u64 o1, .int .u64 o2, .int .i64 o3, .int .i64 ia, .bool true, .bool true, .int .i64 0, .bool false, .int .u64 va] : Array Value)[2]? = some _ from rfl)
                have e7 := (blk_cell E_912.out 7).trans (show (#[.int .i64 i0, .bool false, .int .i64 (n : Int), .int .u64 o1, .int .u64 o2, .int .i64 o3, .int .i64 ia, .bool true, .bool true, .int .i64 0, .bool false, .int .u64 va] : Array Value)[7]? = some _ from rfl)
                have e8 := (blk_cell E_912.out 8).trans (show (#[.int .i64 i0, .bool false, .int .i64 (n : Int), .int .u64 o1, .int .u64 o2, .int .i64 o3, .int .i64 ia, .bool true, .bool true, .int .i64 0, .bool false, .int .u64 va] : Array Value)[8]? = some _ from rfl)
                have e9 := (blk_cell E_912.out 9).trans (show (#[.int .i64 i0, .bool false, .int .i64 (n : Int), .int .u64 o1, .int .u64 o2, .int .i64 o3, .int .i64 ia, .bool true, .bool true, .int .i64 0, .bool false, .int .u64 va] : Array Value)[9]? = some _ from rfl)
                have e10 := (blk_cell E_912.out 10).trans (show (#[.int .i64 i0, .bool false, .int .i64 (n : Int), .int .u64 o1, .int .u64 o2, .int .i64 o3, .int .i64 ia, .bool true, .bool true, .int .i64 0, .bool false, .int .u64 va] : Array Value)[10]? = some _ from rfl)
                go_wp2_with fail
                obtain ⟨xv1, yv1, qv1⟩ := bump_at (l := bump (acc) (1 + n * 7)) (1 + n * 7 + 1) (by (try simp only [bump_len]); have := HLA.out; have := QN.out; omega)
                have yv1A := Aside0.mk yv1
                have qv1A := Aside0.mk qv1
                clear yv1 qv1
                refine start_ (n := 10) (S := fun w' => w'.cell? ⟨w.heap.size + 1, 1 + n * 7 + 1, none⟩ = some (.int .i64 xv1)) (ds := [9]) (lb 10 0) (by kernel_rfl) rfl rfl ((blk_cell (blk_drew O_913.out) (1 + n * 7 + 1)).trans yv1A.out) (fun hHeld => ?_)
                refine pS (v := ?_) (a' := ?_) 0 (some 44) (lb 10 1) rfl rfl (by kernel_rfl) (fun _ _ _ h => h) (by rfl) ?_ ?_ ?_; rotate_left; (intro w'; go_simp; with_reducible rfl); rotate_left; (simp only [Act.put, List.setIfInBounds_toArray, List.set_cons_zero, List.set_cons_succ, i64_w, i32_w]; rfl)
                refine pS (v := ?_) (a' := ?_) 1 (some 45) (lb 10 3) rfl rfl (by kernel_rfl) (fun _ _ _ h => h) (by rfl) ?_ ?_ ?_; rotate_left; (intro w'; go_simp; with_reducible rfl); rotate_left; (simp only [Act.put, List.setIfInBounds_toArray, List.set_cons_zero, List.set_cons_succ, i64_w, i32_w]; rfl)
                refine pS (v := ?_) (a' := ?_) 2 (some 46) (lb 10 7) rfl rfl (by kernel_rfl) (fun _ _ _ h => h) (by rfl) ?_ ?_ ?_; rotate_left; (intro w'; go_simp; with_reducible rfl); rotate_left; (simp only [Act.put, List.setIfInBounds_toArray, List.set_cons_zero, List.set_cons_succ, i64_w, i32_w]; rfl)
                refine pS (v := ?_) (a' := ?_) 3 (some 47) (lb 10 15) rfl rfl (by kernel_rfl) (fun _ _ _ h => h) (by rfl) ?_ ?_ ?_; rotate_left; (intro w'; go_simp; with_reducible rfl); rotate_left; (simp only [Act.put, List.setIfInBounds_toArray, List.set_cons_zero, List.set_cons_succ, i64_w, i32_w]; rfl)
                refine pS (v := ?_) (a' := ?_) 6 (some 50) (lb 10 79) rfl rfl (by kernel_rfl) (fun _ _ _ h => h) (by rfl) ?_ ?_ ?_; rotate_left; (intro w'; go_simp; with_reducible rfl); rotate_left; (simp only [Act.put, List.setIfInBounds_toArray, List.set_cons_zero, List.set_cons_succ, i64_w, i32_w]; rfl)
                refine pS (v := ?_) (a' := ?_) 7 (some 51) (lb 10 207) rfl rfl (by kernel_rfl) (fun _ _ _ h => h) (by rfl) ?_ ?_ ?_; rotate_left; (intro w'; go_simp; with_reducible rfl); rotate_left; (simp only [Act.put, List.setIfInBounds_toArray, List.set_cons_zero, List.set_cons_succ, i64_w, i32_w]; rfl)
                refine tS (v := ?_) (a' := ?_) 4 (some 48) (lb 10 223) rfl rfl (by kernel_rfl) (fun _ _ _ h => h) hHeld (by rfl) ?_ ?_ ?_; rotate_left; (rintro w' s0; go_simp; with_reducible rfl); rotate_left; (simp only [Act.put, List.setIfInBounds_toArray, List.set_cons_zero, List.set_cons_succ, i64_w, i32_w]; rfl)
                refine pS (v := ?_) (a' := ?_) 5 (some 49) (lb 10 255) rfl rfl (by kernel_rfl) (fun _ _ _ h => h) (by rfl) ?_ ?_ ?_; rotate_left; (intro w'; go_simp; with_reducible rfl); rotate_left; (simp only [Act.put, List.setIfInBounds_toArray, List.set_cons_zero, List.set_cons_succ, i64_w, i32_w]; rfl)
                refine pS (v := ?_) (a' := ?_) 8 (some 52) (lb 10 511) rfl rfl (by kernel_rfl) (fun _ _ _ h => h) (by rfl) ?_ ?_ ?_; rotate_left; (intro w'; go_simp; with_reducible rfl); rotate_left; (simp only [Act.put, List.setIfInBounds_toArray, List.set_cons_zero, List.set_cons_succ, i64_w, i32_w]; rfl)
                refine last_ (i := 9) (N := none) (lb 10 1023) rfl rfl (by kernel_rfl) (by decide) (fun K hK => ?_)
                refine skip_cell (w := w) 3 (.tmp 52) (.tmp 49) (by rfl) rfl rfl (g := w.heap.size + 1) (1 + n * 7 + 1) ?_ (.int .i64 (wrap64 (xv1 + 1))) ?_ rfl (by kernel_rfl) rfl (blk_drew O_913.out) (by rw [TV_size]; (try simp only [bump_len]); have := HLA.out; have := QN.out; omega) L_O.out (below_drew B914.out) ?_
                · rfl
                · rfl
                intro wz12 h1 h2 h3
                have X_915 := Aside0.mk ((h3 _ NE_X_O.out).trans (blk_drew X_911.out))
                have E_916 := Aside0.mk ((h3 _ (Ne.symm NE_O_E.out)).trans (blk_drew E_912.out))
                have O_917 := Aside0.mk (show wz12.heap[w.heap.size + 1]? = some (.cells (TV (bump (bump (acc) (1 + n * 7)) (1 + n * 7 + 1))) 56 (0, 0)) from by rw [h1, TV_set, qv1A.out])
                have B918 := Aside0.mk h2
                clear h1 h2 h3 yv1A qv1A X_911 E_912 O_913 B914
                refine hK.out _ _ ?_
                clear hK K
                refine done_ (by kernel_rfl) ?_
                have e1 := (blk_cell E_916.out 1).trans (show (#[.int .i64 i0, .bool false, .int .i64 (n : Int), .int .u64 o1, .int .u64 o2, .int .i64 o3, .int .i64 ia, .bool true, .bool true, .int .i64 0, .bool false, .int .u64 va] : Array Value)[1]? = some _ from rfl)
                have e2 := (blk_cell E_916.out 2).trans (show (#[.int .i64 i0, .bool false, .int .i64 (n : Int), .int .u64 o1, .int .u64 o2, .int .i64 o3, .int .i64 ia, .bool true, .bool true, .int .i64 0, .bool false, .int .u64 va] : Array Value)[2]? = some _ from rfl)
                have e7 := (blk_cell E_916.out 7).trans (show (#[.int .i64 i0, .bool false, .int .i64 (n : Int), .int .u64 o1, .int .u64 o2, .int .i64 o3, .int .i64 ia, .bool true, .bool true, .int .i64 0, .bool false, .int .u64 va] : Array Value)[7]? = some _ from rfl)
                have e8 := (blk_cell E_916.out 8).trans (show (#[.int .i64 i0, .bool false, .int .i64 (n : Int), .int .u64 o1, .int .u64 o2, .int .i64 o3, .int .i64 ia, .bool true, .bool true, .int .i64 0, .bool false, .int .u64 va] : Array Value)[8]? = some _ from rfl)
                have e9 := (blk_cell E_916.out 9).trans (show (#[.int .i64 i0, .bool false, .int .i64 (n : Int), .int .u64 o1, .int .u64 o2, .int .i64 o3, .int .i64 ia, .bool true, .bool true, .int .i64 0, .bool false, .int .u64 va] : Array Value)[9]? = some _ from rfl)
                have e10 := (blk_cell E_916.out 10).trans (show (#[.int .i64 i0, .bool false, .int .i64 (n : Int), .int .u64 o1, .int .u64 o2, .int .i64 o3, .int .i64 ia, .bool true, .bool true, .int .i64 0, .bool false, .int .u64 va] : Array Value)[10]? = some _ from rfl)
                go_wp2_with fail
                obtain ⟨xv2, yv2, qv2⟩ := bump_at (l := bump (bump (acc) (1 + n * 7)) (1 + n * 7 + 1)) (1 + n * 7 + 2) (by (try simp only [bump_len]); have := HLA.out; have := QN.out; omega)
                have yv2A := Aside0.mk yv2
                have qv2A := Aside0.mk qv2
                clear yv2 qv2
                refine start_ (n := 10) (S := fun w' => w'.cell? ⟨w.heap.size + 1, 1 + n * 7 + 2, none⟩ = some (.int .i64 xv2)) (ds := [9]) (lb 10 0) (by kernel_rfl) rfl rfl ((blk_cell (blk_drew O_917.out) (1 + n * 7 + 2)).trans yv2A.out) (fun hHeld => ?_)
                refine pS (v := ?_) (a' := ?_) 0 (some 55) (lb 10 1) rfl rfl (by kernel_rfl) (fun _ _ _ h => h) (by rfl) ?_ ?_ ?_; rotate_left; (intro w'; go_simp; with_reducible rfl); rotate_left; (simp only [Act.put, List.setIfInBounds_toArray, List.set_cons_zero, List.set_cons_succ, i64_w, i32_w]; rfl)
                refine pS (v := ?_) (a' := ?_) 1 (some 56) (lb 10 3) rfl rfl (by kernel_rfl) (fun _ _ _ h => h) (by rfl) ?_ ?_ ?_; rotate_left; (intro w'; go_simp; with_reducible rfl); rotate_left; (simp only [Act.put, List.setIfInBounds_toArray, List.set_cons_zero, List.set_cons_succ, i64_w, i32_w]; rfl)
                refine pS (v := ?_) (a' := ?_) 2 (some 57) (lb 10 7) rfl rfl (by kernel_rfl) (fun _ _ _ h => h) (by rfl) ?_ ?_ ?_; rotate_left; (intro w'; go_simp; with_reducible rfl); rotate_left; (simp only [Act.put, List.setIfInBounds_toArray, List.set_cons_zero, List.set_cons_succ, i64_w, i32_w]; rfl)
                refine pS (v := ?_) (a' := ?_) 3 (some 58) (lb 10 15) rfl rfl (by kernel_rfl) (fun _ _ _ h => h) (by rfl) ?_ ?_ ?_; rotate_left; (intro w'; go_simp; with_reducible rfl); rotate_left; (simp only [Act.put, List.setIfInBounds_toArray, List.set_cons_zero, List.set_cons_succ, i64_w, i32_w]; rfl)
                refine pS (v := ?_) (a' := ?_) 6 (some 61) (lb 10 79) rfl rfl (by kernel_rfl) (fun _ _ _ h => h) (by rfl) ?_ ?_ ?_; rotate_left; (intro w'; go_simp; with_reducible rfl); rotate_left; (simp only [Act.put, List.setIfInBounds_toArray, List.set_cons_zero, List.set_cons_succ, i64_w, i32_w]; rfl)
                refine pS (v := ?_) (a' := ?_) 7 (some 62) (lb 10 207) rfl rfl (by kernel_rfl) (fun _ _ _ h => h) (by rfl) ?_ ?_ ?_; rotate_left; (intro w'; go_simp; with_reducible rfl); rotate_left; (simp only [Act.put, List.setIfInBounds_toArray, List.set_cons_zero, List.set_cons_succ, i64_w, i32_w]; rfl)
                refine tS (v := ?_) (a' := ?_) 4 (some 59) (lb 10 223) rfl rfl (by kernel_rfl) (fun _ _ _ h => h) hHeld (by rfl) ?_ ?_ ?_; rotate_left; (rintro w' s0; go_simp; with_reducible rfl); rotate_left; (simp only [Act.put, List.setIfInBounds_toArray, List.set_cons_zero, List.set_cons_succ, i64_w, i32_w]; rfl)
                refine pS (v := ?_) (a' := ?_) 5 (some 60) (lb 10 255) rfl rfl (by kernel_rfl) (fun _ _ _ h => h) (by rfl) ?_ ?_ ?_; rotate_left; (intro w'; go_simp; with_reducible rfl); rotate_left; (simp only [Act.put, List.setIfInBounds_toArray, List.set_cons_zero, List.set_cons_succ, i64_w, i32_w]; rfl)
                refine pS (v := ?_) (a' := ?_) 8 (some 63) (lb 10 511) rfl rfl (by kernel_rfl) (fun _ _ _ h => h) (by rfl) ?_ ?_ ?_; rotate_left; (intro w'; go_simp; with_reducible rfl); rotate_left; (simp only [Act.put, List.setIfInBounds_toArray, List.set_cons_zero, List.set_cons_succ, i64_w, i32_w]; rfl)
                refine last_ (i := 9) (N := none) (lb 10 1023) rfl rfl (by kernel_rfl) (by decide) (fun K hK => ?_)
                refine skip_cell (w := w) 3 (.tmp 63) (.tmp 60) (by rfl) rfl rfl (g := w.heap.size + 1) (1 + n * 7 + 2) ?_ (.int .i64 (wrap64 (xv2 + 1))) ?_ rfl (by kernel_rfl) rfl (blk_drew O_917.out) (by rw [TV_size]; (try simp only [bump_len]); have := HLA.out; have := QN.out; omega) L_O.out (below_drew B918.out) ?_
                · rfl
                · rfl
                intro wz14 h1 h2 h3
                have X_919 := Aside0.mk ((h3 _ NE_X_O.out).trans (blk_drew X_915.out))
                have E_920 := Aside0.mk ((h3 _ (Ne.symm NE_O_E.out)).trans (blk_drew E_916.out))
                have O_921 := Aside0.mk (show wz14.heap[w.heap.size + 1]? = some (.cells (TV (bump (bump (bump (acc) (1 + n * 7)) (1 + n * 7 + 1)) (1 + n * 7 + 2))) 56 (0, 0)) from by rw [h1, TV_set, qv2A.out])
                have B922 := Aside0.mk h2
                clear h1 h2 h3 yv2A qv2A X_915 E_916 O_917 B918
                refine hK.out _ _ ?_
                clear hK K
                refine done_ (by kernel_rfl) ?_
                have e1 := (blk_cell E_920.out 1).trans (show (#[.int .i64 i0, .bool false, .int .i64 (n : Int), .int .u64 o1, .int .u64 o2, .int .i64 o3, .int .i64 ia, .bool true, .bool true, .int .i64 0, .bool false, .int .u64 va] : Array Value)[1]? = some _ from rfl)
                have e2 := (blk_cell E_920.out 2).trans (show (#[.int .i64 i0, .bool false, .int .i64 (n : Int), .int .u64 o1, .int .u64 o2, .int .i64 o3, .int .i64 ia, .bool true, .bool true, .int .i64 0, .bool false, .int .u64 va] : Array Value)[2]? = some _ from rfl)
                have e7 := (blk_cell E_920.out 7).trans (show (#[.int .i64 i0, .bool false, .int .i64 (n : Int), .int .u64 o1, .int .u64 o2, .int .i64 o3, .int .i64 ia, .bool true, .bool true, .int .i64 0, .bool false, .int .u64 va] : Array Value)[7]? = some _ from rfl)
                have e8 := (blk_cell E_920.out 8).trans (show (#[.int .i64 i0, .bool false, .int .i64 (n : Int), .int .u64 o1, .int .u64 o2, .int .i64 o3, .int .i64 ia, .bool true, .bool true, .int .i64 0, .bool false, .int .u64 va] : Array Value)[8]? = some _ from rfl)
                have e9 := (blk_cell E_920.out 9).trans (show (#[.int .i64 i0, .bool false, .int .i64 (n : Int), .int .u64 o1, .int .u64 o2, .int .i64 o3, .int .i64 ia, .bool true, .bool true, .int .i64 0, .bool false, .int .u64 va] : Array Value)[9]? = some _ from rfl)
                have e10 := (blk_cell E_920.out 10).trans (show (#[.int .i64 i0, .bool false, .int .i64 (n : Int), .int .u64 o1, .int .u64 o2, .int .i64 o3, .int .i64 ia, .bool true, .bool true, .int .i64 0, .bool false, .int .u64 va] : Array Value)[10]? = some _ from rfl)
                go_wp2_with fail
                obtain ⟨xv4, yv4, qv4⟩ := bump_at (l := bump (bump (bump (acc) (1 + n * 7)) (1 + n * 7 + 1)) (1 + n * 7 + 2)) (1 + n * 7 + 4) (by (try simp only [bump_len]); have := HLA.out; have := QN.out; omega)
                have yv4A := Aside0.mk yv4
                have qv4A := Aside0.mk qv4
                clear yv4 qv4
                refine start_ (n := 10) (S := fun w' => w'.cell? ⟨w.heap.size + 1, 1 + n * 7 + 4, none⟩ = some (.int .i64 xv4)) (ds := [9]) (lb 10 0) (by kernel_rfl) rfl rfl ((blk_cell (blk_drew O_921.out) (1 + n * 7 + 4)).trans yv4A.out) (fun hHeld => ?_)
                refine pS (v := ?_) (a' := ?_) 0 (some 100) (lb 10 1) rfl rfl (by kernel_rfl) (fun _ _ _ h => h) (by rfl) ?_ ?_ ?_; rotate_left; (intro w'; go_simp; with_reducible rfl); rotate_left; (simp only [Act.put, List.setIfInBounds_toArray, List.set_cons_zero, List.set_cons_succ, i64_w, i32_w]; rfl)
                refine pS (v := ?_) (a' := ?_) 1 (some 101) (lb 10 3) rfl rfl (by kernel_rfl) (fun _ _ _ h => h) (by rfl) ?_ ?_ ?_; rotate_left; (intro w'; go_simp; with_reducible rfl); rotate_left; (simp only [Act.put, List.setIfInBounds_toArray, List.set_cons_zero, List.set_cons_succ, i64_w, i32_w]; rfl)
                refine pS (v := ?_) (a' := ?_) 2 (some 102) (lb 10 7) rfl rfl (by kernel_rfl) (fun _ _ _ h => h) (by rfl) ?_ ?_ ?_; rotate_left; (intro w'; go_simp; with_reducible rfl); rotate_left; (simp only [Act.put, List.setIfInBounds_toArray, List.set_cons_zero, List.set_cons_succ, i64_w, i32_w]; rfl)
                refine pS (v := ?_) (a' := ?_) 3 (some 103) (lb 10 15) rfl rfl (by kernel_rfl) (fun _ _ _ h => h) (by rfl) ?_ ?_ ?_; rotate_left; (intro w'; go_simp; with_reducible rfl); rotate_left; (simp only [Act.put, List.setIfInBounds_toArray, List.set_cons_zero, List.set_cons_succ, i64_w, i32_w]; rfl)
                refine pS (v := ?_) (a' := ?_) 6 (some 106) (lb 10 79) rfl rfl (by kernel_rfl) (fun _ _ _ h => h) (by rfl) ?_ ?_ ?_; rotate_left; (intro w'; go_simp; with_reducible rfl); rotate_left; (simp only [Act.put, List.setIfInBounds_toArray, List.set_cons_zero, List.set_cons_succ, i64_w, i32_w]; rfl)
                refine pS (v := ?_) (a' := ?_) 7 (some 107) (lb 10 207) rfl rfl (by kernel_rfl) (fun _ _ _ h => h) (by rfl) ?_ ?_ ?_; rotate_left; (intro w'; go_simp; with_reducible rfl); rotate_left; (simp only [Act.put, List.setIfInBounds_toArray, List.set_cons_zero, List.set_cons_succ, i64_w, i32_w]; rfl)
                refine tS (v := ?_) (a' := ?_) 4 (some 104) (lb 10 223) rfl rfl (by kernel_rfl) (fun _ _ _ h => h) hHeld (by rfl) ?_ ?_ ?_; rotate_left; (rintro w' s0; go_simp; with_reducible rfl); rotate_left; (simp only [Act.put, List.setIfInBounds_toArray, List.set_cons_zero, List.set_cons_succ, i64_w, i32_w]; rfl)
                refine pS (v := ?_) (a' := ?_) 5 (some 105) (lb 10 255) rfl rfl (by kernel_rfl) (fun _ _ _ h => h) (by rfl) ?_ ?_ ?_; rotate_left; (intro w'; go_simp; with_reducible rfl); rotate_left; (simp only [Act.put, List.setIfInBounds_toArray, List.set_cons_zero, List.set_cons_succ, i64_w, i32_w]; rfl)
                refine pS (v := ?_) (a' := ?_) 8 (some 108) (lb 10 511) rfl rfl (by kernel_rfl) (fun _ _ _ h => h) (by rfl) ?_ ?_ ?_; rotate_left; (intro w'; go_simp; with_reducible rfl); rotate_left; (simp only [Act.put, List.setIfInBounds_toArray, List.set_cons_zero, List.set_cons_succ, i64_w, i32_w]; rfl)
                refine last_ (i := 9) (N := none) (lb 10 1023) rfl rfl (by kernel_rfl) (by decide) (fun K hK => ?_)
                refine skip_cell (w := w) 3 (.tmp 108) (.tmp 105) (by rfl) rfl rfl (g := w.heap.size + 1) (1 + n * 7 + 4) ?_ (.int .i64 (wrap64 (xv4 + 1))) ?_ rfl (by kernel_rfl) rfl (blk_drew O_921.out) (by rw [TV_size]; (try simp only [bump_len]); have := HLA.out; have := QN.out; omega) L_O.out (below_drew B922.out) ?_
                · rfl
                · rfl
                intro wz18 h1 h2 h3
                have X_923 := Aside0.mk ((h3 _ NE_X_O.out).trans (blk_drew X_919.out))
                have E_924 := Aside0.mk ((h3 _ (Ne.symm NE_O_E.out)).trans (blk_drew E_920.out))
                have O_925 := Aside0.mk (show wz18.heap[w.heap.size + 1]? = some (.cells (TV (bump (bump (bump (bump (acc) (1 + n * 7)) (1 + n * 7 + 1)) (1 + n * 7 + 2)) (1 + n * 7 + 4))) 56 (0, 0)) from by rw [h1, TV_set, qv4A.out])
                have B926 := Aside0.mk h2
                clear h1 h2 h3 yv4A qv4A X_919 E_920 O_921 B922
                refine hK.out _ _ ?_
                clear hK K
                refine done_ (by kernel_rfl) ?_
                have e1 := (blk_cell E_924.out 1).trans (show (#[.int .i64 i0, .bool false, .int .i64 (n : Int), .int .u64 o1, .int .u64 o2, .int .i64 o3, .int .i64 ia, .bool true, .bool true, .int .i64 0, .bool false, .int .u64 va] : Array Value)[1]? = some _ from rfl)
                have e2 := (blk_cell E_924.out 2).trans (show (#[.int .i64 i0, .bool false, .int .i64 (n : Int), .int .u64 o1, .int .u64 o2, .int .i64 o3, .int .i64 ia, .bool true, .bool true, .int .i64 0, .bool false, .int .u64 va] : Array Value)[2]? = some _ from rfl)
                have e7 := (blk_cell E_924.out 7).trans (show (#[.int .i64 i0, .bool false, .int .i64 (n : Int), .int .u64 o1, .int .u64 o2, .int .i64 o3, .int .i64 ia, .bool true, .bool true, .int .i64 0, .bool false, .int .u64 va] : Array Value)[7]? = some _ from rfl)
                have e8 := (blk_cell E_924.out 8).trans (show (#[.int .i64 i0, .bool false, .int .i64 (n : Int), .int .u64 o1, .int .u64 o2, .int .i64 o3, .int .i64 ia, .bool true, .bool true, .int .i64 0, .bool false, .int .u64 va] : Array Value)[8]? = some _ from rfl)
                have e9 := (blk_cell E_924.out 9).trans (show (#[.int .i64 i0, .bool false, .int .i64 (n : Int), .int .u64 o1, .int .u64 o2, .int .i64 o3, .int .i64 ia, .bool true, .bool true, .int .i64 0, .bool false, .int .u64 va] : Array Value)[9]? = some _ from rfl)
                have e10 := (blk_cell E_924.out 10).trans (show (#[.int .i64 i0, .bool false, .int .i64 (n : Int), .int .u64 o1, .int .u64 o2, .int .i64 o3, .int .i64 ia, .bool true, .bool true, .int .i64 0, .bool false, .int .u64 va] : Array Value)[10]? = some _ from rfl)
                go_wp2_with fail
                go_roundg ko
                case rel => exact ⟨k + 1, by first | rfl | rw [wi], ⟨by have := HK.out; omega⟩, ⟨B926.out⟩, ⟨X_923.out⟩, ⟨by rw [HST.out, HE.out]; exact O_925.out⟩⟩
                case measure => exact Nat.lt_succ_self _
            have b6 : (er == 6) = false := beq_eq_false_iff_ne.mpr c6
            have b7 : (er == 7) = false := beq_eq_false_iff_ne.mpr c7
            have b0 : (er == 0) = false := beq_eq_false_iff_ne.mpr c0
            have HE := Aside0.mk (show stepE acc (toE ⟨i0, false, ⟨(n : Int), o1, o2, o3⟩, ia, true, true, ⟨er, dn, va⟩⟩) = bump (bump (bump acc (1 + n * 7)) (1 + n * 7 + 1)) (1 + n * 7 + 2) from by unfold stepE toE; dsimp only; rw [if_neg (by decide), if_neg K1.out, if_neg K8.out, Int.toNat_natCast]; simp [overV, c6, c7, c0])
            go_wp2_with (first
              | ((with_reducible refine wpSt 82 (.tmp 5) (.tmp 17) ?_); refine store_whole (w := w) (B := w.heap.size) rfl rfl 82 (.tmp 5) (.tmp 17) rfl (g := wr.heap.size) (cs := #[.int .i64 i0, .bool false, .int .i64 (n : Int), .int .u64 o1, .int .u64 o2, .int .i64 o3, .int .i64 ia, .bool true, .bool true, .int .i64 er, .bool dn, .int .u64 va]) rfl _ rfl rfl (by kernel_rfl) (by intro q hq; simp only [List.mem_cons, List.not_mem_nil, or_false] at hq; rcases hq with rfl | rfl | rfl | rfl | rfl | rfl | rfl | rfl | rfl | rfl | rfl | rfl <;> rfl) E_904.out (rfl) L_E.out B905.out ?_; intro w_906 h1 h2 h3 h4; have X_907 := Aside0.mk ((h3 _ NE_X_E.out).trans X_902.out); have O_908 := Aside0.mk ((h3 _ NE_O_E.out).trans O_903.out); have E_909 := Aside0.mk (h1); have B910 := Aside0.mk (h2); clear h1 h2 h3 h4 X_902 O_903 E_904 B905; have e1 := (blk_cell E_909.out 1).trans (show (#[.int .i64 i0, .bool false, .int .i64 (n : Int), .int .u64 o1, .int .u64 o2, .int .i64 o3, .int .i64 ia, .bool true, .bool true, .int .i64 er, .bool dn, .int .u64 va] : Array Value)[1]? = some _ from rfl); have e2 := (blk_cell E_909.out 2).trans (show (#[.int .i64 i0, .bool false, .int .i64 (n : Int), .int .u64 o1, .int .u64 o2, .int .i64 o3, .int .i64 ia, .bool true, .bool true, .int .i64 er, .bool dn, .int .u64 va] : Array Value)[2]? = some _ from rfl); have e7 := (blk_cell E_909.out 7).trans (show (#[.int .i64 i0, .bool false, .int .i64 (n : Int), .int .u64 o1, .int .u64 o2, .int .i64 o3, .int .i64 ia, .bool true, .bool true, .int .i64 er, .bool dn, .int .u64 va] : Array Value)[7]? = some _ from rfl); have e8 := (blk_cell E_909.out 8).trans (show (#[.int .i64 i0, .bool false, .int .i64 (n : Int), .int .u64 o1, .int .u64 o2, .int .i64 o3, .int .i64 ia, .bool true, .bool true, .int .i64 er, .bool dn, .int .u64 va] : Array Value)[8]? = some _ from rfl); have e9 := (blk_cell E_909.out 9).trans (show (#[.int .i64 i0, .bool false, .int .i64 (n : Int), .int .u64 o1, .int .u64 o2, .int .i64 o3, .int .i64 ia, .bool true, .bool true, .int .i64 er, .bool dn, .int .u64 va] : Array Value)[9]? = some _ from rfl); have e10 := (blk_cell E_909.out 10).trans (show (#[.int .i64 i0, .bool false, .int .i64 (n : Int), .int .u64 o1, .int .u64 o2, .int .i64 o3, .int .i64 ia, .bool true, .bool true, .int .i64 er, .bool dn, .int .u64 va] : Array Value)[10]? = some _ from rfl)))
            obtain ⟨xv0, yv0, qv0⟩ := bump_at (l := acc) (1 + n * 7) (by (try simp only [bump_len]); have := HLA.out; have := QN.out; omega)
            have yv0A := Aside0.mk yv0
            have qv0A := Aside0.mk qv0
            clear yv0 qv0
            refine start_ (n := 10) (S := fun w' => w'.cell? ⟨w.heap.size + 1, 1 + n * 7, none⟩ = some (.int .i64 xv0)) (ds := [9]) (lb 10 0) (by kernel_rfl) rfl rfl ((blk_cell (blk_drew O_908.out) (1 + n * 7)).trans yv0A.out) (fun hHeld => ?_)
            refine pS (v := ?_) (a' := ?_) 0 (some 33) (lb 10 1) rfl rfl (by kernel_rfl) (fun _ _ _ h => h) (by rfl) ?_ ?_ ?_; rotate_left; (intro w'; go_simp; with_reducible rfl); rotate_left; (simp only [Act.put, List.setIfInBounds_toArray, List.set_cons_zero, List.set_cons_succ, i64_w, i32_w]; rfl)
            refine pS (v := ?_) (a' := ?_) 1 (some 34) (lb 10 3) rfl rfl (by kernel_rfl) (fun _ _ _ h => h) (by rfl) ?_ ?_ ?_; rotate_left; (intro w'; go_simp; with_reducible rfl); rotate_left; (simp only [Act.put, List.setIfInBounds_toArray, List.set_cons_zero, List.set_cons_succ, i64_w, i32_w]; rfl)
            refine pS (v := ?_) (a' := ?_) 2 (some 35) (lb 10 7) rfl rfl (by kernel_rfl) (fun _ _ _ h => h) (by rfl) ?_ ?_ ?_; rotate_left; (intro w'; go_simp; with_reducible rfl); rotate_left; (simp only [Act.put, List.setIfInBounds_toArray, List.set_cons_zero, List.set_cons_succ, i64_w, i32_w]; rfl)
            refine pS (v := ?_) (a' := ?_) 3 (some 36) (lb 10 15) rfl rfl (by kernel_rfl) (fun _ _ _ h => h) (by rfl) ?_ ?_ ?_; rotate_left; (intro w'; go_simp; with_reducible rfl); rotate_left; (simp only [Act.put, List.setIfInBounds_toArray, List.set_cons_zero, List.set_cons_succ, i64_w, i32_w]; rfl)
            refine pS (v := ?_) (a' := ?_) 6 (some 39) (lb 10 79) rfl rfl (by kernel_rfl) (fun _ _ _ h => h) (by rfl) ?_ ?_ ?_; rotate_left; (intro w'; go_simp; with_reducible rfl); rotate_left; (simp only [Act.put, List.setIfInBounds_toArray, List.set_cons_zero, List.set_cons_succ, i64_w, i32_w]; rfl)
            refine pS (v := ?_) (a' := ?_) 7 (some 40) (lb 10 207) rfl rfl (by kernel_rfl) (fun _ _ _ h => h) (by rfl) ?_ ?_ ?_; rotate_left; (intro w'; go_simp; with_reducible rfl); rotate_left; (simp only [Act.put, List.setIfInBounds_toArray, List.set_cons_zero, List.set_cons_succ, i64_w, i32_w]; rfl)
            refine tS (v := ?_) (a' := ?_) 4 (some 37) (lb 10 223) rfl rfl (by kernel_rfl) (fun _ _ _ h => h) hHeld (by rfl) ?_ ?_ ?_; rotate_left; (rintro w' s0; go_simp; with_reducible rfl); rotate_left; (simp only [Act.put, List.setIfInBounds_toArray, List.set_cons_zero, List.set_cons_succ, i64_w, i32_w]; rfl)
            refine pS (v := ?_) (a' := ?_) 5 (some 38) (lb 10 255) rfl rfl (by kernel_rfl) (fun _ _ _ h => h) (by rfl) ?_ ?_ ?_; rotate_left; (intro w'; go_simp; with_reducible rfl); rotate_left; (simp only [Act.put, List.setIfInBounds_toArray, List.set_cons_zero, List.set_cons_succ, i64_w, i32_w]; rfl)
            refine pS (v := ?_) (a' := ?_) 8 (some 41) (lb 10 511) rfl rfl (by kernel_rfl) (fun _ _ _ h => h) (by rfl) ?_ ?_ ?_; rotate_left; (intro w'; go_simp; with_reducible rfl); rotate_left; (simp only [Act.put, List.setIfInBounds_toArray, List.set_cons_zero, List.set_cons_succ, i64_w, i32_w]; rfl)
            refine last_ (i := 9) (N := none) (lb 10 1023) rfl rfl (by kernel_rfl) (by decide) (fun K hK => ?_)
            refine skip_cell (w := w) 3 (.tmp 41) (.tmp 38) (by rfl) rfl rfl (g := w.heap.size + 1) (1 + n * 7) ?_ (.int .i64 (wrap64 (xv0 + 1))) ?_ rfl (by kernel_rfl) rfl (blk_drew O_908.out) (by rw [TV_size]; (try simp only [bump_len]); have := HLA.out; have := QN.out; omega) L_O.out (below_drew B910.out) ?_
            · rfl
            · rfl
            intro wz10 h1 h2 h3
            have X_911 := Aside0.mk ((h3 _ NE_X_O.out).trans (blk_drew X_907.out))
            have E_912 := Aside0.mk ((h3 _ (Ne.symm NE_O_E.out)).trans (blk_drew E_909.out))
            have O_913 := Aside0.mk (show wz10.heap[w.heap.size + 1]? = some (.cells (TV (bump (acc) (1 + n * 7))) 56 (0, 0)) from by rw [h1, TV_set, qv0A.out])
            have B914 := Aside0.mk h2
            clear h1 h2 h3 yv0A qv0A X_907 E_909 O_908 B910
            refine hK.out _ _ ?_
            clear hK K
            refine done_ (by kernel_rfl) ?_
            have e1 := (blk_cell E_912.out 1).trans (show (#[.int .i64 i0, .bool false, .int .i64 (n : Int), .int .u64 o1, .int .u64 o2, .int .i64 o3, .int .i64 ia, .bool true, .bool true, .int .i64 er, .bool dn, .int .u64 va] : Array Value)[1]? = some _ from rfl)
            have e2 := (blk_cell E_912.out 2).trans (show (#[.int .i64 i0, .bool false, .int .i64 (n : Int), .int .u64 o1, .int .u64 o2, .int .i64 o3, .int .i64 ia, .bool true, .bool true, .int .i64 er, .bool dn, .int .u64 va] : Array Value)[2]? = some _ from rfl)
            have e7 := (blk_cell E_912.out 7).trans (show (#[.int .i64 i0, .bool false, .int .i64 (n : Int), .int .u64 o1, .int .u64 o2, .int .i64 o3, .int .i64 ia, .bool true, .bool true, .int .i64 er, .bool dn, .int .u64 va] : Array Value)[7]? = some _ from rfl)
            have e8 := (blk_cell E_912.out 8).trans (show (#[.int .i64 i0, .bool false, .int .i64 (n : Int), .int .u64 o1, .int .u64 o2, .int .i64 o3, .int .i64 ia, .bool true, .bool true, .int .i64 er, .bool dn, .int .u64 va] : Array Value)[8]? = some _ from rfl)
            have e9 := (blk_cell E_912.out 9).trans (show (#[.int .i64 i0, .bool false, .int .i64 (n : Int), .int .u64 o1, .int .u64 o2, .int .i64 o3, .int .i64 ia, .bool true, .bool true, .int .i64 er, .bool dn, .int .u64 va] : Array Value)[9]? = some _ from rfl)
            have e10 := (blk_cell E_912.out 10).trans (show (#[.int .i64 i0, .bool false, .int .i64 (n : Int), .int .u64 o1, .int .u64 o2, .int .i64 o3, .int .i64 ia, .bool true, .bool true, .int .i64 er, .bool dn, .int .u64 va] : Array Value)[10]? = some _ from rfl)
            go_wp2_with fail
            obtain ⟨xv1, yv1, qv1⟩ := bump_at (l := bump (acc) (1 + n * 7)) (1 + n * 7 + 1) (by (try simp only [bump_len]); have := HLA.out; have := QN.out; omega)
            have yv1A := Aside0.mk yv1
            have qv1A := Aside0.mk qv1
            clear yv1 qv1
            refine start_ (n := 10) (S := fun w' => w'.cell? ⟨w.heap.size + 1, 1 + n * 7 + 1, none⟩ = some (.int .i64 xv1)) (ds := [9]) (lb 10 0) (by kernel_rfl) rfl rfl ((blk_cell (blk_drew O_913.out) (1 + n * 7 + 1)).trans yv1A.out) (fun hHeld => ?_)
            refine pS (v := ?_) (a' := ?_) 0 (some 44) (lb 10 1) rfl rfl (by kernel_rfl) (fun _ _ _ h => h) (by rfl) ?_ ?_ ?_; rotate_left; (intro w'; go_simp; with_reducible rfl); rotate_left; (simp only [Act.put, List.setIfInBounds_toArray, List.set_cons_zero, List.set_cons_succ, i64_w, i32_w]; rfl)
            refine pS (v := ?_) (a' := ?_) 1 (some 45) (lb 10 3) rfl rfl (by kernel_rfl) (fun _ _ _ h => h) (by rfl) ?_ ?_ ?_; rotate_left; (intro w'; go_simp; with_reducible rfl); rotate_left; (simp only [Act.put, List.setIfInBounds_toArray, List.set_cons_zero, List.set_cons_succ, i64_w, i32_w]; rfl)
            refine pS (v := ?_) (a' := ?_) 2 (some 46) (lb 10 7) rfl rfl (by kernel_rfl) (fun _ _ _ h => h) (by rfl) ?_ ?_ ?_; rotate_left; (intro w'; go_simp; with_reducible rfl); rotate_left; (simp only [Act.put, List.setIfInBounds_toArray, List.set_cons_zero, List.set_cons_succ, i64_w, i32_w]; rfl)
            refine pS (v := ?_) (a' := ?_) 3 (some 47) (lb 10 15) rfl rfl (by kernel_rfl) (fun _ _ _ h => h) (by rfl) ?_ ?_ ?_; rotate_left; (intro w'; go_simp; with_reducible rfl); rotate_left; (simp only [Act.put, List.setIfInBounds_toArray, List.set_cons_zero, List.set_cons_succ, i64_w, i32_w]; rfl)
            refine pS (v := ?_) (a' := ?_) 6 (some 50) (lb 10 79) rfl rfl (by kernel_rfl) (fun _ _ _ h => h) (by rfl) ?_ ?_ ?_; rotate_left; (intro w'; go_simp; with_reducible rfl); rotate_left; (simp only [Act.put, List.setIfInBounds_toArray, List.set_cons_zero, List.set_cons_succ, i64_w, i32_w]; rfl)
            refine pS (v := ?_) (a' := ?_) 7 (some 51) (lb 10 207) rfl rfl (by kernel_rfl) (fun _ _ _ h => h) (by rfl) ?_ ?_ ?_; rotate_left; (intro w'; go_simp; with_reducible rfl); rotate_left; (simp only [Act.put, List.setIfInBounds_toArray, List.set_cons_zero, List.set_cons_succ, i64_w, i32_w]; rfl)
            refine tS (v := ?_) (a' := ?_) 4 (some 48) (lb 10 223) rfl rfl (by kernel_rfl) (fun _ _ _ h => h) hHeld (by rfl) ?_ ?_ ?_; rotate_left; (rintro w' s0; go_simp; with_reducible rfl); rotate_left; (simp only [Act.put, List.setIfInBounds_toArray, List.set_cons_zero, List.set_cons_succ, i64_w, i32_w]; rfl)
            refine pS (v := ?_) (a' := ?_) 5 (some 49) (lb 10 255) rfl rfl (by kernel_rfl) (fun _ _ _ h => h) (by rfl) ?_ ?_ ?_; rotate_left; (intro w'; go_simp; with_reducible rfl); rotate_left; (simp only [Act.put, List.setIfInBounds_toArray, List.set_cons_zero, List.set_cons_succ, i64_w, i32_w]; rfl)
            refine pS (v := ?_) (a' := ?_) 8 (some 52) (lb 10 511) rfl rfl (by kernel_rfl) (fun _ _ _ h => h) (by rfl) ?_ ?_ ?_; rotate_left; (intro w'; go_simp; with_reducible rfl); rotate_left; (simp only [Act.put, List.setIfInBounds_toArray, List.set_cons_zero, List.set_cons_succ, i64_w, i32_w]; rfl)
            refine last_ (i := 9) (N := none) (lb 10 1023) rfl rfl (by kernel_rfl) (by decide) (fun K hK => ?_)
            refine skip_cell (w := w) 3 (.tmp 52) (.tmp 49) (by rfl) rfl rfl (g := w.heap.size + 1) (1 + n * 7 + 1) ?_ (.int .i64 (wrap64 (xv1 + 1))) ?_ rfl (by kernel_rfl) rfl (blk_drew O_913.out) (by rw [TV_size]; (try simp only [bump_len]); have := HLA.out; have := QN.out; omega) L_O.out (below_drew B914.out) ?_
            · rfl
            · rfl
            intro wz12 h1 h2 h3
            have X_915 := Aside0.mk ((h3 _ NE_X_O.out).trans (blk_drew X_911.out))
            have E_916 := Aside0.mk ((h3 _ (Ne.symm NE_O_E.out)).trans (blk_drew E_912.out))
            have O_917 := Aside0.mk (show wz12.heap[w.heap.size + 1]? = some (.cells (TV (bump (bump (acc) (1 + n * 7)) (1 + n * 7 + 1))) 56 (0, 0)) from by rw [h1, TV_set, qv1A.out])
            have B918 := Aside0.mk h2
            clear h1 h2 h3 yv1A qv1A X_911 E_912 O_913 B914
            refine hK.out _ _ ?_
            clear hK K
            refine done_ (by kernel_rfl) ?_
            have e1 := (blk_cell E_916.out 1).trans (show (#[.int .i64 i0, .bool false, .int .i64 (n : Int), .int .u64 o1, .int .u64 o2, .int .i64 o3, .int .i64 ia, .bool true, .bool true, .int .i64 er, .bool dn, .int .u64 va] : Array Value)[1]? = some _ from rfl)
            have e2 := (blk_cell E_916.out 2).trans (show (#[.int .i64 i0, .bool false, .int .i64 (n : Int), .int .u64 o1, .int .u64 o2, .int .i64 o3, .int .i64 ia, .bool true, .bool true, .int .i64 er, .bool dn, .int .u64 va] : Array Value)[2]? = some _ from rfl)
            have e7 := (blk_cell E_916.out 7).trans (show (#[.int .i64 i0, .bool false, .int .i64 (n : Int), .int .u64 o1, .int .u64 o2, .int .i64 o3, .int .i64 ia, .bool true, .bool true, .int .i64 er, .bool dn, .int .u64 va] : Array Value)[7]? = some _ from rfl)
            have e8 := (blk_cell E_916.out 8).trans (show (#[.int .i64 i0, .bool false, .int .i64 (n : Int), .int .u64 o1, .int .u64 o2, .int .i64 o3, .int .i64 ia, .bool true, .bool true, .int .i64 er, .bool dn, .int .u64 va] : Array Value)[8]? = some _ from rfl)
            have e9 := (blk_cell E_916.out 9).trans (show (#[.int .i64 i0, .bool false, .int .i64 (n : Int), .int .u64 o1, .int .u64 o2, .int .i64 o3, .int .i64 ia, .bool true, .bool true, .int .i64 er, .bool dn, .int .u64 va] : Array Value)[9]? = some _ from rfl)
            have e10 := (blk_cell E_916.out 10).trans (show (#[.int .i64 i0, .bool false, .int .i64 (n : Int), .int .u64 o1, .int .u64 o2, .int .i64 o3, .int .i64 ia, .bool true, .bool true, .int .i64 er, .bool dn, .int .u64 va] : Array Value)[10]? = some _ from rfl)
            go_wp2_with fail
            obtain ⟨xv2, yv2, qv2⟩ := bump_at (l := bump (bump (acc) (1 + n * 7)) (1 + n * 7 + 1)) (1 + n * 7 + 2) (by (try simp only [bump_len]); have := HLA.out; have := QN.out; omega)
            have yv2A := Aside0.mk yv2
            have qv2A := Aside0.mk qv2
            clear yv2 qv2
            refine start_ (n := 10) (S := fun w' => w'.cell? ⟨w.heap.size + 1, 1 + n * 7 + 2, none⟩ = some (.int .i64 xv2)) (ds := [9]) (lb 10 0) (by kernel_rfl) rfl rfl ((blk_cell (blk_drew O_917.out) (1 + n * 7 + 2)).trans yv2A.out) (fun hHeld => ?_)
            refine pS (v := ?_) (a' := ?_) 0 (some 55) (lb 10 1) rfl rfl (by kernel_rfl) (fun _ _ _ h => h) (by rfl) ?_ ?_ ?_; rotate_left; (intro w'; go_simp; with_reducible rfl); rotate_left; (simp only [Act.put, List.setIfInBounds_toArray, List.set_cons_zero, List.set_cons_succ, i64_w, i32_w]; rfl)
            refine pS (v := ?_) (a' := ?_) 1 (some 56) (lb 10 3) rfl rfl (by kernel_rfl) (fun _ _ _ h => h) (by rfl) ?_ ?_ ?_; rotate_left; (intro w'; go_simp; with_reducible rfl); rotate_left; (simp only [Act.put, List.setIfInBounds_toArray, List.set_cons_zero, List.set_cons_succ, i64_w, i32_w]; rfl)
            refine pS (v := ?_) (a' := ?_) 2 (some 57) (lb 10 7) rfl rfl (by kernel_rfl) (fun _ _ _ h => h) (by rfl) ?_ ?_ ?_; rotate_left; (intro w'; go_simp; with_reducible rfl); rotate_left; (simp only [Act.put, List.setIfInBounds_toArray, List.set_cons_zero, List.set_cons_succ, i64_w, i32_w]; rfl)
            refine pS (v := ?_) (a' := ?_) 3 (some 58) (lb 10 15) rfl rfl (by kernel_rfl) (fun _ _ _ h => h) (by rfl) ?_ ?_ ?_; rotate_left; (intro w'; go_simp; with_reducible rfl); rotate_left; (simp only [Act.put, List.setIfInBounds_toArray, List.set_cons_zero, List.set_cons_succ, i64_w, i32_w]; rfl)
            refine pS (v := ?_) (a' := ?_) 6 (some 61) (lb 10 79) rfl rfl (by kernel_rfl) (fun _ _ _ h => h) (by rfl) ?_ ?_ ?_; rotate_left; (intro w'; go_simp; with_reducible rfl); rotate_left; (simp only [Act.put, List.setIfInBounds_toArray, List.set_cons_zero, List.set_cons_succ, i64_w, i32_w]; rfl)
            refine pS (v := ?_) (a' := ?_) 7 (some 62) (lb 10 207) rfl rfl (by kernel_rfl) (fun _ _ _ h => h) (by rfl) ?_ ?_ ?_; rotate_left; (intro w'; go_simp; with_reducible rfl); rotate_left; (simp only [Act.put, List.setIfInBounds_toArray, List.set_cons_zero, List.set_cons_succ, i64_w, i32_w]; rfl)
            refine tS (v := ?_) (a' := ?_) 4 (some 59) (lb 10 223) rfl rfl (by kernel_rfl) (fun _ _ _ h => h) hHeld (by rfl) ?_ ?_ ?_; rotate_left; (rintro w' s0; go_simp; with_reducible rfl); rotate_left; (simp only [Act.put, List.setIfInBounds_toArray, List.set_cons_zero, List.set_cons_succ, i64_w, i32_w]; rfl)
            refine pS (v := ?_) (a' := ?_) 5 (some 60) (lb 10 255) rfl rfl (by kernel_rfl) (fun _ _ _ h => h) (by rfl) ?_ ?_ ?_; rotate_left; (intro w'; go_simp; with_reducible rfl); rotate_left; (simp only [Act.put, List.setIfInBounds_toArray, List.set_cons_zero, List.set_cons_succ, i64_w, i32_w]; rfl)
            refine pS (v := ?_) (a' := ?_) 8 (some 63) (lb 10 511) rfl rfl (by kernel_rfl) (fun _ _ _ h => h) (by rfl) ?_ ?_ ?_; rotate_left; (intro w'; go_simp; with_reducible rfl); rotate_left; (simp only [Act.put, List.setIfInBounds_toArray, List.set_cons_zero, List.set_cons_succ, i64_w, i32_w]; rfl)
            refine last_ (i := 9) (N := none) (lb 10 1023) rfl rfl (by kernel_rfl) (by decide) (fun K hK => ?_)
            refine skip_cell (w := w) 3 (.tmp 63) (.tmp 60) (by rfl) rfl rfl (g := w.heap.size + 1) (1 + n * 7 + 2) ?_ (.int .i64 (wrap64 (xv2 + 1))) ?_ rfl (by kernel_rfl) rfl (blk_drew O_917.out) (by rw [TV_size]; (try simp only [bump_len]); have := HLA.out; have := QN.out; omega) L_O.out (below_drew B918.out) ?_
            · rfl
            · rfl
            intro wz14 h1 h2 h3
            have X_919 := Aside0.mk ((h3 _ NE_X_O.out).trans (blk_drew X_915.out))
            have E_920 := Aside0.mk ((h3 _ (Ne.symm NE_O_E.out)).trans (blk_drew E_916.out))
            have O_921 := Aside0.mk (show wz14.heap[w.heap.size + 1]? = some (.cells (TV (bump (bump (bump (acc) (1 + n * 7)) (1 + n * 7 + 1)) (1 + n * 7 + 2))) 56 (0, 0)) from by rw [h1, TV_set, qv2A.out])
            have B922 := Aside0.mk h2
            clear h1 h2 h3 yv2A qv2A X_915 E_916 O_917 B918
            refine hK.out _ _ ?_
            clear hK K
            refine done_ (by kernel_rfl) ?_
            have e1 := (blk_cell E_920.out 1).trans (show (#[.int .i64 i0, .bool false, .int .i64 (n : Int), .int .u64 o1, .int .u64 o2, .int .i64 o3, .int .i64 ia, .bool true, .bool true, .int .i64 er, .bool dn, .int .u64 va] : Array Value)[1]? = some _ from rfl)
            have e2 := (blk_cell E_920.out 2).trans (show (#[.int .i64 i0, .bool false, .int .i64 (n : Int), .int .u64 o1, .int .u64 o2, .int .i64 o3, .int .i64 ia, .bool true, .bool true, .int .i64 er, .bool dn, .int .u64 va] : Array Value)[2]? = some _ from rfl)
            have e7 := (blk_cell E_920.out 7).trans (show (#[.int .i64 i0, .bool false, .int .i64 (n : Int), .int .u64 o1, .int .u64 o2, .int .i64 o3, .int .i64 ia, .bool true, .bool true, .int .i64 er, .bool dn, .int .u64 va] : Array Value)[7]? = some _ from rfl)
            have e8 := (blk_cell E_920.out 8).trans (show (#[.int .i64 i0, .bool false, .int .i64 (n : Int), .int .u64 o1, .int .u64 o2, .int .i64 o3, .int .i64 ia, .bool true, .bool true, .int .i64 er, .bool dn, .int .u64 va] : Array Value)[8]? = some _ from rfl)
            have e9 := (blk_cell E_920.out 9).trans (show (#[.int .i64 i0, .bool false, .int .i64 (n : Int), .int .u64 o1, .int .u64 o2, .int .i64 o3, .int .i64 ia, .bool true, .bool true, .int .i64 er, .bool dn, .int .u64 va] : Array Value)[9]? = some _ from rfl)
            have e10 := (blk_cell E_920.out 10).trans (show (#[.int .i64 i0, .bool false, .int .i64 (n : Int), .int .u64 o1, .int .u64 o2, .int .i64 o3, .int .i64 ia, .bool true, .bool true, .int .i64 er, .bool dn, .int .u64 va] : Array Value)[10]? = some _ from rfl)
            go_wp2_with fail
            go_roundg ko
            case rel => exact ⟨k + 1, by first | rfl | rw [wi], ⟨by have := HK.out; omega⟩, ⟨B922.out⟩, ⟨X_919.out⟩, ⟨by rw [HST.out, HE.out]; exact O_921.out⟩⟩
            case measure => exact Nat.lt_succ_self _
        | false =>
          cases over with
          | false =>
            have HE := Aside0.mk (show stepE acc (toE ⟨i0, false, ⟨(n : Int), o1, o2, o3⟩, ia, false, false, ⟨er, dn, va⟩⟩) = bump acc (1 + n * 7) from by unfold stepE toE; dsimp only; rw [if_neg (by decide), if_neg K1.out, if_neg K8.out, Int.toNat_natCast]; simp [overV])
            go_wp2_with (first
              | ((with_reducible refine wpSt 82 (.tmp 5) (.tmp 17) ?_); refine store_whole (w := w) (B := w.heap.size) rfl rfl 82 (.tmp 5) (.tmp 17) rfl (g := wr.heap.size) (cs := #[.int .i64 i0, .bool false, .int .i64 (n : Int), .int .u64 o1, .int .u64 o2, .int .i64 o3, .int .i64 ia, .bool false, .bool false, .int .i64 er, .bool dn, .int .u64 va]) rfl _ rfl rfl (by kernel_rfl) (by intro q hq; simp only [List.mem_cons, List.not_mem_nil, or_false] at hq; rcases hq with rfl | rfl | rfl | rfl | rfl | rfl | rfl | rfl | rfl | rfl | rfl | rfl <;> rfl) E_904.out (rfl) L_E.out B905.out ?_; intro w_906 h1 h2 h3 h4; have X_907 := Aside0.mk ((h3 _ NE_X_E.out).trans X_902.out); have O_908 := Aside0.mk ((h3 _ NE_O_E.out).trans O_903.out); have E_909 := Aside0.mk (h1); have B910 := Aside0.mk (h2); clear h1 h2 h3 h4 X_902 O_903 E_904 B905; have e1 := (blk_cell E_909.out 1).trans (show (#[.int .i64 i0, .bool false, .int .i64 (n : Int), .int .u64 o1, .int .u64 o2, .int .i64 o3, .int .i64 ia, .bool false, .bool false, .int .i64 er, .bool dn, .int .u64 va] : Array Value)[1]? = some _ from rfl); have e2 := (blk_cell E_909.out 2).trans (show (#[.int .i64 i0, .bool false, .int .i64 (n : Int), .int .u64 o1, .int .u64 o2, .int .i64 o3, .int .i64 ia, .bool false, .bool false, .int .i64 er, .bool dn, .int .u64 va] : Array Value)[2]? = some _ from rfl); have e7 := (blk_cell E_909.out 7).trans (show (#[.int .i64 i0, .bool false, .int .i64 (n : Int), .int .u64 o1, .int .u64 o2, .int .i64 o3, .int .i64 ia, .bool false, .bool false, .int .i64 er, .bool dn, .int .u64 va] : Array Value)[7]? = some _ from rfl); have e8 := (blk_cell E_909.out 8).trans (show (#[.int .i64 i0, .bool false, .int .i64 (n : Int), .int .u64 o1, .int .u64 o2, .int .i64 o3, .int .i64 ia, .bool false, .bool false, .int .i64 er, .bool dn, .int .u64 va] : Array Value)[8]? = some _ from rfl); have e9 := (blk_cell E_909.out 9).trans (show (#[.int .i64 i0, .bool false, .int .i64 (n : Int), .int .u64 o1, .int .u64 o2, .int .i64 o3, .int .i64 ia, .bool false, .bool false, .int .i64 er, .bool dn, .int .u64 va] : Array Value)[9]? = some _ from rfl); have e10 := (blk_cell E_909.out 10).trans (show (#[.int .i64 i0, .bool false, .int .i64 (n : Int), .int .u64 o1, .int .u64 o2, .int .i64 o3, .int .i64 ia, .bool false, .bool false, .int .i64 er, .bool dn, .int .u64 va] : Array Value)[10]? = some _ from rfl)))
            obtain ⟨xv0, yv0, qv0⟩ := bump_at (l := acc) (1 + n * 7) (by (try simp only [bump_len]); have := HLA.out; have := QN.out; omega)
            have yv0A := Aside0.mk yv0
            have qv0A := Aside0.mk qv0
            clear yv0 qv0
            refine start_ (n := 10) (S := fun w' => w'.cell? ⟨w.heap.size + 1, 1 + n * 7, none⟩ = some (.int .i64 xv0)) (ds := [9]) (lb 10 0) (by kernel_rfl) rfl rfl ((blk_cell (blk_drew O_908.out) (1 + n * 7)).trans yv0A.out) (fun hHeld => ?_)
            refine pS (v := ?_) (a' := ?_) 0 (some 33) (lb 10 1) rfl rfl (by kernel_rfl) (fun _ _ _ h => h) (by rfl) ?_ ?_ ?_; rotate_left; (intro w'; go_simp; with_reducible rfl); rotate_left; (simp only [Act.put, List.setIfInBounds_toArray, List.set_cons_zero, List.set_cons_succ, i64_w, i32_w]; rfl)
            refine pS (v := ?_) (a' := ?_) 1 (some 34) (lb 10 3) rfl rfl (by kernel_rfl) (fun _ _ _ h => h) (by rfl) ?_ ?_ ?_; rotate_left; (intro w'; go_simp; with_reducible rfl); rotate_left; (simp only [Act.put, List.setIfInBounds_toArray, List.set_cons_zero, List.set_cons_succ, i64_w, i32_w]; rfl)
            refine pS (v := ?_) (a' := ?_) 2 (some 35) (lb 10 7) rfl rfl (by kernel_rfl) (fun _ _ _ h => h) (by rfl) ?_ ?_ ?_; rotate_left; (intro w'; go_simp; with_reducible rfl); rotate_left; (simp only [Act.put, List.setIfInBounds_toArray, List.set_cons_zero, List.set_cons_succ, i64_w, i32_w]; rfl)
            refine pS (v := ?_) (a' := ?_) 3 (some 36) (lb 10 15) rfl rfl (by kernel_rfl) (fun _ _ _ h => h) (by rfl) ?_ ?_ ?_; rotate_left; (intro w'; go_simp; with_reducible rfl); rotate_left; (simp only [Act.put, List.setIfInBounds_toArray, List.set_cons_zero, List.set_cons_succ, i64_w, i32_w]; rfl)
            refine pS (v := ?_) (a' := ?_) 6 (some 39) (lb 10 79) rfl rfl (by kernel_rfl) (fun _ _ _ h => h) (by rfl) ?_ ?_ ?_; rotate_left; (intro w'; go_simp; with_reducible rfl); rotate_left; (simp only [Act.put, List.setIfInBounds_toArray, List.set_cons_zero, List.set_cons_succ, i64_w, i32_w]; rfl)
            refine pS (v := ?_) (a' := ?_) 7 (some 40) (lb 10 207) rfl rfl (by kernel_rfl) (fun _ _ _ h => h) (by rfl) ?_ ?_ ?_; rotate_left; (intro w'; go_simp; with_reducible rfl); rotate_left; (simp only [Act.put, List.setIfInBounds_toArray, List.set_cons_zero, List.set_cons_succ, i64_w, i32_w]; rfl)
            refine tS (v := ?_) (a' := ?_) 4 (some 37) (lb 10 223) rfl rfl (by kernel_rfl) (fun _ _ _ h => h) hHeld (by rfl) ?_ ?_ ?_; rotate_left; (rintro w' s0; go_simp; with_reducible rfl); rotate_left; (simp only [Act.put, List.setIfInBounds_toArray, List.set_cons_zero, List.set_cons_succ, i64_w, i32_w]; rfl)
            refine pS (v := ?_) (a' := ?_) 5 (some 38) (lb 10 255) rfl rfl (by kernel_rfl) (fun _ _ _ h => h) (by rfl) ?_ ?_ ?_; rotate_left; (intro w'; go_simp; with_reducible rfl); rotate_left; (simp only [Act.put, List.setIfInBounds_toArray, List.set_cons_zero, List.set_cons_succ, i64_w, i32_w]; rfl)
            refine pS (v := ?_) (a' := ?_) 8 (some 41) (lb 10 511) rfl rfl (by kernel_rfl) (fun _ _ _ h => h) (by rfl) ?_ ?_ ?_; rotate_left; (intro w'; go_simp; with_reducible rfl); rotate_left; (simp only [Act.put, List.setIfInBounds_toArray, List.set_cons_zero, List.set_cons_succ, i64_w, i32_w]; rfl)
            refine last_ (i := 9) (N := none) (lb 10 1023) rfl rfl (by kernel_rfl) (by decide) (fun K hK => ?_)
            refine skip_cell (w := w) 3 (.tmp 41) (.tmp 38) (by rfl) rfl rfl (g := w.heap.size + 1) (1 + n * 7) ?_ (.int .i64 (wrap64 (xv0 + 1))) ?_ rfl (by kernel_rfl) rfl (blk_drew O_908.out) (by rw [TV_size]; (try simp only [bump_len]); have := HLA.out; have := QN.out; omega) L_O.out (below_drew B910.out) ?_
            · rfl
            · rfl
            intro wz10 h1 h2 h3
            have X_911 := Aside0.mk ((h3 _ NE_X_O.out).trans (blk_drew X_907.out))
            have E_912 := Aside0.mk ((h3 _ (Ne.symm NE_O_E.out)).trans (blk_drew E_909.out))
            have O_913 := Aside0.mk (show wz10.heap[w.heap.size + 1]? = some (.cells (TV (bump (acc) (1 + n * 7))) 56 (0, 0)) from by rw [h1, TV_set, qv0A.out])
            have B914 := Aside0.mk h2
            clear h1 h2 h3 yv0A qv0A X_907 E_909 O_908 B910
            refine hK.out _ _ ?_
            clear hK K
            refine done_ (by kernel_rfl) ?_
            have e1 := (blk_cell E_912.out 1).trans (show (#[.int .i64 i0, .bool false, .int .i64 (n : Int), .int .u64 o1, .int .u64 o2, .int .i64 o3, .int .i64 ia, .bool false, .bool false, .int .i64 er, .bool dn, .int .u64 va] : Array Value)[1]? = some _ from rfl)
            have e2 := (blk_cell E_912.out 2).trans (show (#[.int .i64 i0, .bool false, .int .i64 (n : Int), .int .u64 o1, .int .u64 o2, .int .i64 o3, .int .i64 ia, .bool false, .bool false, .int .i64 er, .bool dn, .int .u64 va] : Array Value)[2]? = some _ from rfl)
            have e7 := (blk_cell E_912.out 7).trans (show (#[.int .i64 i0, .bool false, .int .i64 (n : Int), .int .u64 o1, .int .u64 o2, .int .i64 o3, .int .i64 ia, .bool false, .bool false, .int .i64 er, .bool dn, .int .u64 va] : Array Value)[7]? = some _ from rfl)
            have e8 := (blk_cell E_912.out 8).trans (show (#[.int .i64 i0, .bool false, .int .i64 (n : Int), .int .u64 o1, .int .u64 o2, .int .i64 o3, .int .i64 ia, .bool false, .bool false, .int .i64 er, .bool dn, .int .u64 va] : Array Value)[8]? = some _ from rfl)
            have e9 := (blk_cell E_912.out 9).trans (show (#[.int .i64 i0, .bool false, .int .i64 (n : Int), .int .u64 o1, .int .u64 o2, .int .i64 o3, .int .i64 ia, .bool false, .bool false, .int .i64 er, .bool dn, .int .u64 va] : Array Value)[9]? = some _ from rfl)
            have e10 := (blk_cell E_912.out 10).trans (show (#[.int .i64 i0, .bool false, .int .i64 (n : Int), .int .u64 o1, .int .u64 o2, .int .i64 o3, .int .i64 ia, .bool false, .bool false, .int .i64 er, .bool dn, .int .u64 va] : Array Value)[10]? = some _ from rfl)
            go_wp2_with fail
            go_roundg ko
            case rel => exact ⟨k + 1, by first | rfl | rw [wi], ⟨by have := HK.out; omega⟩, ⟨B914.out⟩, ⟨X_911.out⟩, ⟨by rw [HST.out, HE.out]; exact O_913.out⟩⟩
            case measure => exact Nat.lt_succ_self _
          | true =>
            by_cases c6 : er = 6
            · subst c6
              have HE := Aside0.mk (show stepE acc (toE ⟨i0, false, ⟨(n : Int), o1, o2, o3⟩, ia, false, true, ⟨6, dn, va⟩⟩) = bump (bump (bump acc (1 + n * 7)) (1 + n * 7 + 2)) (1 + n * 7 + 5) from by unfold stepE toE; dsimp only; rw [if_neg (by decide), if_neg K1.out, if_neg K8.out, Int.toNat_natCast]; simp [overV])
              go_wp2_with (first
                | ((with_reducible refine wpSt 82 (.tmp 5) (.tmp 17) ?_); refine store_whole (w := w) (B := w.heap.size) rfl rfl 82 (.tmp 5) (.tmp 17) rfl (g := wr.heap.size) (cs := #[.int .i64 i0, .bool false, .int .i64 (n : Int), .int .u64 o1, .int .u64 o2, .int .i64 o3, .int .i64 ia, .bool false, .bool true, .int .i64 6, .bool dn, .int .u64 va]) rfl _ rfl rfl (by kernel_rfl) (by intro q hq; simp only [List.mem_cons, List.not_mem_nil, or_false] at hq; rcases hq with rfl | rfl | rfl | rfl | rfl | rfl | rfl | rfl | rfl | rfl | rfl | rfl <;> rfl) E_904.out (rfl) L_E.out B905.out ?_; intro w_906 h1 h2 h3 h4; have X_907 := Aside0.mk ((h3 _ NE_X_E.out).trans X_902.out); have O_908 := Aside0.mk ((h3 _ NE_O_E.out).trans O_903.out); have E_909 := Aside0.mk (h1); have B910 := Aside0.mk (h2); clear h1 h2 h3 h4 X_902 O_903 E_904 B905; have e1 := (blk_cell E_909.out 1).trans (show (#[.int .i64 i0, .bool false, .int .i64 (n : Int), .int .u64 o1, .int .u64 o2, .int .i64 o3, .int .i64 ia, .bool false, .bool true, .int .i64 6, .bool dn, .int .u64 va] : Array Value)[1]? = some _ from rfl); have e2 := (blk_cell E_909.out 2).trans (show (#[.int .i64 i0, .bool false, .int .i64 (n : Int), .int .u64 o1, .int .u64 o2, .int .i64 o3, .int .i64 ia, .bool false, .bool true, .int .i64 6, .bool dn, .int .u64 va] : Array Value)[2]? = some _ from rfl); have e7 := (blk_cell E_909.out 7).trans (show (#[.int .i64 i0, .bool false, .int .i64 (n : Int), .int .u64 o1, .int .u64 o2, .int .i64 o3, .int .i64 ia, .bool false, .bool true, .int .i64 6, .bool dn, .int .u64 va] : Array Value)[7]? = some _ from rfl); have e8 := (blk_cell E_909.out 8).trans (show (#[.int .i64 i0, .bool false, .int .i64 (n : Int), .int .u64 o1, .int .u64 o2, .int .i64 o3, .int .i64 ia, .bool false, .bool true, .int .i64 6, .bool dn, .int .u64 va] : Array Value)[8]? = some _ from rfl); have e9 := (blk_cell E_909.out 9).trans (show (#[.int .i64 i0, .bool false, .int .i64 (n : Int), .int .u64 o1, .int .u64 o2, .int .i64 o3, .int .i64 ia, .bool false, .bool true, .int .i64 6, .bool dn, .int .u64 va] : Array Value)[9]? = some _ from rfl); have e10 := (blk_cell E_909.out 10).trans (show (#[.int .i64 i0, .bool false, .int .i64 (n : Int), .int .u64 o1, .int .u64 o2, .int .i64 o3, .int .i64 ia, .bool false, .bool true, .int .i64 6, .bool dn, .int .u64 va] : Array Value)[10]? = some _ from rfl)))
              obtain ⟨xv0, yv0, qv0⟩ := bump_at (l := acc) (1 + n * 7) (by (try simp only [bump_len]); have := HLA.out; have := QN.out; omega)
              have yv0A := Aside0.mk yv0
              have qv0A := Aside0.mk qv0
              clear yv0 qv0
              refine start_ (n := 10) (S := fun w' => w'.cell? ⟨w.heap.size + 1, 1 + n * 7, none⟩ = some (.int .i64 xv0)) (ds := [9]) (lb 10 0) (by kernel_rfl) rfl rfl ((blk_cell (blk_drew O_908.out) (1 + n * 7)).trans yv0A.out) (fun hHeld => ?_)
              refine pS (v := ?_) (a' := ?_) 0 (some 33) (lb 10 1) rfl rfl (by kernel_rfl) (fun _ _ _ h => h) (by rfl) ?_ ?_ ?_; rotate_left; (intro w'; go_simp; with_reducible rfl); rotate_left; (simp only [Act.put, List.setIfInBounds_toArray, List.set_cons_zero, List.set_cons_succ, i64_w, i32_w]; rfl)
              refine pS (v := ?_) (a' := ?_) 1 (some 34) (lb 10 3) rfl rfl (by kernel_rfl) (fun _ _ _ h => h) (by rfl) ?_ ?_ ?_; rotate_left; (intro w'; go_simp; with_reducible rfl); rotate_left; (simp only [Act.put, List.setIfInBounds_toArray, List.set_cons_zero, List.set_cons_succ, i64_w, i32_w]; rfl)
              refine pS (v := ?_) (a' := ?_) 2 (some 35) (lb 10 7) rfl rfl (by kernel_rfl) (fun _ _ _ h => h) (by rfl) ?_ ?_ ?_; rotate_left; (intro w'; go_simp; with_reducible rfl); rotate_left; (simp only [Act.put, List.setIfInBounds_toArray, List.set_cons_zero, List.set_cons_succ, i64_w, i32_w]; rfl)
              refine pS (v := ?_) (a' := ?_) 3 (some 36) (lb 10 15) rfl rfl (by kernel_rfl) (fun _ _ _ h => h) (by rfl) ?_ ?_ ?_; rotate_left; (intro w'; go_simp; with_reducible rfl); rotate_left; (simp only [Act.put, List.setIfInBounds_toArray, List.set_cons_zero, List.set_cons_succ, i64_w, i32_w]; rfl)
              refine pS (v := ?_) (a' := ?_) 6 (some 39) (lb 10 79) rfl rfl (by kernel_rfl) (fun _ _ _ h => h) (by rfl) ?_ ?_ ?_; rotate_left; (intro w'; go_simp; with_reducible rfl); rotate_left; (simp only [Act.put, List.setIfInBounds_toArray, List.set_cons_zero, List.set_cons_succ, i64_w, i32_w]; rfl)
              refine pS (v := ?_) (a' := ?_) 7 (some 40) (lb 10 207) rfl rfl (by kernel_rfl) (fun _ _ _ h => h) (by rfl) ?_ ?_ ?_; rotate_left; (intro w'; go_simp; with_reducible rfl); rotate_left; (simp only [Act.put, List.setIfInBounds_toArray, List.set_cons_zero, List.set_cons_succ, i64_w, i32_w]; rfl)
              refine tS (v := ?_) (a' := ?_) 4 (some 37) (lb 10 223) rfl rfl (by kernel_rfl) (fun _ _ _ h => h) hHeld (by rfl) ?_ ?_ ?_; rotate_left; (rintro w' s0; go_simp; with_reducible rfl); rotate_left; (simp only [Act.put, List.setIfInBounds_toArray, List.set_cons_zero, List.set_cons_succ, i64_w, i32_w]; rfl)
              refine pS (v := ?_) (a' := ?_) 5 (some 38) (lb 10 255) rfl rfl (by kernel_rfl) (fun _ _ _ h => h) (by rfl) ?_ ?_ ?_; rotate_left; (intro w'; go_simp; with_reducible rfl); rotate_left; (simp only [Act.put, List.setIfInBounds_toArray, List.set_cons_zero, List.set_cons_succ, i64_w, i32_w]; rfl)
              refine pS (v := ?_) (a' := ?_) 8 (some 41) (lb 10 511) rfl rfl (by kernel_rfl) (fun _ _ _ h => h) (by rfl) ?_ ?_ ?_; rotate_left; (intro w'; go_simp; with_reducible rfl); rotate_left; (simp only [Act.put, List.setIfInBounds_toArray, List.set_cons_zero, List.set_cons_succ, i64_w, i32_w]; rfl)
              refine last_ (i := 9) (N := none) (lb 10 1023) rfl rfl (by kernel_rfl) (by decide) (fun K hK => ?_)
              refine skip_cell (w := w) 3 (.tmp 41) (.tmp 38) (by rfl) rfl rfl (g := w.heap.size + 1) (1 + n * 7) ?_ (.int .i64 (wrap64 (xv0 + 1))) ?_ rfl (by kernel_rfl) rfl (blk_drew O_908.out) (by rw [TV_size]; (try simp only [bump_len]); have := HLA.out; have := QN.out; omega) L_O.out (below_drew B910.out) ?_
              · rfl
              · rfl
              intro wz10 h1 h2 h3
              have X_911 := Aside0.mk ((h3 _ NE_X_O.out).trans (blk_drew X_907.out))
              have E_912 := Aside0.mk ((h3 _ (Ne.symm NE_O_E.out)).trans (blk_drew E_909.out))
              have O_913 := Aside0.mk (show wz10.heap[w.heap.size + 1]? = some (.cells (TV (bump (acc) (1 + n * 7))) 56 (0, 0)) from by rw [h1, TV_set, qv0A.out])
              have B914 := Aside0.mk h2
              clear h1 h2 h3 yv0A qv0A X_907 E_909 O_908 B910
              refine hK.out _ _ ?_
              clear hK K
              refine done_ (by kernel_rfl) ?_
              have e1 := (blk_cell E_912.out 1).trans (show (#[.int .i64 i0, .bool false, .int .i64 (n : Int), .int .u64 o1, .int .u64 o2, .int .i64 o3, .int .i64 ia, .bool false, .bool true, .int .i64 6, .bool dn, .int .u64 va] : Array Value)[1]? = some _ from rfl)
              have e2 := (blk_cell E_912.out 2).trans (show (#[.int .i64 i0, .bool false, .int .i64 (n : Int), .int .u64 o1, .int .u64 o2, .int .i64 o3, .int .i64 ia, .bool false, .bool true, .int .i64 6, .bool dn, .int .u64 va] : Array Value)[2]? = some _ from rfl)
              have e7 := (blk_cell E_912.out 7).trans (show (#[.int .i64 i0, .bool false, .int .i64 (n : Int), .int .u64 o1, .int .u64 o2, .int .i64 o3, .int .i64 ia, .bool false, .bool true, .int .i64 6, .bool dn, .int .u64 va] : Array Value)[7]? = some _ from rfl)
              have e8 := (blk_cell E_912.out 8).trans (show (#[.int .i64 i0, .bool false, .int .i64 (n : Int), .int .u64 o1, .int .u64 o2, .int .i64 o3, .int .i64 ia, .bool false, .bool true, .int .i64 6, .bool dn, .int .u64 va] : Array Value)[8]? = some _ from rfl)
              have e9 := (blk_cell E_912.out 9).trans (show (#[.int .i64 i0, .bool false, .int .i64 (n : Int), .int .u64 o1, .int .u64 o2, .int .i64 o3, .int .i64 ia, .bool false, .bool true, .int .i64 6, .bool dn, .int .u64 va] : Array Value)[9]? = some _ from rfl)
              have e10 := (blk_cell E_912.out 10).trans (show (#[.int .i64 i0, .bool false, .int .i64 (n : Int), .int .u64 o1, .int .u64 o2, .int .i64 o3, .int .i64 ia, .bool false, .bool true, .int .i64 6, .bool dn, .int .u64 va] : Array Value)[10]? = some _ from rfl)
              go_wp2_with fail
              obtain ⟨xv2, yv2, qv2⟩ := bump_at (l := bump (acc) (1 + n * 7)) (1 + n * 7 + 2) (by (try simp only [bump_len]); have := HLA.out; have := QN.out; omega)
              have yv2A := Aside0.mk yv2
              have qv2A := Aside0.mk qv2
              clear yv2 qv2
              refine start_ (n := 10) (S := fun w' => w'.cell? ⟨w.heap.size + 1, 1 + n * 7 + 2, none⟩ = some (.int .i64 xv2)) (ds := [9]) (lb 10 0) (by kernel_rfl) rfl rfl ((blk_cell (blk_drew O_913.out) (1 + n * 7 + 2)).trans yv2A.out) (fun hHeld => ?_)
              refine pS (v := ?_) (a' := ?_) 0 (some 55) (lb 10 1) rfl rfl (by kernel_rfl) (fun _ _ _ h => h) (by rfl) ?_ ?_ ?_; rotate_left; (intro w'; go_simp; with_reducible rfl); rotate_left; (simp only [Act.put, List.setIfInBounds_toArray, List.set_cons_zero, List.set_cons_succ, i64_w, i32_w]; rfl)
              refine pS (v := ?_) (a' := ?_) 1 (some 56) (lb 10 3) rfl rfl (by kernel_rfl) (fun _ _ _ h => h) (by rfl) ?_ ?_ ?_; rotate_left; (intro w'; go_simp; with_reducible rfl); rotate_left; (simp only [Act.put, List.setIfInBounds_toArray, List.set_cons_zero, List.set_cons_succ, i64_w, i32_w]; rfl)
              refine pS (v := ?_) (a' := ?_) 2 (some 57) (lb 10 7) rfl rfl (by kernel_rfl) (fun _ _ _ h => h) (by rfl) ?_ ?_ ?_; rotate_left; (intro w'; go_simp; with_reducible rfl); rotate_left; (simp only [Act.put, List.setIfInBounds_toArray, List.set_cons_zero, List.set_cons_succ, i64_w, i32_w]; rfl)
              refine pS (v := ?_) (a' := ?_) 3 (some 58) (lb 10 15) rfl rfl (by kernel_rfl) (fun _ _ _ h => h) (by rfl) ?_ ?_ ?_; rotate_left; (intro w'; go_simp; with_reducible rfl); rotate_left; (simp only [Act.put, List.setIfInBounds_toArray, List.set_cons_zero, List.set_cons_succ, i64_w, i32_w]; rfl)
              refine pS (v := ?_) (a' := ?_) 6 (some 61) (lb 10 79) rfl rfl (by kernel_rfl) (fun _ _ _ h => h) (by rfl) ?_ ?_ ?_; rotate_left; (intro w'; go_simp; with_reducible rfl); rotate_left; (simp only [Act.put, List.setIfInBounds_toArray, List.set_cons_zero, List.set_cons_succ, i64_w, i32_w]; rfl)
              refine pS (v := ?_) (a' := ?_) 7 (some 62) (lb 10 207) rfl rfl (by kernel_rfl) (fun _ _ _ h => h) (by rfl) ?_ ?_ ?_; rotate_left; (intro w'; go_simp; with_reducible rfl); rotate_left; (simp only [Act.put, List.setIfInBounds_toArray, List.set_cons_zero, List.set_cons_succ, i64_w, i32_w]; rfl)
              refine tS (v := ?_) (a' := ?_) 4 (some 59) (lb 10 223) rfl rfl (by kernel_rfl) (fun _ _ _ h => h) hHeld (by rfl) ?_ ?_ ?_; rotate_left; (rintro w' s0; go_simp; with_reducible rfl); rotate_left; (simp only [Act.put, List.setIfInBounds_toArray, List.set_cons_zero, List.set_cons_succ, i64_w, i32_w]; rfl)
              refine pS (v := ?_) (a' := ?_) 5 (some 60) (lb 10 255) rfl rfl (by kernel_rfl) (fun _ _ _ h => h) (by rfl) ?_ ?_ ?_; rotate_left; (intro w'; go_simp; with_reducible rfl); rotate_left; (simp only [Act.put, List.setIfInBounds_toArray, List.set_cons_zero, List.set_cons_succ, i64_w, i32_w]; rfl)
              refine pS (v := ?_) (a' := ?_) 8 (some 63) (lb 10 511) rfl rfl (by kernel_rfl) (fun _ _ _ h => h) (by rfl) ?_ ?_ ?_; rotate_left; (intro w'; go_simp; with_reducible rfl); rotate_left; (simp only [Act.put, List.setIfInBounds_toArray, List.set_cons_zero, List.set_cons_succ, i64_w, i32_w]; rfl)
              refine last_ (i := 9) (N := none) (lb 10 1023) rfl rfl (by kernel_rfl) (by decide) (fun K hK => ?_)
              refine skip_cell (w := w) 3 (.tmp 63) (.tmp 60) (by rfl) rfl rfl (g := w.heap.size + 1) (1 + n * 7 + 2) ?_ (.int .i64 (wrap64 (xv2 + 1))) ?_ rfl (by kernel_rfl) rfl (blk_drew O_913.out) (by rw [TV_size]; (try simp only [bump_len]); have := HLA.out; have := QN.out; omega) L_O.out (below_drew B914.out) ?_
              · rfl
              · rfl
              intro wz14 h1 h2 h3
              have X_915 := Aside0.mk ((h3 _ NE_X_O.out).trans (blk_drew X_911.out))
              have E_916 := Aside0.mk ((h3 _ (Ne.symm NE_O_E.out)).trans (blk_drew E_912.out))
              have O_917 := Aside0.mk (show wz14.heap[w.heap.size + 1]? = some (.cells (TV (bump (bump (acc) (1 + n * 7)) (1 + n * 7 + 2))) 56 (0, 0)) from by rw [h1, TV_set, qv2A.out])
              have B918 := Aside0.mk h2
              clear h1 h2 h3 yv2A qv2A X_911 E_912 O_913 B914
              refine hK.out _ _ ?_
              clear hK K
              refine done_ (by kernel_rfl) ?_
              have e1 := (blk_cell E_916.out 1).trans (show (#[.int .i64 i0, .bool false, .int .i64 (n : Int), .int .u64 o1, .int .u64 o2, .int .i64 o3, .int .i64 ia, .bool false, .bool true, .int .i64 6, .bool dn, .int .u64 va] : Array Value)[1]? = some _ from rfl)
              have e2 := (blk_cell E_916.out 2).trans (show (#[.int .i64 i0, .bool false, .int .i64 (n : Int), .int .u64 o1, .int .u64 o2, .int .i64 o3, .int .i64 ia, .bool false, .bool true, .int .i64 6, .bool dn, .int .u64 va] : Array Value)[2]? = some _ from rfl)
              have e7 := (blk_cell E_916.out 7).trans (show (#[.int .i64 i0, .bool false, .int .i64 (n : Int), .int .u64 o1, .int .u64 o2, .int .i64 o3, .int .i64 ia, .bool false, .bool true, .int .i64 6, .bool dn, .int .u64 va] : Array Value)[7]? = some _ from rfl)
              have e8 := (blk_cell E_916.out 8).trans (show (#[.int .i64 i0, .bool false, .int .i64 (n : Int), .int .u64 o1, .int .u64 o2, .int .i64 o3, .int .i64 ia, .bool false, .bool true, .int .i64 6, .bool dn, .int .u64 va] : Array Value)[8]? = some _ from rfl)
              have e9 := (blk_cell E_916.out 9).trans (show (#[.int .i64 i0, .bool false, .int .i64 (n : Int), .int .u64 o1, .int .u64 o2, .int .i64 o3, .int .i64 ia, .bool false, .bool true, .int .i64 6, .bool dn, .int .u64 va] : Array Value)[9]? = some _ from rfl)
              have e10 := (blk_cell E_916.out 10).trans (show (#[.int .i64 i0, .bool false, .int .i64 (n : Int), .int .u64 o1, .int .u64 o2, .int .i64 o3, .int .i64 ia, .bool false, .bool true, .int .i64 6, .bool dn, .int .u64 va] : Array Value)[10]? = some _ from rfl)
              go_wp2_with fail
              obtain ⟨xv5, yv5, qv5⟩ := bump_at (l := bump (bump (acc) (1 + n * 7)) (1 + n * 7 + 2)) (1 + n * 7 + 5) (by (try simp only [bump_len]); have := HLA.out; have := QN.out; omega)
              have yv5A := Aside0.mk yv5
              have qv5A := Aside0.mk qv5
              clear yv5 qv5
              refine start_ (n := 10) (S := fun w' => w'.cell? ⟨w.heap.size + 1, 1 + n * 7 + 5, none⟩ = some (.int .i64 xv5)) (ds := [9]) (lb 10 0) (by kernel_rfl) rfl rfl ((blk_cell (blk_drew O_917.out) (1 + n * 7 + 5)).trans yv5A.out) (fun hHeld => ?_)
              refine pS (v := ?_) (a' := ?_) 0 (some 117) (lb 10 1) rfl rfl (by kernel_rfl) (fun _ _ _ h => h) (by rfl) ?_ ?_ ?_; rotate_left; (intro w'; go_simp; with_reducible rfl); rotate_left; (simp only [Act.put, List.setIfInBounds_toArray, List.set_cons_zero, List.set_cons_succ, i64_w, i32_w]; rfl)
              refine pS (v := ?_) (a' := ?_) 1 (some 118) (lb 10 3) rfl rfl (by kernel_rfl) (fun _ _ _ h => h) (by rfl) ?_ ?_ ?_; rotate_left; (intro w'; go_simp; with_reducible rfl); rotate_left; (simp only [Act.put, List.setIfInBounds_toArray, List.set_cons_zero, List.set_cons_succ, i64_w, i32_w]; rfl)
              refine pS (v := ?_) (a' := ?_) 2 (some 119) (lb 10 7) rfl rfl (by kernel_rfl) (fun _ _ _ h => h) (by rfl) ?_ ?_ ?_; rotate_left; (intro w'; go_simp; with_reducible rfl); rotate_left; (simp only [Act.put, List.setIfInBounds_toArray, List.set_cons_zero, List.set_cons_succ, i64_w, i32_w]; rfl)
              refine pS (v := ?_) (a' := ?_) 3 (some 120) (lb 10 15) rfl rfl (by kernel_rfl) (fun _ _ _ h => h) (by rfl) ?_ ?_ ?_; rotate_left; (intro w'; go_simp; with_reducible rfl); rotate_left; (simp only [Act.put, List.setIfInBounds_toArray, List.set_cons_zero, List.set_cons_succ, i64_w, i32_w]; rfl)
              refine pS (v := ?_) (a' := ?_) 6 (some 123) (lb 10 79) rfl rfl (by kernel_rfl) (fun _ _ _ h => h) (by rfl) ?_ ?_ ?_; rotate_left; (intro w'; go_simp; with_reducible rfl); rotate_left; (simp only [Act.put, List.setIfInBounds_toArray, List.set_cons_zero, List.set_cons_succ, i64_w, i32_w]; rfl)
              refine pS (v := ?_) (a' := ?_) 7 (some 124) (lb 10 207) rfl rfl (by kernel_rfl) (fun _ _ _ h => h) (by rfl) ?_ ?_ ?_; rotate_left; (intro w'; go_simp; with_reducible rfl); rotate_left; (simp only [Act.put, List.setIfInBounds_toArray, List.set_cons_zero, List.set_cons_succ, i64_w, i32_w]; rfl)
              refine tS (v := ?_) (a' := ?_) 4 (some 121) (lb 10 223) rfl rfl (by kernel_rfl) (fun _ _ _ h => h) hHeld (by rfl) ?_ ?_ ?_; rotate_left; (rintro w' s0; go_simp; with_reducible rfl); rotate_left; (simp only [Act.put, List.setIfInBounds_toArray, List.set_cons_zero, List.set_cons_succ, i64_w, i32_w]; rfl)
              refine pS (v := ?_) (a' := ?_) 5 (some 122) (lb 10 255) rfl rfl (by kernel_rfl) (fun _ _ _ h => h) (by rfl) ?_ ?_ ?_; rotate_left; (intro w'; go_simp; with_reducible rfl); rotate_left; (simp only [Act.put, List.setIfInBounds_toArray, List.set_cons_zero, List.set_cons_succ, i64_w, i32_w]; rfl)
              refine pS (v := ?_) (a' := ?_) 8 (some 125) (lb 10 511) rfl rfl (by kernel_rfl) (fun _ _ _ h => h) (by rfl) ?_ ?_ ?_; rotate_left; (intro w'; go_simp; with_reducible rfl); rotate_left; (simp only [Act.put, List.setIfInBounds_toArray, List.set_cons_zero, List.set_cons_succ, i64_w, i32_w]; rfl)
              refine last_ (i := 9) (N := none) (lb 10 1023) rfl rfl (by kernel_rfl) (by decide) (fun K hK => ?_)
              refine skip_cell (w := w) 3 (.tmp 125) (.tmp 122) (by rfl) rfl rfl (g := w.heap.size + 1) (1 + n * 7 + 5) ?_ (.int .i64 (wrap64 (xv5 + 1))) ?_ rfl (by kernel_rfl) rfl (blk_drew O_917.out) (by rw [TV_size]; (try simp only [bump_len]); have := HLA.out; have := QN.out; omega) L_O.out (below_drew B918.out) ?_
              · rfl
              · rfl
              intro wz20 h1 h2 h3
              have X_919 := Aside0.mk ((h3 _ NE_X_O.out).trans (blk_drew X_915.out))
              have E_920 := Aside0.mk ((h3 _ (Ne.symm NE_O_E.out)).trans (blk_drew E_916.out))
              have O_921 := Aside0.mk (show wz20.heap[w.heap.size + 1]? = some (.cells (TV (bump (bump (bump (acc) (1 + n * 7)) (1 + n * 7 + 2)) (1 + n * 7 + 5))) 56 (0, 0)) from by rw [h1, TV_set, qv5A.out])
              have B922 := Aside0.mk h2
              clear h1 h2 h3 yv5A qv5A X_915 E_916 O_917 B918
              refine hK.out _ _ ?_
              clear hK K
              refine done_ (by kernel_rfl) ?_
              have e1 := (blk_cell E_920.out 1).trans (show (#[.int .i64 i0, .bool false, .int .i64 (n : Int), .int .u64 o1, .int .u64 o2, .int .i64 o3, .int .i64 ia, .bool false, .bool true, .int .i64 6, .bool dn, .int .u64 va] : Array Value)[1]? = some _ from rfl)
              have e2 := (blk_cell E_920.out 2).trans (show (#[.int .i64 i0, .bool false, .int .i64 (n : Int), .int .u64 o1, .int .u64 o2, .int .i64 o3, .int .i64 ia, .bool false, .bool true, .int .i64 6, .bool dn, .int .u64 va] : Array Value)[2]? = some _ from rfl)
              have e7 := (blk_cell E_920.out 7).trans (show (#[.int .i64 i0, .bool false, .int .i64 (n : Int), .int .u64 o1, .int .u64 o2, .int .i64 o3, .int .i64 ia, .bool false, .bool true, .int .i64 6, .bool dn, .int .u64 va] : Array Value)[7]? = some _ from rfl)
              have e8 := (blk_cell E_920.out 8).trans (show (#[.int .i64 i0, .bool false, .int .i64 (n : Int), .int .u64 o1, .int .u64 o2, .int .i64 o3, .int .i64 ia, .bool false, .bool true, .int .i64 6, .bool dn, .int .u64 va] : Array Value)[8]? = some _ from rfl)
              have e9 := (blk_cell E_920.out 9).trans (show (#[.int .i64 i0, .bool false, .int .i64 (n : Int), .int .u64 o1, .int .u64 o2, .int .i64 o3, .int .i64 ia, .bool false, .bool true, .int .i64 6, .bool dn, .int .u64 va] : Array Value)[9]? = some _ from rfl)
              have e10 := (blk_cell E_920.out 10).trans (show (#[.int .i64 i0, .bool false, .int .i64 (n : Int), .int .u64 o1, .int .u64 o2, .int .i64 o3, .int .i64 ia, .bool false, .bool true, .int .i64 6, .bool dn, .int .u64 va] : Array Value)[10]? = some _ from rfl)
              go_wp2_with fail
              go_roundg ko
              case rel => exact ⟨k + 1, by first | rfl | rw [wi], ⟨by have := HK.out; omega⟩, ⟨B922.out⟩, ⟨X_919.out⟩, ⟨by rw [HST.out, HE.out]; exact O_921.out⟩⟩
              case measure => exact Nat.lt_succ_self _
            by_cases c7 : er = 7
            · subst c7
              clear c6
              have HE := Aside0.mk (show stepE acc (toE ⟨i0, false, ⟨(n : Int), o1, o2, o3⟩, ia, false, true, ⟨7, dn, va⟩⟩) = bump (bump (bump acc (1 + n * 7)) (1 + n * 7 + 2)) (1 + n * 7 + 6) from by unfold stepE toE; dsimp only; rw [if_neg (by decide), if_neg K1.out, if_neg K8.out, Int.toNat_natCast]; simp [overV])
              go_wp2_with (first
                | ((with_reducible refine wpSt 82 (.tmp 5) (.tmp 17) ?_); refine store_whole (w := w) (B := w.heap.size) rfl rfl 82 (.tmp 5) (.tmp 17) rfl (g := wr.heap.size) (cs := #[.int .i64 i0, .bool false, .int .i64 (n : Int), .int .u64 o1, .int .u64 o2, .int .i64 o3, .int .i64 ia, .bool false, .bool true, .int .i64 7, .bool dn, .int .u64 va]) rfl _ rfl rfl (by kernel_rfl) (by intro q hq; simp only [List.mem_cons, List.not_mem_nil, or_false] at hq; rcases hq with rfl | rfl | rfl | rfl | rfl | rfl | rfl | rfl | rfl | rfl | rfl | rfl <;> rfl) E_904.out (rfl) L_E.out B905.out ?_; intro w_906 h1 h2 h3 h4; have X_907 := Aside0.mk ((h3 _ NE_X_E.out).trans X_902.out); have O_908 := Aside0.mk ((h3 _ NE_O_E.out).trans O_903.out); have E_909 := Aside0.mk (h1); have B910 := Aside0.mk (h2); clear h1 h2 h3 h4 X_902 O_903 E_904 B905; have e1 := (blk_cell E_909.out 1).trans (show (#[.int .i64 i0, .bool false, .int .i64 (n : Int), .int .u64 o1, .int .u64 o2, .int .i64 o3, .int .i64 ia, .bool false, .bool true, .int .i64 7, .bool dn, .int .u64 va] : Array Value)[1]? = some _ from rfl); have e2 := (blk_cell E_909.out 2).trans (show (#[.int .i64 i0, .bool false, .int .i64 (n : Int), .int .u64 o1, .int .u64 o2, .int .i64 o3, .int .i64 ia, .bool false, .bool true, .int .i64 7, .bool dn, .int .u64 va] : Array Value)[2]? = some _ from rfl); have e7 := (blk_cell E_909.out 7).trans (show (#[.int .i64 i0, .bool false, .int .i64 (n : Int), .int .u64 o1, .int .u64 o2, .int .i64 o3, .int .i64 ia, .bool false, .bool true, .int .i64 7, .bool dn, .int .u64 va] : Array Value)[7]? = some _ from rfl); have e8 := (blk_cell E_909.out 8).trans (show (#[.int .i64 i0, .bool false, .int .i64 (n : Int), .int .u64 o1, .int .u64 o2, .int .i64 o3, .int .i64 ia, .bool false, .bool true, .int .i64 7, .bool dn, .int .u64 va] : Array Value)[8]? = some _ from rfl); have e9 := (blk_cell E_909.out 9).trans (show (#[.int .i64 i0, .bool false, .int .i64 (n : Int), .int .u64 o1, .int .u64 o2, .int .i64 o3, .int .i64 ia, .bool false, .bool true, .int .i64 7, .bool dn, .int .u64 va] : Array Value)[9]? = some _ from rfl); have e10 := (blk_cell E_909.out 10).trans (show (#[.int .i64 i0, .bool false, .int .i64 (n : Int), .int .u64 o1, .int .u64 o2, .int .i64 o3, .int .i64 ia, .bool false, .bool true, .int .i64 7, .bool dn, .int .u64 va] : Array Value)[10]? = some _ from rfl)))
              obtain ⟨xv0, yv0, qv0⟩ := bump_at (l := acc) (1 + n * 7) (by (try simp only [bump_len]); have := HLA.out; have := QN.out; omega)
              have yv0A := Aside0.mk yv0
              have qv0A := Aside0.mk qv0
              clear yv0 qv0
              refine start_ (n := 10) (S := fun w' => w'.cell? ⟨w.heap.size + 1, 1 + n * 7, none⟩ = some (.int .i64 xv0)) (ds := [9]) (lb 10 0) (by kernel_rfl) rfl rfl ((blk_cell (blk_drew O_908.out) (1 + n * 7)).trans yv0A.out) (fun hHeld => ?_)
              refine pS (v := ?_) (a' := ?_) 0 (some 33) (lb 10 1) rfl rfl (by kernel_rfl) (fun _ _ _ h => h) (by rfl) ?_ ?_ ?_; rotate_left; (intro w'; go_simp; with_reducible rfl); rotate_left; (simp only [Act.put, List.setIfInBounds_toArray, List.set_cons_zero, List.set_cons_succ, i64_w, i32_w]; rfl)
              refine pS (v := ?_) (a' := ?_) 1 (some 34) (lb 10 3) rfl rfl (by kernel_rfl) (fun _ _ _ h => h) (by rfl) ?_ ?_ ?_; rotate_left; (intro w'; go_simp; with_reducible rfl); rotate_left; (simp only [Act.put, List.setIfInBounds_toArray, List.set_cons_zero, List.set_cons_succ, i64_w, i32_w]; rfl)
              refine pS (v := ?_) (a' := ?_) 2 (some 35) (lb 10 7) rfl rfl (by kernel_rfl) (fun _ _ _ h => h) (by rfl) ?_ ?_ ?_; rotate_left; (intro w'; go_simp; with_reducible rfl); rotate_left; (simp only [Act.put, List.setIfInBounds_toArray, List.set_cons_zero, List.set_cons_succ, i64_w, i32_w]; rfl)
              refine pS (v := ?_) (a' := ?_) 3 (some 36) (lb 10 15) rfl rfl (by kernel_rfl) (fun _ _ _ h => h) (by rfl) ?_ ?_ ?_; rotate_left; (intro w'; go_simp; with_reducible rfl); rotate_left; (simp only [Act.put, List.setIfInBounds_toArray, List.set_cons_zero, List.set_cons_succ, i64_w, i32_w]; rfl)
              refine pS (v := ?_) (a' := ?_) 6 (some 39) (lb 10 79) rfl rfl (by kernel_rfl) (fun _ _ _ h => h) (by rfl) ?_ ?_ ?_; rotate_left; (intro w'; go_simp; with_reducible rfl); rotate_left; (simp only [Act.put, List.setIfInBounds_toArray, List.set_cons_zero, List.set_cons_succ, i64_w, i32_w]; rfl)
              refine pS (v := ?_) (a' := ?_) 7 (some 40) (lb 10 207) rfl rfl (by kernel_rfl) (fun _ _ _ h => h) (by rfl) ?_ ?_ ?_; rotate_left; (intro w'; go_simp; with_reducible rfl); rotate_left; (simp only [Act.put, List.setIfInBounds_toArray, List.set_cons_zero, List.set_cons_succ, i64_w, i32_w]; rfl)
              refine tS (v := ?_) (a' := ?_) 4 (some 37) (lb 10 223) rfl rfl (by kernel_rfl) (fun _ _ _ h => h) hHeld (by rfl) ?_ ?_ ?_; rotate_left; (rintro w' s0; go_simp; with_reducible rfl); rotate_left; (simp only [Act.put, List.setIfInBounds_toArray, List.set_cons_zero, List.set_cons_succ, i64_w, i32_w]; rfl)
              refine pS (v := ?_) (a' := ?_) 5 (some 38) (lb 10 255) rfl rfl (by kernel_rfl) (fun _ _ _ h => h) (by rfl) ?_ ?_ ?_; rotate_left; (intro w'; go_simp; with_reducible rfl); rotate_left; (simp only [Act.put, List.setIfInBounds_toArray, List.set_cons_zero, List.set_cons_succ, i64_w, i32_w]; rfl)
              refine pS (v := ?_) (a' := ?_) 8 (some 41) (lb 10 511) rfl rfl (by kernel_rfl) (fun _ _ _ h => h) (by rfl) ?_ ?_ ?_; rotate_left; (intro w'; go_simp; with_reducible rfl); rotate_left; (simp only [Act.put, List.setIfInBounds_toArray, List.set_cons_zero, List.set_cons_succ, i64_w, i32_w]; rfl)
              refine last_ (i := 9) (N := none) (lb 10 1023) rfl rfl (by kernel_rfl) (by decide) (fun K hK => ?_)
              refine skip_cell (w := w) 3 (.tmp 41) (.tmp 38) (by rfl) rfl rfl (g := w.heap.size + 1) (1 + n * 7) ?_ (.int .i64 (wrap64 (xv0 + 1))) ?_ rfl (by kernel_rfl) rfl (blk_drew O_908.out) (by rw [TV_size]; (try simp only [bump_len]); have := HLA.out; have := QN.out; omega) L_O.out (below_drew B910.out) ?_
              · rfl
              · rfl
              intro wz10 h1 h2 h3
              have X_911 := Aside0.mk ((h3 _ NE_X_O.out).trans (blk_drew X_907.out))
              have E_912 := Aside0.mk ((h3 _ (Ne.symm NE_O_E.out)).trans (blk_drew E_909.out))
              have O_913 := Aside0.mk (show wz10.heap[w.heap.size + 1]? = some (.cells (TV (bump (acc) (1 + n * 7))) 56 (0, 0)) from by rw [h1, TV_set, qv0A.out])
              have B914 := Aside0.mk h2
              clear h1 h2 h3 yv0A qv0A X_907 E_909 O_908 B910
              refine hK.out _ _ ?_
              clear hK K
              refine done_ (by kernel_rfl) ?_
              have e1 := (blk_cell E_912.out 1).trans (show (#[.int .i64 i0, .bool false, .int .i64 (n : Int), .int .u64 o1, .int .u64 o2, .int .i64 o3, .int .i64 ia, .bool false, .bool true, .int .i64 7, .bool dn, .int .u64 va] : Array Value)[1]? = some _ from rfl)
              have e2 := (blk_cell E_912.out 2).trans (show (#[.int .i64 i0, .bool false, .int .i64 (n : Int), .int .u64 o1, .int .u64 o2, .int .i64 o3, .int .i64 ia, .bool false, .bool true, .int .i64 7, .bool dn, .int .u64 va] : Array Value)[2]? = some _ from rfl)
              have e7 := (blk_cell E_912.out 7).trans (show (#[.int .i64 i0, .bool false, .int .i64 (n : Int), .int .u64 o1, .int .u64 o2, .int .i64 o3, .int .i64 ia, .bool false, .bool true, .int .i64 7, .bool dn, .int .u64 va] : Array Value)[7]? = some _ from rfl)
              have e8 := (blk_cell E_912.out 8).trans (show (#[.int .i64 i0, .bool false, .int .i64 (n : Int), .int .u64 o1, .int .u64 o2, .int .i64 o3, .int .i64 ia, .bool false, .bool true, .int .i64 7, .bool dn, .int .u64 va] : Array Value)[8]? = some _ from rfl)
              have e9 := (blk_cell E_912.out 9).trans (show (#[.int .i64 i0, .bool false, .int .i64 (n : Int), .int .u64 o1, .int .u64 o2, .int .i64 o3, .int .i64 ia, .bool false, .bool true, .int .i64 7, .bool dn, .int .u64 va] : Array Value)[9]? = some _ from rfl)
              have e10 := (blk_cell E_912.out 10).trans (show (#[.int .i64 i0, .bool false, .int .i64 (n : Int), .int .u64 o1, .int .u64 o2, .int .i64 o3, .int .i64 ia, .bool false, .bool true, .int .i64 7, .bool dn, .int .u64 va] : Array Value)[10]? = some _ from rfl)
              go_wp2_with fail
              obtain ⟨xv2, yv2, qv2⟩ := bump_at (l := bump (acc) (1 + n * 7)) (1 + n * 7 + 2) (by (try simp only [bump_len]); have := HLA.out; have := QN.out; omega)
              have yv2A := Aside0.mk yv2
              have qv2A := Aside0.mk qv2
              clear yv2 qv2
              refine start_ (n := 10) (S := fun w' => w'.cell? ⟨w.heap.size + 1, 1 + n * 7 + 2, none⟩ = some (.int .i64 xv2)) (ds := [9]) (lb 10 0) (by kernel_rfl) rfl rfl ((blk_cell (blk_drew O_913.out) (1 + n * 7 + 2)).trans yv2A.out) (fun hHeld => ?_)
              refine pS (v := ?_) (a' := ?_) 0 (some 55) (lb 10 1) rfl rfl (by kernel_rfl) (fun _ _ _ h => h) (by rfl) ?_ ?_ ?_; rotate_left; (intro w'; go_simp; with_reducible rfl); rotate_left; (simp only [Act.put, List.setIfInBounds_toArray, List.set_cons_zero, List.set_cons_succ, i64_w, i32_w]; rfl)
              refine pS (v := ?_) (a' := ?_) 1 (some 56) (lb 10 3) rfl rfl (by kernel_rfl) (fun _ _ _ h => h) (by rfl) ?_ ?_ ?_; rotate_left; (intro w'; go_simp; with_reducible rfl); rotate_left; (simp only [Act.put, List.setIfInBounds_toArray, List.set_cons_zero, List.set_cons_succ, i64_w, i32_w]; rfl)
              refine pS (v := ?_) (a' := ?_) 2 (some 57) (lb 10 7) rfl rfl (by kernel_rfl) (fun _ _ _ h => h) (by rfl) ?_ ?_ ?_; rotate_left; (intro w'; go_simp; with_reducible rfl); rotate_left; (simp only [Act.put, List.setIfInBounds_toArray, List.set_cons_zero, List.set_cons_succ, i64_w, i32_w]; rfl)
              refine pS (v := ?_) (a' := ?_) 3 (some 58) (lb 10 15) rfl rfl (by kernel_rfl) (fun _ _ _ h => h) (by rfl) ?_ ?_ ?_; rotate_left; (intro w'; go_simp; with_reducible rfl); rotate_left; (simp only [Act.put, List.setIfInBounds_toArray, List.set_cons_zero, List.set_cons_succ, i64_w, i32_w]; rfl)
              refine pS (v := ?_) (a' := ?_) 6 (some 61) (lb 10 79) rfl rfl (by kernel_rfl) (fun _ _ _ h => h) (by rfl) ?_ ?_ ?_; rotate_left; (intro w'; go_simp; with_reducible rfl); rotate_left; (simp only [Act.put, List.setIfInBounds_toArray, List.set_cons_zero, List.set_cons_succ, i64_w, i32_w]; rfl)
              refine pS (v := ?_) (a' := ?_) 7 (some 62) (lb 10 207) rfl rfl (by kernel_rfl) (fun _ _ _ h => h) (by rfl) ?_ ?_ ?_; rotate_left; (intro w'; go_simp; with_reducible rfl); rotate_left; (simp only [Act.put, List.setIfInBounds_toArray, List.set_cons_zero, List.set_cons_succ, i64_w, i32_w]; rfl)
              refine tS (v := ?_) (a' := ?_) 4 (some 59) (lb 10 223) rfl rfl (by kernel_rfl) (fun _ _ _ h => h) hHeld (by rfl) ?_ ?_ ?_; rotate_left; (rintro w' s0; go_simp; with_reducible rfl); rotate_left; (simp only [Act.put, List.setIfInBounds_toArray, List.set_cons_zero, List.set_cons_succ, i64_w, i32_w]; rfl)
              refine pS (v := ?_) (a' := ?_) 5 (some 60) (lb 10 255) rfl rfl (by kernel_rfl) (fun _ _ _ h => h) (by rfl) ?_ ?_ ?_; rotate_left; (intro w'; go_simp; with_reducible rfl); rotate_left; (simp only [Act.put, List.setIfInBounds_toArray, List.set_cons_zero, List.set_cons_succ, i64_w, i32_w]; rfl)
              refine pS (v := ?_) (a' := ?_) 8 (some 63) (lb 10 511) rfl rfl (by kernel_rfl) (fun _ _ _ h => h) (by rfl) ?_ ?_ ?_; rotate_left; (intro w'; go_simp; with_reducible rfl); rotate_left; (simp only [Act.put, List.setIfInBounds_toArray, List.set_cons_zero, List.set_cons_succ, i64_w, i32_w]; rfl)
              refine last_ (i := 9) (N := none) (lb 10 1023) rfl rfl (by kernel_rfl) (by decide) (fun K hK => ?_)
              refine skip_cell (w := w) 3 (.tmp 63) (.tmp 60) (by rfl) rfl rfl (g := w.heap.size + 1) (1 + n * 7 + 2) ?_ (.int .i64 (wrap64 (xv2 + 1))) ?_ rfl (by kernel_rfl) rfl (blk_drew O_913.out) (by rw [TV_size]; (try simp only [bump_len]); have := HLA.out; have := QN.out; omega) L_O.out (below_drew B914.out) ?_
              · rfl
              · rfl
              intro wz14 h1 h2 h3
              have X_915 := Aside0.mk ((h3 _ NE_X_O.out).trans (blk_drew X_911.out))
              have E_916 := Aside0.mk ((h3 _ (Ne.symm NE_O_E.out)).trans (blk_drew E_912.out))
              have O_917 := Aside0.mk (show wz14.heap[w.heap.size + 1]? = some (.cells (TV (bump (bump (acc) (1 + n * 7)) (1 + n * 7 + 2))) 56 (0, 0)) from by rw [h1, TV_set, qv2A.out])
              have B918 := Aside0.mk h2
              clear h1 h2 h3 yv2A qv2A X_911 E_912 O_913 B914
              refine hK.out _ _ ?_
              clear hK K
              refine done_ (by kernel_rfl) ?_
              have e1 := (blk_cell E_916.out 1).trans (show (#[.int .i64 i0, .bool false, .int .i64 (n : Int), .int .u64 o1, .int .u64 o2, .int .i64 o3, .int .i64 ia, .bool false, .bool true, .int .i64 7, .bool dn, .int .u64 va] : Array Value)[1]? = some _ from rfl)
              have e2 := (blk_cell E_916.out 2).trans (show (#[.int .i64 i0, .bool false, .int .i64 (n : Int), .int .u64 o1, .int .u64 o2, .int .i64 o3, .int .i64 ia, .bool false, .bool true, .int .i64 7, .bool dn, .int .u64 va] : Array Value)[2]? = some _ from rfl)
              have e7 := (blk_cell E_916.out 7).trans (show (#[.int .i64 i0, .bool false, .int .i64 (n : Int), .int .u64 o1, .int .u64 o2, .int .i64 o3, .int .i64 ia, .bool false, .bool true, .int .i64 7, .bool dn, .int .u64 va] : Array Value)[7]? = some _ from rfl)
              have e8 := (blk_cell E_916.out 8).trans (show (#[.int .i64 i0, .bool false, .int .i64 (n : Int), .int .u64 o1, .int .u64 o2, .int .i64 o3, .int .i64 ia, .bool false, .bool true, .int .i64 7, .bool dn, .int .u64 va] : Array Value)[8]? = some _ from rfl)
              have e9 := (blk_cell E_916.out 9).trans (show (#[.int .i64 i0, .bool false, .int .i64 (n : Int), .int .u64 o1, .int .u64 o2, .int .i64 o3, .int .i64 ia, .bool false, .bool true, .int .i64 7, .bool dn, .int .u64 va] : Array Value)[9]? = some _ from rfl)
              have e10 := (blk_cell E_916.out 10).trans (show (#[.int .i64 i0, .bool false, .int .i64 (n : Int), .int .u64 o1, .int .u64 o2, .int .i64 o3, .int .i64 ia, .bool false, .bool true, .int .i64 7, .bool dn, .int .u64 va] : Array Value)[10]? = some _ from rfl)
              go_wp2_with fail
              obtain ⟨xv6, yv6, qv6⟩ := bump_at (l := bump (bump (acc) (1 + n * 7)) (1 + n * 7 + 2)) (1 + n * 7 + 6) (by (try simp only [bump_len]); have := HLA.out; have := QN.out; omega)
              have yv6A := Aside0.mk yv6
              have qv6A := Aside0.mk qv6
              clear yv6 qv6
              refine start_ (n := 10) (S := fun w' => w'.cell? ⟨w.heap.size + 1, 1 + n * 7 + 6, none⟩ = some (.int .i64 xv6)) (ds := [9]) (lb 10 0) (by kernel_rfl) rfl rfl ((blk_cell (blk_drew O_917.out) (1 + n * 7 + 6)).trans yv6A.out) (fun hHeld => ?_)
              refine pS (v := ?_) (a' := ?_) 0 (some 134) (lb 10 1) rfl rfl (by kernel_rfl) (fun _ _ _ h => h) (by rfl) ?_ ?_ ?_; rotate_left; (intro w'; go_simp; with_reducible rfl); rotate_left; (simp only [Act.put, List.setIfInBounds_toArray, List.set_cons_zero, List.set_cons_succ, i64_w, i32_w]; rfl)
              refine pS (v := ?_) (a' := ?_) 1 (some 135) (lb 10 3) rfl rfl (by kernel_rfl) (fun _ _ _ h => h) (by rfl) ?_ ?_ ?_; rotate_left; (intro w'; go_simp; with_reducible rfl); rotate_left; (simp only [Act.put, List.setIfInBounds_toArray, List.set_cons_zero, List.set_cons_succ, i64_w, i32_w]; rfl)
              refine pS (v := ?_) (a' := ?_) 2 (some 136) (lb 10 7) rfl rfl (by kernel_rfl) (fun _ _ _ h => h) (by rfl) ?_ ?_ ?_; rotate_left; (intro w'; go_simp; with_reducible rfl); rotate_left; (simp only [Act.put, List.setIfInBounds_toArray, List.set_cons_zero, List.set_cons_succ, i64_w, i32_w]; rfl)
              refine pS (v := ?_) (a' := ?_) 3 (some 137) (lb 10 15) rfl rfl (by kernel_rfl) (fun _ _ _ h => h) (by rfl) ?_ ?_ ?_; rotate_left; (intro w'; go_simp; with_reducible rfl); rotate_left; (simp only [Act.put, List.setIfInBounds_toArray, List.set_cons_zero, List.set_cons_succ, i64_w, i32_w]; rfl)
              refine pS (v := ?_) (a' := ?_) 6 (some 140) (lb 10 79) rfl rfl (by kernel_rfl) (fun _ _ _ h => h) (by rfl) ?_ ?_ ?_; rotate_left; (intro w'; go_simp; with_reducible rfl); rotate_left; (simp only [Act.put, List.setIfInBounds_toArray, List.set_cons_zero, List.set_cons_succ, i64_w, i32_w]; rfl)
              refine pS (v := ?_) (a' := ?_) 7 (some 141) (lb 10 207) rfl rfl (by kernel_rfl) (fun _ _ _ h => h) (by rfl) ?_ ?_ ?_; rotate_left; (intro w'; go_simp; with_reducible rfl); rotate_left; (simp only [Act.put, List.setIfInBounds_toArray, List.set_cons_zero, List.set_cons_succ, i64_w, i32_w]; rfl)
              refine tS (v := ?_) (a' := ?_) 4 (some 138) (lb 10 223) rfl rfl (by kernel_rfl) (fun _ _ _ h => h) hHeld (by rfl) ?_ ?_ ?_; rotate_left; (rintro w' s0; go_simp; with_reducible rfl); rotate_left; (simp only [Act.put, List.setIfInBounds_toArray, List.set_cons_zero, List.set_cons_succ, i64_w, i32_w]; rfl)
              refine pS (v := ?_) (a' := ?_) 5 (some 139) (lb 10 255) rfl rfl (by kernel_rfl) (fun _ _ _ h => h) (by rfl) ?_ ?_ ?_; rotate_left; (intro w'; go_simp; with_reducible rfl); rotate_left; (simp only [Act.put, List.setIfInBounds_toArray, List.set_cons_zero, List.set_cons_succ, i64_w, i32_w]; rfl)
              refine pS (v := ?_) (a' := ?_) 8 (some 142) (lb 10 511) rfl rfl (by kernel_rfl) (fun _ _ _ h => h) (by rfl) ?_ ?_ ?_; rotate_left; (intro w'; go_simp; with_reducible rfl); rotate_left; (simp only [Act.put, List.setIfInBounds_toArray, List.set_cons_zero, List.set_cons_succ, i64_w, i32_w]; rfl)
              refine last_ (i := 9) (N := none) (lb 10 1023) rfl rfl (by kernel_rfl) (by decide) (fun K hK => ?_)
              refine skip_cell (w := w) 3 (.tmp 142) (.tmp 139) (by rfl) rfl rfl (g := w.heap.size + 1) (1 + n * 7 + 6) ?_ (.int .i64 (wrap64 (xv6 + 1))) ?_ rfl (by kernel_rfl) rfl (blk_drew O_917.out) (by rw [TV_size]; (try simp only [bump_len]); have := HLA.out; have := QN.out; omega) L_O.out (below_drew B918.out) ?_
              · rfl
              · rfl
              intro wz22 h1 h2 h3
              have X_919 := Aside0.mk ((h3 _ NE_X_O.out).trans (blk_drew X_915.out))
              have E_920 := Aside0.mk ((h3 _ (Ne.symm NE_O_E.out)).trans (blk_drew E_916.out))
              have O_921 := Aside0.mk (show wz22.heap[w.heap.size + 1]? = some (.cells (TV (bump (bump (bump (acc) (1 + n * 7)) (1 + n * 7 + 2)) (1 + n * 7 + 6))) 56 (0, 0)) from by rw [h1, TV_set, qv6A.out])
              have B922 := Aside0.mk h2
              clear h1 h2 h3 yv6A qv6A X_915 E_916 O_917 B918
              refine hK.out _ _ ?_
              clear hK K
              refine done_ (by kernel_rfl) ?_
              have e1 := (blk_cell E_920.out 1).trans (show (#[.int .i64 i0, .bool false, .int .i64 (n : Int), .int .u64 o1, .int .u64 o2, .int .i64 o3, .int .i64 ia, .bool false, .bool true, .int .i64 7, .bool dn, .int .u64 va] : Array Value)[1]? = some _ from rfl)
              have e2 := (blk_cell E_920.out 2).trans (show (#[.int .i64 i0, .bool false, .int .i64 (n : Int), .int .u64 o1, .int .u64 o2, .int .i64 o3, .int .i64 ia, .bool false, .bool true, .int .i64 7, .bool dn, .int .u64 va] : Array Value)[2]? = some _ from rfl)
              have e7 := (blk_cell E_920.out 7).trans (show (#[.int .i64 i0, .bool false, .int .i64 (n : Int), .int .u64 o1, .int .u64 o2, .int .i64 o3, .int .i64 ia, .bool false, .bool true, .int .i64 7, .bool dn, .int .u64 va] : Array Value)[7]? = some _ from rfl)
              have e8 := (blk_cell E_920.out 8).trans (show (#[.int .i64 i0, .bool false, .int .i64 (n : Int), .int .u64 o1, .int .u64 o2, .int .i64 o3, .int .i64 ia, .bool false, .bool true, .int .i64 7, .bool dn, .int .u64 va] : Array Value)[8]? = some _ from rfl)
              have e9 := (blk_cell E_920.out 9).trans (show (#[.int .i64 i0, .bool false, .int .i64 (n : Int), .int .u64 o1, .int .u64 o2, .int .i64 o3, .int .i64 ia, .bool false, .bool true, .int .i64 7, .bool dn, .int .u64 va] : Array Value)[9]? = some _ from rfl)
              have e10 := (blk_cell E_920.out 10).trans (show (#[.int .i64 i0, .bool false, .int .i64 (n : Int), .int .u64 o1, .int .u64 o2, .int .i64 o3, .int .i64 ia, .bool false, .bool true, .int .i64 7, .bool dn, .int .u64 va] : Array Value)[10]? = some _ from rfl)
              go_wp2_with fail
              go_roundg ko
              case rel => exact ⟨k + 1, by first | rfl | rw [wi], ⟨by have := HK.out; omega⟩, ⟨B922.out⟩, ⟨X_919.out⟩, ⟨by rw [HST.out, HE.out]; exact O_921.out⟩⟩
              case measure => exact Nat.lt_succ_self _
            by_cases c0 : er = 0
            · subst c0
              clear c6 c7
              cases dn with
              | true =>
                have HE := Aside0.mk (show stepE acc (toE ⟨i0, false, ⟨(n : Int), o1, o2, o3⟩, ia, false, true, ⟨0, true, va⟩⟩) = bump (bump (bump acc (1 + n * 7)) (1 + n * 7 + 2)) (1 + n * 7 + 3) from by unfold stepE toE; dsimp only; rw [if_neg (by decide), if_neg K1.out, if_neg K8.out, Int.toNat_natCast]; simp [overV])
                go_wp2_with (first
                  | ((with_reducible refine wpSt 82 (.tmp 5) (.tmp 17) ?_); refine store_whole (w := w) (B := w.heap.size) rfl rfl 82 (.tmp 5) (.tmp 17) rfl (g := wr.heap.size) (cs := #[.int .i64 i0, .bool false, .int .i64 (n : Int), .int .u64 o1, .int .u64 o2, .int .i64 o3, .int .i64 ia, .bool false, .bool true, .int .i64 0, .bool true, .int .u64 va]) rfl _ rfl rfl (by kernel_rfl) (by intro q hq; simp only [List.mem_cons, List.not_mem_nil, or_false] at hq; rcases hq with rfl | rfl | rfl | rfl | rfl | rfl | rfl | rfl | rfl | rfl | rfl | rfl <;> rfl) E_904.out (rfl) L_E.out B905.out ?_; intro w_906 h1 h2 h3 h4; have X_907 := Aside0.mk ((h3 _ NE_X_E.out).trans X_902.out); have O_908 := Aside0.mk ((h3 _ NE_O_E.out).trans O_903.out); have E_909 := Aside0.mk (h1); have B910 := Aside0.mk (h2); clear h1 h2 h3 h4 X_902 O_903 E_904 B905; have e1 := (blk_cell E_909.out 1).trans (show (#[.int .i64 i0, .bool false, .int .i64 (n : Int), .int .u64 o1, .int .u64 o2, .int .i64 o3, .int .i64 ia, .bool false, .bool true, .int .i64 0, .bool true, .int .u64 va] : Array Value)[1]? = some _ from rfl); have e2 := (blk_cell E_909.out 2).trans (show (#[.int .i64 i0, .bool false, .int .i64 (n : Int), .int .u64 o1, .int .u64 o2, .int .i64 o3, .int .i64 ia, .bool false, .bool true, .int .i64 0, .bool true, .int .u64 va] : Array Value)[2]? = some _ from rfl); have e7 := (blk_cell E_909.out 7).trans (show (#[.int .i64 i0, .bool false, .int .i64 (n : Int), .int .u64 o1, .int .u64 o2, .int .i64 o3, .int .i64 ia, .bool false, .bool true, .int .i64 0, .bool true, .int .u64 va] : Array Value)[7]? = some _ from rfl); have e8 := (blk_cell E_909.out 8).trans (show (#[.int .i64 i0, .bool false, .int .i64 (n : Int), .int .u64 o1, .int .u64 o2, .int .i64 o3, .int .i64 ia, .bool false, .bool true, .int .i64 0, .bool true, .int .u64 va] : Array Value)[8]? = some _ from rfl); have e9 := (blk_cell E_909.out 9).trans (show (#[.int .i64 i0, .bool false, .int .i64 (n : Int), .int .u64 o1, .int .u64 o2, .int .i64 o3, .int .i64 ia, .bool false, .bool true, .int .i64 0, .bool true, .int .u64 va] : Array Value)[9]? = some _ from rfl); have e10 := (blk_cell E_909.out 10).trans (show (#[.int .i64 i0, .bool false, .int .i64 (n : Int), .int .u64 o1, .int .u64 o2, .int .i64 o3, .int .i64 ia, .bool false, .bool true, .int .i64 0, .bool true, .int .u64 va] : Array Value)[10]? = some _ from rfl)))
                obtain ⟨xv0, yv0, qv0⟩ := bump_at (l := acc) (1 + n * 7) (by (try simp only [bump_len]); have := HLA.out; have := QN.out; omega)
                have yv0A := Aside0.mk yv0
                have qv0A := Aside0.mk qv0
                clear yv0 qv0
                refine start_ (n := 10) (S := fun w' => w'.cell? ⟨w.heap.size + 1, 1 + n * 7, none⟩ = some (.int .i64 xv0)) (ds := [9]) (lb 10 0) (by kernel_rfl) rfl rfl ((blk_cell (blk_drew O_908.out) (1 + n * 7)).trans yv0A.out) (fun hHeld => ?_)
                refine pS (v := ?_) (a' := ?_) 0 (some 33) (lb 10 1) rfl rfl (by kernel_rfl) (fun _ _ _ h => h) (by rfl) ?_ ?_ ?_; rotate_left; (intro w'; go_simp; with_reducible rfl); rotate_left; (simp only [Act.put, List.setIfInBounds_toArray, List.set_cons_zero, List.set_cons_succ, i64_w, i32_w]; rfl)
                refine pS (v := ?_) (a' := ?_) 1 (some 34) (lb 10 3) rfl rfl (by kernel_rfl) (fun _ _ _ h => h) (by rfl) ?_ ?_ ?_; rotate_left; (intro w'; go_simp; with_reducible rfl); rotate_left; (simp only [Act.put, List.setIfInBounds_toArray, List.set_cons_zero, List.set_cons_succ, i64_w, i32_w]; rfl)
                refine pS (v := ?_) (a' := ?_) 2 (some 35) (lb 10 7) rfl rfl (by kernel_rfl) (fun _ _ _ h => h) (by rfl) ?_ ?_ ?_; rotate_left; (intro w'; go_simp; with_reducible rfl); rotate_left; (simp only [Act.put, List.setIfInBounds_toArray, List.set_cons_zero, List.set_cons_succ, i64_w, i32_w]; rfl)
                refine pS (v := ?_) (a' := ?_) 3 (some 36) (lb 10 15) rfl rfl (by kernel_rfl) (fun _ _ _ h => h) (by rfl) ?_ ?_ ?_; rotate_left; (intro w'; go_simp; with_reducible rfl); rotate_left; (simp only [Act.put, List.setIfInBounds_toArray, List.set_cons_zero, List.set_cons_succ, i64_w, i32_w]; rfl)
                refine pS (v := ?_) (a' := ?_) 6 (some 39) (lb 10 79) rfl rfl (by kernel_rfl) (fun _ _ _ h => h) (by rfl) ?_ ?_ ?_; rotate_left; (intro w'; go_simp; with_reducible rfl); rotate_left; (simp only [Act.put, List.setIfInBounds_toArray, List.set_cons_zero, List.set_cons_succ, i64_w, i32_w]; rfl)
                refine pS (v := ?_) (a' := ?_) 7 (some 40) (lb 10 207) rfl rfl (by kernel_rfl) (fun _ _ _ h => h) (by rfl) ?_ ?_ ?_; rotate_left; (intro w'; go_simp; with_reducible rfl); rotate_left; (simp only [Act.put, List.setIfInBounds_toArray, List.set_cons_zero, List.set_cons_succ, i64_w, i32_w]; rfl)
                refine tS (v := ?_) (a' := ?_) 4 (some 37) (lb 10 223) rfl rfl (by kernel_rfl) (fun _ _ _ h => h) hHeld (by rfl) ?_ ?_ ?_; rotate_left; (rintro w' s0; go_simp; with_reducible rfl); rotate_left; (simp only [Act.put, List.setIfInBounds_toArray, List.set_cons_zero, List.set_cons_succ, i64_w, i32_w]; rfl)
                refine pS (v := ?_) (a' := ?_) 5 (some 38) (lb 10 255) rfl rfl (by kernel_rfl) (fun _ _ _ h => h) (by rfl) ?_ ?_ ?_; rotate_left; (intro w'; go_simp; with_reducible rfl); rotate_left; (simp only [Act.put, List.setIfInBounds_toArray, List.set_cons_zero, List.set_cons_succ, i64_w, i32_w]; rfl)
                refine pS (v := ?_) (a' := ?_) 8 (some 41) (lb 10 511) rfl rfl (by kernel_rfl) (fun _ _ _ h => h) (by rfl) ?_ ?_ ?_; rotate_left; (intro w'; go_simp; with_reducible rfl); rotate_left; (simp only [Act.put, List.setIfInBounds_toArray, List.set_cons_zero, List.set_cons_succ, i64_w, i32_w]; rfl)
                refine last_ (i := 9) (N := none) (lb 10 1023) rfl rfl (by kernel_rfl) (by decide) (fun K hK => ?_)
                refine skip_cell (w := w) 3 (.tmp 41) (.tmp 38) (by rfl) rfl rfl (g := w.heap.size + 1) (1 + n * 7) ?_ (.int .i64 (wrap64 (xv0 + 1))) ?_ rfl (by kernel_rfl) rfl (blk_drew O_908.out) (by rw [TV_size]; (try simp only [bump_len]); have := HLA.out; have := QN.out; omega) L_O.out (below_drew B910.out) ?_
                · rfl
                · rfl
                intro wz10 h1 h2 h3
                have X_911 := Aside0.mk ((h3 _ NE_X_O.out).trans (blk_drew X_907.out))
                have E_912 := Aside0.mk ((h3 _ (Ne.symm NE_O_E.out)).trans (blk_drew E_909.out))
                have O_913 := Aside0.mk (show wz10.heap[w.heap.size + 1]? = some (.cells (TV (bump (acc) (1 + n * 7))) 56 (0, 0)) from by rw [h1, TV_set, qv0A.out])
                have B914 := Aside0.mk h2
                clear h1 h2 h3 yv0A qv0A X_907 E_909 O_908 B910
                refine hK.out _ _ ?_
                clear hK K
                refine done_ (by kernel_rfl) ?_
                have e1 := (blk_cell E_912.out 1).trans (show (#[.int .i64 i0, .bool false, .int .i64 (n : Int), .int .u64 o1, .int .u64 o2, .int .i64 o3, .int .i64 ia, .bool false, .bool true, .int .i64 0, .bool true, .int .u64 va] : Array Value)[1]? = some _ from rfl)
                have e2 := (blk_cell E_912.out 2).trans (show (#[.int .i64 i0, .bool false, .int .i64 (n : Int), .int .u64 o1, .int .u64 o2, .int .i64 o3, .int .i64 ia, .bool false, .bool true, .int .i64 0, .bool true, .int .u64 va] : Array Value)[2]? = some _ from rfl)
                have e7 := (blk_cell E_912.out 7).trans (show (#[.int .i64 i0, .bool false, .int .i64 (n : Int), .int .u64 o1, .int .u64 o2, .int .i64 o3, .int .i64 ia, .bool false, .bool true, .int .i64 0, .bool true, .int .u64 va] : Array Value)[7]? = some _ from rfl)
                have e8 := (blk_cell E_912.out 8).trans (show (#[.int .i64 i0, .bool false, .int .i64 (n : Int), .int .u64 o1, .int .u64 o2, .int .i64 o3, .int .i64 ia, .bool false, .bool true, .int .i64 0, .bool true, .int .u64 va] : Array Value)[8]? = some _ from rfl)
                have e9 := (blk_cell E_912.out 9).trans (show (#[.int .i64 i0, .bool false, .int .i64 (n : Int), .int .u64 o1, .int .u64 o2, .int .i64 o3, .int .i64 ia, .bool false, .bool true, .int .i64 0, .bool true, .int .u64 va] : Array Value)[9]? = some _ from rfl)
                have e10 := (blk_cell E_912.out 10).trans (show (#[.int .i64 i0, .bool false, .int .i64 (n : Int), .int .u64 o1, .int .u64 o2, .int .i64 o3, .int .i64 ia, .bool false, .bool true, .int .i64 0, .bool true, .int .u64 va] : Array Value)[10]? = some _ from rfl)
                go_wp2_with fail
                obtain ⟨xv2, yv2, qv2⟩ := bump_at (l := bump (acc) (1 + n * 7)) (1 + n * 7 + 2) (by (try simp only [bump_len]); have := HLA.out; have := QN.out; omega)
                have yv2A := Aside0.mk yv2
                have qv2A := Aside0.mk qv2
                clear yv2 qv2
                refine start_ (n := 10) (S := fun w' => w'.cell? ⟨w.heap.size + 1, 1 + n * 7 + 2, none⟩ = some (.int .i64 xv2)) (ds := [9]) (lb 10 0) (by kernel_rfl) rfl rfl ((blk_cell (blk_drew O_913.out) (1 + n * 7 + 2)).trans yv2A.out) (fun hHeld => ?_)
                refine pS (v := ?_) (a' := ?_) 0 (some 55) (lb 10 1) rfl rfl (by kernel_rfl) (fun _ _ _ h => h) (by rfl) ?_ ?_ ?_; rotate_left; (intro w'; go_simp; with_reducible rfl); rotate_left; (simp only [Act.put, List.setIfInBounds_toArray, List.set_cons_zero, List.set_cons_succ, i64_w, i32_w]; rfl)
                refine pS (v := ?_) (a' := ?_) 1 (some 56) (lb 10 3) rfl rfl (by kernel_rfl) (fun _ _ _ h => h) (by rfl) ?_ ?_ ?_; rotate_left; (intro w'; go_simp; with_reducible rfl); rotate_left; (simp only [Act.put, List.setIfInBounds_toArray, List.set_cons_zero, List.set_cons_succ, i64_w, i32_w]; rfl)
                refine pS (v := ?_) (a' := ?_) 2 (some 57) (lb 10 7) rfl rfl (by kernel_rfl) (fun _ _ _ h => h) (by rfl) ?_ ?_ ?_; rotate_left; (intro w'; go_simp; with_reducible rfl); rotate_left; (simp only [Act.put, List.setIfInBounds_toArray, List.set_cons_zero, List.set_cons_succ, i64_w, i32_w]; rfl)
                refine pS (v := ?_) (a' := ?_) 3 (some 58) (lb 10 15) rfl rfl (by kernel_rfl) (fun _ _ _ h => h) (by rfl) ?_ ?_ ?_; rotate_left; (intro w'; go_simp; with_reducible rfl); rotate_left; (simp only [Act.put, List.setIfInBounds_toArray, List.set_cons_zero, List.set_cons_succ, i64_w, i32_w]; rfl)
                refine pS (v := ?_) (a' := ?_) 6 (some 61) (lb 10 79) rfl rfl (by kernel_rfl) (fun _ _ _ h => h) (by rfl) ?_ ?_ ?_; rotate_left; (intro w'; go_simp; with_reducible rfl); rotate_left; (simp only [Act.put, List.setIfInBounds_toArray, List.set_cons_zero, List.set_cons_succ, i64_w, i32_w]; rfl)
                refine pS (v := ?_) (a' := ?_) 7 (some 62) (lb 10 207) rfl rfl (by kernel_rfl) (fun _ _ _ h => h) (by rfl) ?_ ?_ ?_; rotate_left; (intro w'; go_simp; with_reducible rfl); rotate_left; (simp only [Act.put, List.setIfInBounds_toArray, List.set_cons_zero, List.set_cons_succ, i64_w, i32_w]; rfl)
                refine tS (v := ?_) (a' := ?_) 4 (some 59) (lb 10 223) rfl rfl (by kernel_rfl) (fun _ _ _ h => h) hHeld (by rfl) ?_ ?_ ?_; rotate_left; (rintro w' s0; go_simp; with_reducible rfl); rotate_left; (simp only [Act.put, List.setIfInBounds_toArray, List.set_cons_zero, List.set_cons_succ, i64_w, i32_w]; rfl)
                refine pS (v := ?_) (a' := ?_) 5 (some 60) (lb 10 255) rfl rfl (by kernel_rfl) (fun _ _ _ h => h) (by rfl) ?_ ?_ ?_; rotate_left; (intro w'; go_simp; with_reducible rfl); rotate_left; (simp only [Act.put, List.setIfInBounds_toArray, List.set_cons_zero, List.set_cons_succ, i64_w, i32_w]; rfl)
                refine pS (v := ?_) (a' := ?_) 8 (some 63) (lb 10 511) rfl rfl (by kernel_rfl) (fun _ _ _ h => h) (by rfl) ?_ ?_ ?_; rotate_left; (intro w'; go_simp; with_reducible rfl); rotate_left; (simp only [Act.put, List.setIfInBounds_toArray, List.set_cons_zero, List.set_cons_succ, i64_w, i32_w]; rfl)
                refine last_ (i := 9) (N := none) (lb 10 1023) rfl rfl (by kernel_rfl) (by decide) (fun K hK => ?_)
                refine skip_cell (w := w) 3 (.tmp 63) (.tmp 60) (by rfl) rfl rfl (g := w.heap.size + 1) (1 + n * 7 + 2) ?_ (.int .i64 (wrap64 (xv2 + 1))) ?_ rfl (by kernel_rfl) rfl (blk_drew O_913.out) (by rw [TV_size]; (try simp only [bump_len]); have := HLA.out; have := QN.out; omega) L_O.out (below_drew B914.out) ?_
                · rfl
                · rfl
                intro wz14 h1 h2 h3
                have X_915 := Aside0.mk ((h3 _ NE_X_O.out).trans (blk_drew X_911.out))
                have E_916 := Aside0.mk ((h3 _ (Ne.symm NE_O_E.out)).trans (blk_drew E_912.out))
                have O_917 := Aside0.mk (show wz14.heap[w.heap.size + 1]? = some (.cells (TV (bump (bump (acc) (1 + n * 7)) (1 + n * 7 + 2))) 56 (0, 0)) from by rw [h1, TV_set, qv2A.out])
                have B918 := Aside0.mk h2
                clear h1 h2 h3 yv2A qv2A X_911 E_912 O_913 B914
                refine hK.out _ _ ?_
                clear hK K
                refine done_ (by kernel_rfl) ?_
                have e1 := (blk_cell E_916.out 1).trans (show (#[.int .i64 i0, .bool false, .int .i64 (n : Int), .int .u64 o1, .int .u64 o2, .int .i64 o3, .int .i64 ia, .bool false, .bool true, .int .i64 0, .bool true, .int .u64 va] : Array Value)[1]? = some _ from rfl)
                have e2 := (blk_cell E_916.out 2).trans (show (#[.int .i64 i0, .bool false, .int .i64 (n : Int), .int .u64 o1, .int .u64 o2, .int .i64 o3, .int .i64 ia, .bool false, .bool true, .int .i64 0, .bool true, .int .u64 va] : Array Value)[2]? = some _ from rfl)
                have e7 := (blk_cell E_916.out 7).trans (show (#[.int .i64 i0, .bool false, .int .i64 (n : Int), .int .u64 o1, .int .u64 o2, .int .i64 o3, .int .i64 ia, .bool false, .bool true, .int .i64 0, .bool true, .int .u64 va] : Array Value)[7]? = some _ from rfl)
                have e8 := (blk_cell E_916.out 8).trans (show (#[.int .i64 i0, .bool false, .int .i64 (n : Int), .int .u64 o1, .int .u64 o2, .int .i64 o3, .int .i64 ia, .bool false, .bool true, .int .i64 0, .bool true, .int .u64 va] : Array Value)[8]? = some _ from rfl)
                have e9 := (blk_cell E_916.out 9).trans (show (#[.int .i64 i0, .bool false, .int .i64 (n : Int), .int .u64 o1, .int .u64 o2, .int .i64 o3, .int .i64 ia, .bool false, .bool true, .int .i64 0, .bool true, .int .u64 va] : Array Value)[9]? = some _ from rfl)
                have e10 := (blk_cell E_916.out 10).trans (show (#[.int .i64 i0, .bool false, .int .i64 (n : Int), .int .u64 o1, .int .u64 o2, .int .i64 o3, .int .i64 ia, .bool false, .bool true, .int .i64 0, .bool true, .int .u64 va] : Array Value)[10]? = some _ from rfl)
                go_wp2_with fail
                obtain ⟨xv3, yv3, qv3⟩ := bump_at (l := bump (bump (acc) (1 + n * 7)) (1 + n * 7 + 2)) (1 + n * 7 + 3) (by (try simp only [bump_len]); have := HLA.out; have := QN.out; omega)
                have yv3A := Aside0.mk yv3
                have qv3A := Aside0.mk qv3
                clear yv3 qv3
                refine start_ (n := 10) (S := fun w' => w'.cell? ⟨w.heap.size + 1, 1 + n * 7 + 3, none⟩ = some (.int .i64 xv3)) (ds := [9]) (lb 10 0) (by kernel_rfl) rfl rfl ((blk_cell (blk_drew O_917.out) (1 + n * 7 + 3)).trans yv3A.out) (fun hHeld => ?_)
                refine pS (v := ?_) (a' := ?_) 0 (some 77) (lb 10 1) rfl rfl (by kernel_rfl) (fun _ _ _ h => h) (by rfl) ?_ ?_ ?_; rotate_left; (intro w'; go_simp; with_reducible rfl); rotate_left; (simp only [Act.put, List.setIfInBounds_toArray, List.set_cons_zero, List.set_cons_succ, i64_w, i32_w]; rfl)
                refine pS (v := ?_) (a' := ?_) 1 (some 78) (lb 10 3) rfl rfl (by kernel_rfl) (fun _ _ _ h => h) (by rfl) ?_ ?_ ?_; rotate_left; (intro w'; go_simp; with_reducible rfl); rotate_left; (simp only [Act.put, List.setIfInBounds_toArray, List.set_cons_zero, List.set_cons_succ, i64_w, i32_w]; rfl)
                refine pS (v := ?_) (a' := ?_) 2 (some 79) (lb 10 7) rfl rfl (by kernel_rfl) (fun _ _ _ h => h) (by rfl) ?_ ?_ ?_; rotate_left; (intro w'; go_simp; with_reducible rfl); rotate_left; (simp only [Act.put, List.setIfInBounds_toArray, List.set_cons_zero, List.set_cons_succ, i64_w, i32_w]; rfl)
                refine pS (v := ?_) (a' := ?_) 3 (some 80) (lb 10 15) rfl rfl (by kernel_rfl) (fun _ _ _ h => h) (by rfl) ?_ ?_ ?_; rotate_left; (intro w'; go_simp; with_reducible rfl); rotate_left; (simp only [Act.put, List.setIfInBounds_toArray, List.set_cons_zero, List.set_cons_succ, i64_w, i32_w]; rfl)
                refine pS (v := ?_) (a' := ?_) 6 (some 83) (lb 10 79) rfl rfl (by kernel_rfl) (fun _ _ _ h => h) (by rfl) ?_ ?_ ?_; rotate_left; (intro w'; go_simp; with_reducible rfl); rotate_left; (simp only [Act.put, List.setIfInBounds_toArray, List.set_cons_zero, List.set_cons_succ, i64_w, i32_w]; rfl)
                refine pS (v := ?_) (a' := ?_) 7 (some 84) (lb 10 207) rfl rfl (by kernel_rfl) (fun _ _ _ h => h) (by rfl) ?_ ?_ ?_; rotate_left; (intro w'; go_simp; with_reducible rfl); rotate_left; (simp only [Act.put, List.setIfInBounds_toArray, List.set_cons_zero, List.set_cons_succ, i64_w, i32_w]; rfl)
                refine tS (v := ?_) (a' := ?_) 4 (some 81) (lb 10 223) rfl rfl (by kernel_rfl) (fun _ _ _ h => h) hHeld (by rfl) ?_ ?_ ?_; rotate_left; (rintro w' s0; go_simp; with_reducible rfl); rotate_left; (simp only [Act.put, List.setIfInBounds_toArray, List.set_cons_zero, List.set_cons_succ, i64_w, i32_w]; rfl)
                refine pS (v := ?_) (a' := ?_) 5 (some 82) (lb 10 255) rfl rfl (by kernel_rfl) (fun _ _ _ h => h) (by rfl) ?_ ?_ ?_; rotate_left; (intro w'; go_simp; with_reducible rfl); rotate_left; (simp only [Act.put, List.setIfInBounds_toArray, List.set_cons_zero, List.set_cons_succ, i64_w, i32_w]; rfl)
                refine pS (v := ?_) (a' := ?_) 8 (some 85) (lb 10 511) rfl rfl (by kernel_rfl) (fun _ _ _ h => h) (by rfl) ?_ ?_ ?_; rotate_left; (intro w'; go_simp; with_reducible rfl); rotate_left; (simp only [Act.put, List.setIfInBounds_toArray, List.set_cons_zero, List.set_cons_succ, i64_w, i32_w]; rfl)
                refine last_ (i := 9) (N := none) (lb 10 1023) rfl rfl (by kernel_rfl) (by decide) (fun K hK => ?_)
                refine skip_cell (w := w) 3 (.tmp 85) (.tmp 82) (by rfl) rfl rfl (g := w.heap.size + 1) (1 + n * 7 + 3) ?_ (.int .i64 (wrap64 (xv3 + 1))) ?_ rfl (by kernel_rfl) rfl (blk_drew O_917.out) (by rw [TV_size]; (try simp only [bump_len]); have := HLA.out; have := QN.out; omega) L_O.out (below_drew B918.out) ?_
                · rfl
                · rfl
                intro wz16 h1 h2 h3
                have X_919 := Aside0.mk ((h3 _ NE_X_O.out).trans (blk_drew X_915.out))
                have E_920 := Aside0.mk ((h3 _ (Ne.symm NE_O_E.out)).trans (blk_drew E_916.out))
                have O_921 := Aside0.mk (show wz16.heap[w.heap.size + 1]? = some (.cells (TV (bump (bump (bump (acc) (1 + n * 7)) (1 + n * 7 + 2)) (1 + n * 7 + 3))) 56 (0, 0)) from by rw [h1, TV_set, qv3A.out])
                have B922 := Aside0.mk h2
                clear h1 h2 h3 yv3A qv3A X_915 E_916 O_917 B918
                refine hK.out _ _ ?_
                clear hK K
                refine done_ (by kernel_rfl) ?_
                have e1 := (blk_cell E_920.out 1).trans (show (#[.int .i64 i0, .bool false, .int .i64 (n : Int), .int .u64 o1, .int .u64 o2, .int .i64 o3, .int .i64 ia, .bool false, .bool true, .int .i64 0, .bool true, .int .u64 va] : Array Value)[1]? = some _ from rfl)
                have e2 := (blk_cell E_920.out 2).trans (show (#[.int .i64 i0, .bool false, .int .i64 (n : Int), .int .u64 o1, .int .u64 o2, .int .i64 o3, .int .i64 ia, .bool false, .bool true, .int .i64 0, .bool true, .int .u64 va] : Array Value)[2]? = some _ from rfl)
                have e7 := (blk_cell E_920.out 7).trans (show (#[.int .i64 i0, .bool false, .int .i64 (n : Int), .int .u64 o1, .int .u64 o2, .int .i64 o3, .int .i64 ia, .bool false, .bool true, .int .i64 0, .bool true, .int .u64 va] : Array Value)[7]? = some _ from rfl)
                have e8 := (blk_cell E_920.out 8).trans (show (#[.int .i64 i0, .bool false, .int .i64 (n : Int), .int .u64 o1, .int .u64 o2, .int .i64 o3, .int .i64 ia, .bool false, .bool true, .int .i64 0, .bool true, .int .u64 va] : Array Value)[8]? = some _ from rfl)
                have e9 := (blk_cell E_920.out 9).trans (show (#[.int .i64 i0, .bool false, .int .i64 (n : Int), .int .u64 o1, .int .u64 o2, .int .i64 o3, .int .i64 ia, .bool false, .bool true, .int .i64 0, .bool true, .int .u64 va] : Array Value)[9]? = some _ from rfl)
                have e10 := (blk_cell E_920.out 10).trans (show (#[.int .i64 i0, .bool false, .int .i64 (n : Int), .int .u64 o1, .int .u64 o2, .int .i64 o3, .int .i64 ia, .bool false, .bool true, .int .i64 0, .bool true, .int .u64 va] : Array Value)[10]? = some _ from rfl)
                go_wp2_with fail
                go_roundg ko
                case rel => exact ⟨k + 1, by first | rfl | rw [wi], ⟨by have := HK.out; omega⟩, ⟨B922.out⟩, ⟨X_919.out⟩, ⟨by rw [HST.out, HE.out]; exact O_921.out⟩⟩
                case measure => exact Nat.lt_succ_self _
              | false =>
                have HE := Aside0.mk (show stepE acc (toE ⟨i0, false, ⟨(n : Int), o1, o2, o3⟩, ia, false, true, ⟨0, false, va⟩⟩) = bump (bump (bump acc (1 + n * 7)) (1 + n * 7 + 2)) (1 + n * 7 + 4) from by unfold stepE toE; dsimp only; rw [if_neg (by decide), if_neg K1.out, if_neg K8.out, Int.toNat_natCast]; simp [overV])
                go_wp2_with (first
                  | ((with_reducible refine wpSt 82 (.tmp 5) (.tmp 17) ?_); refine store_whole (w := w) (B := w.heap.size) rfl rfl 82 (.tmp 5) (.tmp 17) rfl (g := wr.heap.size) (cs := #[.int .i64 i0, .bool false, .int .i64 (n : Int), .int .u64 o1, .int .u64 o2, .int .i64 o3, .int .i64 ia, .bool false, .bool true, .int .i64 0, .bool false, .int .u64 va]) rfl _ rfl rfl (by kernel_rfl) (by intro q hq; simp only [List.mem_cons, List.not_mem_nil, or_false] at hq; rcases hq with rfl | rfl | rfl | rfl | rfl | rfl | rfl | rfl | rfl | rfl | rfl | rfl <;> rfl) E_904.out (rfl) L_E.out B905.out ?_; intro w_906 h1 h2 h3 h4; have X_907 := Aside0.mk ((h3 _ NE_X_E.out).trans X_902.out); have O_908 := Aside0.mk ((h3 _ NE_O_E.out).trans O_903.out); have E_909 := Aside0.mk (h1); have B910 := Aside0.mk (h2); clear h1 h2 h3 h4 X_902 O_903 E_904 B905; have e1 := (blk_cell E_909.out 1).trans (show (#[.int .i64 i0, .bool false, .int .i64 (n : Int), .int .u64 o1, .int .u64 o2, .int .i64 o3, .int .i64 ia, .bool false, .bool true, .int .i64 0, .bool false, .int .u64 va] : Array Value)[1]? = some _ from rfl); have e2 := (blk_cell E_909.out 2).trans (show (#[.int .i64 i0, .bool false, .int .i64 (n : Int), .int .u64 o1, .int .u64 o2, .int .i64 o3, .int .i64 ia, .bool false, .bool true, .int .i64 0, .bool false, .int .u64 va] : Array Value)[2]? = some _ from rfl); have e7 := (blk_cell E_909.out 7).trans (show (#[.int .i64 i0, .bool false, .int .i64 (n : Int), .int .u64 o1, .int .u64 o2, .int .i64 o3, .int .i64 ia, .bool false, .bool true, .int .i64 0, .bool false, .int .u64 va] : Array Value)[7]? = some _ from rfl); have e8 := (blk_cell E_909.out 8).trans (show (#[.int .i64 i0, .bool false, .int .i64 (n : Int), .int .u64 o1, .int .u64 o2, .int .i64 o3, .int .i64 ia, .bool false, .bool true, .int .i64 0, .bool false, .int .u64 va] : Array Value)[8]? = some _ from rfl); have e9 := (blk_cell E_909.out 9).trans (show (#[.int .i64 i0, .bool false, .int .i64 (n : Int), .int .u64 o1, .int .u64 o2, .int .i64 o3, .int .i64 ia, .bool false, .bool true, .int .i64 0, .bool false, .int .u64 va] : Array Value)[9]? = some _ from rfl); have e10 := (blk_cell E_909.out 10).trans (show (#[.int .i64 i0, .bool false, .int .i64 (n : Int), .int .u64 o1, .int .u64 o2, .int .i64 o3, .int .i64 ia, .bool false, .bool true, .int .i64 0, .bool false, .int .u64 va] : Array Value)[10]? = some _ from rfl)))
                obtain ⟨xv0, yv0, qv0⟩ := bump_at (l := acc) (1 + n * 7) (by (try simp only [bump_len]); have := HLA.out; have := QN.out; omega)
                have yv0A := Aside0.mk yv0
                have qv0A := Aside0.mk qv0
                clear yv0 qv0
                refine start_ (n := 10) (S := fun w' => w'.cell? ⟨w.heap.size + 1, 1 + n * 7, none⟩ = some (.int .i64 xv0)) (ds := [9]) (lb 10 0) (by kernel_rfl) rfl rfl ((blk_cell (blk_drew O_908.out) (1 + n * 7)).trans yv0A.out) (fun hHeld => ?_)
                refine pS (v := ?_) (a' := ?_) 0 (some 33) (lb 10 1) rfl rfl (by kernel_rfl) (fun _ _ _ h => h) (by rfl) ?_ ?_ ?_; rotate_left; (intro w'; go_simp; with_reducible rfl); rotate_left; (simp only [Act.put, List.setIfInBounds_toArray, List.set_cons_zero, List.set_cons_succ, i64_w, i32_w]; rfl)
                refine pS (v := ?_) (a' := ?_) 1 (some 34) (lb 10 3) rfl rfl (by kernel_rfl) (fun _ _ _ h => h) (by rfl) ?_ ?_ ?_; rotate_left; (intro w'; go_simp; with_reducible rfl); rotate_left; (simp only [Act.put, List.setIfInBounds_toArray, List.set_cons_zero, List.set_cons_succ, i64_w, i32_w]; rfl)
                refine pS (v := ?_) (a' := ?_) 2 (some 35) (lb 10 7) rfl rfl (by kernel_rfl) (fun _ _ _ h => h) (by rfl) ?_ ?_ ?_; rotate_left; (intro w'; go_simp; with_reducible rfl); rotate_left; (simp only [Act.put, List.setIfInBounds_toArray, List.set_cons_zero, List.set_cons_succ, i64_w, i32_w]; rfl)
                refine pS (v := ?_) (a' := ?_) 3 (some 36) (lb 10 15) rfl rfl (by kernel_rfl) (fun _ _ _ h => h) (by rfl) ?_ ?_ ?_; rotate_left; (intro w'; go_simp; with_reducible rfl); rotate_left; (simp only [Act.put, List.setIfInBounds_toArray, List.set_cons_zero, List.set_cons_succ, i64_w, i32_w]; rfl)
                refine pS (v := ?_) (a' := ?_) 6 (some 39) (lb 10 79) rfl rfl (by kernel_rfl) (fun _ _ _ h => h) (by rfl) ?_ ?_ ?_; rotate_left; (intro w'; go_simp; with_reducible rfl); rotate_left; (simp only [Act.put, List.setIfInBounds_toArray, List.set_cons_zero, List.set_cons_succ, i64_w, i32_w]; rfl)
                refine pS (v := ?_) (a' := ?_) 7 (some 40) (lb 10 207) rfl rfl (by kernel_rfl) (fun _ _ _ h => h) (by rfl) ?_ ?_ ?_; rotate_left; (intro w'; go_simp; with_reducible rfl); rotate_left; (simp only [Act.put, List.setIfInBounds_toArray, List.set_cons_zero, List.set_cons_succ, i64_w, i32_w]; rfl)
                refine tS (v := ?_) (a' := ?_) 4 (some 37) (lb 10 223) rfl rfl (by kernel_rfl) (fun _ _ _ h => h) hHeld (by rfl) ?_ ?_ ?_; rotate_left; (rintro w' s0; go_simp; with_reducible rfl); rotate_left; (simp only [Act.put, List.setIfInBounds_toArray, List.set_cons_zero, List.set_cons_succ, i64_w, i32_w]; rfl)
                refine pS (v := ?_) (a' := ?_) 5 (some 38) (lb 10 255) rfl rfl (by kernel_rfl) (fun _ _ _ h => h) (by rfl) ?_ ?_ ?_; rotate_left; (intro w'; go_simp; with_reducible rfl); rotate_left; (simp only [Act.put, List.setIfInBounds_toArray, List.set_cons_zero, List.set_cons_succ, i64_w, i32_w]; rfl)
                refine pS (v := ?_) (a' := ?_) 8 (some 41) (lb 10 511) rfl rfl (by kernel_rfl) (fun _ _ _ h => h) (by rfl) ?_ ?_ ?_; rotate_left; (intro w'; go_simp; with_reducible rfl); rotate_left; (simp only [Act.put, List.setIfInBounds_toArray, List.set_cons_zero, List.set_cons_succ, i64_w, i32_w]; rfl)
                refine last_ (i := 9) (N := none) (lb 10 1023) rfl rfl (by kernel_rfl) (by decide) (fun K hK => ?_)
                refine skip_cell (w := w) 3 (.tmp 41) (.tmp 38) (by rfl) rfl rfl (g := w.heap.size + 1) (1 + n * 7) ?_ (.int .i64 (wrap64 (xv0 + 1))) ?_ rfl (by kernel_rfl) rfl (blk_drew O_908.out) (by rw [TV_size]; (try simp only [bump_len]); have := HLA.out; have := QN.out; omega) L_O.out (below_drew B910.out) ?_
                · rfl
                · rfl
                intro wz10 h1 h2 h3
                have X_911 := Aside0.mk ((h3 _ NE_X_O.out).trans (blk_drew X_907.out))
                have E_912 := Aside0.mk ((h3 _ (Ne.symm NE_O_E.out)).trans (blk_drew E_909.out))
                have O_913 := Aside0.mk (show wz10.heap[w.heap.size + 1]? = some (.cells (TV (bump (acc) (1 + n * 7))) 56 (0, 0)) from by rw [h1, TV_set, qv0A.out])
                have B914 := Aside0.mk h2
                clear h1 h2 h3 yv0A qv0A X_907 E_909 O_908 B910
                refine hK.out _ _ ?_
                clear hK K
                refine done_ (by kernel_rfl) ?_
                have e1 := (blk_cell E_912.out 1).trans (show (#[.int .i64 i0, .bool false, .int .i64 (n : Int), .int .u64 o1, .int .u64 o2, .int .i64 o3, .int .i64 ia, .bool false, .bool true, .int .i64 0, .bool false, .int .u64 va] : Array Value)[1]? = some _ from rfl)
                have e2 := (blk_cell E_912.out 2).trans (show (#[.int .i64 i0, .bool false, .int .i64 (n : Int), .int .u64 o1, .int .u64 o2, .int .i64 o3, .int .i64 ia, .bool false, .bool true, .int .i64 0, .bool false, .int .u64 va] : Array Value)[2]? = some _ from rfl)
                have e7 := (blk_cell E_912.out 7).trans (show (#[.int .i64 i0, .bool false, .int .i64 (n : Int), .int .u64 o1, .int .u64 o2, .int .i64 o3, .int .i64 ia, .bool false, .bool true, .int .i64 0, .bool false, .int .u64 va] : Array Value)[7]? = some _ from rfl)
                have e8 := (blk_cell E_912.out 8).trans (show (#[.int .i64 i0, .bool false, .int .i64 (n : Int), .int .u64 o1, .int .u64 o2, .int .i64 o3, .int .i64 ia, .bool false, .bool true, .int .i64 0, .bool false, .int .u64 va] : Array Value)[8]? = some _ from rfl)
                have e9 := (blk_cell E_912.out 9).trans (show (#[.int .i64 i0, .bool false, .int .i64 (n : Int), .int .u64 o1, .int .u64 o2, .int .i64 o3, .int .i64 ia, .bool false, .bool true, .int .i64 0, .bool false, .int .u64 va] : Array Value)[9]? = some _ from rfl)
                have e10 := (blk_cell E_912.out 10).trans (show (#[.int .i64 i0, .bool false, .int .i64 (n : Int), .int .u64 o1, .int .u64 o2, .int .i64 o3, .int .i64 ia, .bool false, .bool true, .int .i64 0, .bool false, .int .u64 va] : Array Value)[10]? = some _ from rfl)
                go_wp2_with fail
                obtain ⟨xv2, yv2, qv2⟩ := bump_at (l := bump (acc) (1 + n * 7)) (1 + n * 7 + 2) (by (try simp only [bump_len]); have := HLA.out; have := QN.out; omega)
                have yv2A := Aside0.mk yv2
                have qv2A := Aside0.mk qv2
                clear yv2 qv2
                refine start_ (n := 10) (S := fun w' => w'.cell? ⟨w.heap.size + 1, 1 + n * 7 + 2, none⟩ = some (.int .i64 xv2)) (ds := [9]) (lb 10 0) (by kernel_rfl) rfl rfl ((blk_cell (blk_drew O_913.out) (1 + n * 7 + 2)).trans yv2A.out) (fun hHeld => ?_)
                refine pS (v := ?_) (a' := ?_) 0 (some 55) (lb 10 1) rfl rfl (by kernel_rfl) (fun _ _ _ h => h) (by rfl) ?_ ?_ ?_; rotate_left; (intro w'; go_simp; with_reducible rfl); rotate_left; (simp only [Act.put, List.setIfInBounds_toArray, List.set_cons_zero, List.set_cons_succ, i64_w, i32_w]; rfl)
                refine pS (v := ?_) (a' := ?_) 1 (some 56) (lb 10 3) rfl rfl (by kernel_rfl) (fun _ _ _ h => h) (by rfl) ?_ ?_ ?_; rotate_left; (intro w'; go_simp; with_reducible rfl); rotate_left; (simp only [Act.put, List.setIfInBounds_toArray, List.set_cons_zero, List.set_cons_succ, i64_w, i32_w]; rfl)
                refine pS (v := ?_) (a' := ?_) 2 (some 57) (lb 10 7) rfl rfl (by kernel_rfl) (fun _ _ _ h => h) (by rfl) ?_ ?_ ?_; rotate_left; (intro w'; go_simp; with_reducible rfl); rotate_left; (simp only [Act.put, List.setIfInBounds_toArray, List.set_cons_zero, List.set_cons_succ, i64_w, i32_w]; rfl)
                refine pS (v := ?_) (a' := ?_) 3 (some 58) (lb 10 15) rfl rfl (by kernel_rfl) (fun _ _ _ h => h) (by rfl) ?_ ?_ ?_; rotate_left; (intro w'; go_simp; with_reducible rfl); rotate_left; (simp only [Act.put, List.setIfInBounds_toArray, List.set_cons_zero, List.set_cons_succ, i64_w, i32_w]; rfl)
                refine pS (v := ?_) (a' := ?_) 6 (some 61) (lb 10 79) rfl rfl (by kernel_rfl) (fun _ _ _ h => h) (by rfl) ?_ ?_ ?_; rotate_left; (intro w'; go_simp; with_reducible rfl); rotate_left; (simp only [Act.put, List.setIfInBounds_toArray, List.set_cons_zero, List.set_cons_succ, i64_w, i32_w]; rfl)
                refine pS (v := ?_) (a' := ?_) 7 (some 62) (lb 10 207) rfl rfl (by kernel_rfl) (fun _ _ _ h => h) (by rfl) ?_ ?_ ?_; rotate_left; (intro w'; go_simp; with_reducible rfl); rotate_left; (simp only [Act.put, List.setIfInBounds_toArray, List.set_cons_zero, List.set_cons_succ, i64_w, i32_w]; rfl)
                refine tS (v := ?_) (a' := ?_) 4 (some 59) (lb 10 223) rfl rfl (by kernel_rfl) (fun _ _ _ h => h) hHeld (by rfl) ?_ ?_ ?_; rotate_left; (rintro w' s0; go_simp; with_reducible rfl); rotate_left; (simp only [Act.put, List.setIfInBounds_toArray, List.set_cons_zero, List.set_cons_succ, i64_w, i32_w]; rfl)
                refine pS (v := ?_) (a' := ?_) 5 (some 60) (lb 10 255) rfl rfl (by kernel_rfl) (fun _ _ _ h => h) (by rfl) ?_ ?_ ?_; rotate_left; (intro w'; go_simp; with_reducible rfl); rotate_left; (simp only [Act.put, List.setIfInBounds_toArray, List.set_cons_zero, List.set_cons_succ, i64_w, i32_w]; rfl)
                refine pS (v := ?_) (a' := ?_) 8 (some 63) (lb 10 511) rfl rfl (by kernel_rfl) (fun _ _ _ h => h) (by rfl) ?_ ?_ ?_; rotate_left; (intro w'; go_simp; with_reducible rfl); rotate_left; (simp only [Act.put, List.setIfInBounds_toArray, List.set_cons_zero, List.set_cons_succ, i64_w, i32_w]; rfl)
                refine last_ (i := 9) (N := none) (lb 10 1023) rfl rfl (by kernel_rfl) (by decide) (fun K hK => ?_)
                refine skip_cell (w := w) 3 (.tmp 63) (.tmp 60) (by rfl) rfl rfl (g := w.heap.size + 1) (1 + n * 7 + 2) ?_ (.int .i64 (wrap64 (xv2 + 1))) ?_ rfl (by kernel_rfl) rfl (blk_drew O_913.out) (by rw [TV_size]; (try simp only [bump_len]); have := HLA.out; have := QN.out; omega) L_O.out (below_drew B914.out) ?_
                · rfl
                · rfl
                intro wz14 h1 h2 h3
                have X_915 := Aside0.mk ((h3 _ NE_X_O.out).trans (blk_drew X_911.out))
                have E_916 := Aside0.mk ((h3 _ (Ne.symm NE_O_E.out)).trans (blk_drew E_912.out))
                have O_917 := Aside0.mk (show wz14.heap[w.heap.size + 1]? = some (.cells (TV (bump (bump (acc) (1 + n * 7)) (1 + n * 7 + 2))) 56 (0, 0)) from by rw [h1, TV_set, qv2A.out])
                have B918 := Aside0.mk h2
                clear h1 h2 h3 yv2A qv2A X_911 E_912 O_913 B914
                refine hK.out _ _ ?_
                clear hK K
                refine done_ (by kernel_rfl) ?_
                have e1 := (blk_cell E_916.out 1).trans (show (#[.int .i64 i0, .bool false, .int .i64 (n : Int), .int .u64 o1, .int .u64 o2, .int .i64 o3, .int .i64 ia, .bool false, .bool true, .int .i64 0, .bool false, .int .u64 va] : Array Value)[1]? = some _ from rfl)
                have e2 := (blk_cell E_916.out 2).trans (show (#[.int .i64 i0, .bool false, .int .i64 (n : Int), .int .u64 o1, .int .u64 o2, .int .i64 o3, .int .i64 ia, .bool false, .bool true, .int .i64 0, .bool false, .int .u64 va] : Array Value)[2]? = some _ from rfl)
                have e7 := (blk_cell E_916.out 7).trans (show (#[.int .i64 i0, .bool false, .int .i64 (n : Int), .int .u64 o1, .int .u64 o2, .int .i64 o3, .int .i64 ia, .bool false, .bool true, .int .i64 0, .bool false, .int .u64 va] : Array Value)[7]? = some _ from rfl)
                have e8 := (blk_cell E_916.out 8).trans (show (#[.int .i64 i0, .bool false, .int .i64 (n : Int), .int .u64 o1, .int .u64 o2, .int .i64 o3, .int .i64 ia, .bool false, .bool true, .int .i64 0, .bool false, .int .u64 va] : Array Value)[8]? = some _ from rfl)
                have e9 := (blk_cell E_916.out 9).trans (show (#[.int .i64 i0, .bool false, .int .i64 (n : Int), .int .u64 o1, .int .u64 o2, .int .i64 o3, .int .i64 ia, .bool false, .bool true, .int .i64 0, .bool false, .int .u64 va] : Array Value)[9]? = some _ from rfl)
                have e10 := (blk_cell E_916.out 10).trans (show (#[.int .i64 i0, .bool false, .int .i64 (n : Int), .int .u64 o1, .int .u64 o2, .int .i64 o3, .int .i64 ia, .bool false, .bool true, .int .i64 0, .bool false, .int .u64 va] : Array Value)[10]? = some _ from rfl)
                go_wp2_with fail
                obtain ⟨xv4, yv4, qv4⟩ := bump_at (l := bump (bump (acc) (1 + n * 7)) (1 + n * 7 + 2)) (1 + n * 7 + 4) (by (try simp only [bump_len]); have := HLA.out; have := QN.out; omega)
                have yv4A := Aside0.mk yv4
                have qv4A := Aside0.mk qv4
                clear yv4 qv4
                refine start_ (n := 10) (S := fun w' => w'.cell? ⟨w.heap.size + 1, 1 + n * 7 + 4, none⟩ = some (.int .i64 xv4)) (ds := [9]) (lb 10 0) (by kernel_rfl) rfl rfl ((blk_cell (blk_drew O_917.out) (1 + n * 7 + 4)).trans yv4A.out) (fun hHeld => ?_)
                refine pS (v := ?_) (a' := ?_) 0 (some 100) (lb 10 1) rfl rfl (by kernel_rfl) (fun _ _ _ h => h) (by rfl) ?_ ?_ ?_; rotate_left; (intro w'; go_simp; with_reducible rfl); rotate_left; (simp only [Act.put, List.setIfInBounds_toArray, List.set_cons_zero, List.set_cons_succ, i64_w, i32_w]; rfl)
                refine pS (v := ?_) (a' := ?_) 1 (some 101) (lb 10 3) rfl rfl (by kernel_rfl) (fun _ _ _ h => h) (by rfl) ?_ ?_ ?_; rotate_left; (intro w'; go_simp; with_reducible rfl); rotate_left; (simp only [Act.put, List.setIfInBounds_toArray, List.set_cons_zero, List.set_cons_succ, i64_w, i32_w]; rfl)
                refine pS (v := ?_) (a' := ?_) 2 (some 102) (lb 10 7) rfl rfl (by kernel_rfl) (fun _ _ _ h => h) (by rfl) ?_ ?_ ?_; rotate_left; (intro w'; go_simp; with_reducible rfl); rotate_left; (simp only [Act.put, List.setIfInBounds_toArray, List.set_cons_zero, List.set_cons_succ, i64_w, i32_w]; rfl)
                refine pS (v := ?_) (a' := ?_) 3 (some 103) (lb 10 15) rfl rfl (by kernel_rfl) (fun _ _ _ h => h) (by rfl) ?_ ?_ ?_; rotate_left; (intro w'; go_simp; with_reducible rfl); rotate_left; (simp only [Act.put, List.setIfInBounds_toArray, List.set_cons_zero, List.set_cons_succ, i64_w, i32_w]; rfl)
                refine pS (v := ?_) (a' := ?_) 6 (some 106) (lb 10 79) rfl rfl (by kernel_rfl) (fun _ _ _ h => h) (by rfl) ?_ ?_ ?_; rotate_left; (intro w'; go_simp; with_reducible rfl); rotate_left; (simp only [Act.put, List.setIfInBounds_toArray, List.set_cons_zero, List.set_cons_succ, i64_w, i32_w]; rfl)
                refine pS (v := ?_) (a' := ?_) 7 (some 107) (lb 10 207) rfl rfl (by kernel_rfl) (fun _ _ _ h => h) (by rfl) ?_ ?_ ?_; rotate_left; (intro w'; go_simp; with_reducible rfl); rotate_left; (simp only [Act.put, List.setIfInBounds_toArray, List.set_cons_zero, List.set_cons_succ, i64_w, i32_w]; rfl)
                refine tS (v := ?_) (a' := ?_) 4 (some 104) (lb 10 223) rfl rfl (by kernel_rfl) (fun _ _ _ h => h) hHeld (by rfl) ?_ ?_ ?_; rotate_left; (rintro w' s0; go_simp; with_reducible rfl); rotate_left; (simp only [Act.put, List.setIfInBounds_toArray, List.set_cons_zero, List.set_cons_succ, i64_w, i32_w]; rfl)
                refine pS (v := ?_) (a' := ?_) 5 (some 105) (lb 10 255) rfl rfl (by kernel_rfl) (fun _ _ _ h => h) (by rfl) ?_ ?_ ?_; rotate_left; (intro w'; go_simp; with_reducible rfl); rotate_left; (simp only [Act.put, List.setIfInBounds_toArray, List.set_cons_zero, List.set_cons_succ, i64_w, i32_w]; rfl)
                refine pS (v := ?_) (a' := ?_) 8 (some 108) (lb 10 511) rfl rfl (by kernel_rfl) (fun _ _ _ h => h) (by rfl) ?_ ?_ ?_; rotate_left; (intro w'; go_simp; with_reducible rfl); rotate_left; (simp only [Act.put, List.setIfInBounds_toArray, List.set_cons_zero, List.set_cons_succ, i64_w, i32_w]; rfl)
                refine last_ (i := 9) (N := none) (lb 10 1023) rfl rfl (by kernel_rfl) (by decide) (fun K hK => ?_)
                refine skip_cell (w := w) 3 (.tmp 108) (.tmp 105) (by rfl) rfl rfl (g := w.heap.size + 1) (1 + n * 7 + 4) ?_ (.int .i64 (wrap64 (xv4 + 1))) ?_ rfl (by kernel_rfl) rfl (blk_drew O_917.out) (by rw [TV_size]; (try simp only [bump_len]); have := HLA.out; have := QN.out; omega) L_O.out (below_drew B918.out) ?_
                · rfl
                · rfl
                intro wz18 h1 h2 h3
                have X_919 := Aside0.mk ((h3 _ NE_X_O.out).trans (blk_drew X_915.out))
                have E_920 := Aside0.mk ((h3 _ (Ne.symm NE_O_E.out)).trans (blk_drew E_916.out))
                have O_921 := Aside0.mk (show wz18.heap[w.heap.size + 1]? = some (.cells (TV (bump (bump (bump (acc) (1 + n * 7)) (1 + n * 7 + 2)) (1 + n * 7 + 4))) 56 (0, 0)) from by rw [h1, TV_set, qv4A.out])
                have B922 := Aside0.mk h2
                clear h1 h2 h3 yv4A qv4A X_915 E_916 O_917 B918
                refine hK.out _ _ ?_
                clear hK K
                refine done_ (by kernel_rfl) ?_
                have e1 := (blk_cell E_920.out 1).trans (show (#[.int .i64 i0, .bool false, .int .i64 (n : Int), .int .u64 o1, .int .u64 o2, .int .i64 o3, .int .i64 ia, .bool false, .bool true, .int .i64 0, .bool false, .int .u64 va] : Array Value)[1]? = some _ from rfl)
                have e2 := (blk_cell E_920.out 2).trans (show (#[.int .i64 i0, .bool false, .int .i64 (n : Int), .int .u64 o1, .int .u64 o2, .int .i64 o3, .int .i64 ia, .bool false, .bool true, .int .i64 0, .bool false, .int .u64 va] : Array Value)[2]? = some _ from rfl)
                have e7 := (blk_cell E_920.out 7).trans (show (#[.int .i64 i0, .bool false, .int .i64 (n : Int), .int .u64 o1, .int .u64 o2, .int .i64 o3, .int .i64 ia, .bool false, .bool true, .int .i64 0, .bool false, .int .u64 va] : Array Value)[7]? = some _ from rfl)
                have e8 := (blk_cell E_920.out 8).trans (show (#[.int .i64 i0, .bool false, .int .i64 (n : Int), .int .u64 o1, .int .u64 o2, .int .i64 o3, .int .i64 ia, .bool false, .bool true, .int .i64 0, .bool false, .int .u64 va] : Array Value)[8]? = some _ from rfl)
                have e9 := (blk_cell E_920.out 9).trans (show (#[.int .i64 i0, .bool false, .int .i64 (n : Int), .int .u64 o1, .int .u64 o2, .int .i64 o3, .int .i64 ia, .bool false, .bool true, .int .i64 0, .bool false, .int .u64 va] : Array Value)[9]? = some _ from rfl)
                have e10 := (blk_cell E_920.out 10).trans (show (#[.int .i64 i0, .bool false, .int .i64 (n : Int), .int .u64 o1, .int .u64 o2, .int .i64 o3, .int .i64 ia, .bool false, .bool true, .int .i64 0, .bool false, .int .u64 va] : Array Value)[10]? = some _ from rfl)
                go_wp2_with fail
                go_roundg ko
                case rel => exact ⟨k + 1, by first | rfl | rw [wi], ⟨by have := HK.out; omega⟩, ⟨B922.out⟩, ⟨X_919.out⟩, ⟨by rw [HST.out, HE.out]; exact O_921.out⟩⟩
                case measure => exact Nat.lt_succ_self _
            have b6 : (er == 6) = false := beq_eq_false_iff_ne.mpr c6
            have b7 : (er == 7) = false := beq_eq_false_iff_ne.mpr c7
            have b0 : (er == 0) = false := beq_eq_false_iff_ne.mpr c0
            have HE := Aside0.mk (show stepE acc (toE ⟨i0, false, ⟨(n : Int), o1, o2, o3⟩, ia, false, true, ⟨er, dn, va⟩⟩) = bump (bump acc (1 + n * 7)) (1 + n * 7 + 2) from by unfold stepE toE; dsimp only; rw [if_neg (by decide), if_neg K1.out, if_neg K8.out, Int.toNat_natCast]; simp [overV, c6, c7, c0])
            go_wp2_with (first
              | ((with_reducible refine wpSt 82 (.tmp 5) (.tmp 17) ?_); refine store_whole (w := w) (B := w.heap.size) rfl rfl 82 (.tmp 5) (.tmp 17) rfl (g := wr.heap.size) (cs := #[.int .i64 i0, .bool false, .int .i64 (n : Int), .int .u64 o1, .int .u64 o2, .int .i64 o3, .int .i64 ia, .bool false, .bool true, .int .i64 er, .bool dn, .int .u64 va]) rfl _ rfl rfl (by kernel_rfl) (by intro q hq; simp only [List.mem_cons, List.not_mem_nil, or_false] at hq; rcases hq with rfl | rfl | rfl | rfl | rfl | rfl | rfl | rfl | rfl | rfl | rfl | rfl <;> rfl) E_904.out (rfl) L_E.out B905.out ?_; intro w_906 h1 h2 h3 h4; have X_907 := Aside0.mk ((h3 _ NE_X_E.out).trans X_902.out); have O_908 := Aside0.mk ((h3 _ NE_O_E.out).trans O_903.out); have E_909 := Aside0.mk (h1); have B910 := Aside0.mk (h2); clear h1 h2 h3 h4 X_902 O_903 E_904 B905; have e1 := (blk_cell E_909.out 1).trans (show (#[.int .i64 i0, .bool false, .int .i64 (n : Int), .int .u64 o1, .int .u64 o2, .int .i64 o3, .int .i64 ia, .bool false, .bool true, .int .i64 er, .bool dn, .int .u64 va] : Array Value)[1]? = some _ from rfl); have e2 := (blk_cell E_909.out 2).trans (show (#[.int .i64 i0, .bool false, .int .i64 (n : Int), .int .u64 o1, .int .u64 o2, .int .i64 o3, .int .i64 ia, .bool false, .bool true, .int .i64 er, .bool dn, .int .u64 va] : Array Value)[2]? = some _ from rfl); have e7 := (blk_cell E_909.out 7).trans (show (#[.int .i64 i0, .bool false, .int .i64 (n : Int), .int .u64 o1, .int .u64 o2, .int .i64 o3, .int .i64 ia, .bool false, .bool true, .int .i64 er, .bool dn, .int .u64 va] : Array Value)[7]? = some _ from rfl); have e8 := (blk_cell E_909.out 8).trans (show (#[.int .i64 i0, .bool false, .int .i64 (n : Int), .int .u64 o1, .int .u64 o2, .int .i64 o3, .int .i64 ia, .bool false, .bool true, .int .i64 er, .bool dn, .int .u64 va] : Array Value)[8]? = some _ from rfl); have e9 := (blk_cell E_909.out 9).trans (show (#[.int .i64 i0, .bool false, .int .i64 (n : Int), .int .u64 o1, .int .u64 o2, .int .i64 o3, .int .i64 ia, .bool false, .bool true, .int .i64 er, .bool dn, .int .u64 va] : Array Value)[9]? = some _ from rfl); have e10 := (blk_cell E_909.out 10).trans (show (#[.int .i64 i0, .bool false, .int .i64 (n : Int), .int .u64 o1, .int .u64 o2, .int .i64 o3, .int .i64 ia, .bool false, .bool true, .int .i64 er, .bool dn, .int .u64 va] : Array Value)[10]? = some _ from rfl)))
            obtain ⟨xv0, yv0, qv0⟩ := bump_at (l := acc) (1 + n * 7) (by (try simp only [bump_len]); have := HLA.out; have := QN.out; omega)
            have yv0A := Aside0.mk yv0
            have qv0A := Aside0.mk qv0
            clear yv0 qv0
            refine start_ (n := 10) (S := fun w' => w'.cell? ⟨w.heap.size + 1, 1 + n * 7, none⟩ = some (.int .i64 xv0)) (ds := [9]) (lb 10 0) (by kernel_rfl) rfl rfl ((blk_cell (blk_drew O_908.out) (1 + n * 7)).trans yv0A.out) (fun hHeld => ?_)
            refine pS (v := ?_) (a' := ?_) 0 (some 33) (lb 10 1) rfl rfl (by kernel_rfl) (fun _ _ _ h => h) (by rfl) ?_ ?_ ?_; rotate_left; (intro w'; go_simp; with_reducible rfl); rotate_left; (simp only [Act.put, List.setIfInBounds_toArray, List.set_cons_zero, List.set_cons_succ, i64_w, i32_w]; rfl)
            refine pS (v := ?_) (a' := ?_) 1 (some 34) (lb 10 3) rfl rfl (by kernel_rfl) (fun _ _ _ h => h) (by rfl) ?_ ?_ ?_; rotate_left; (intro w'; go_simp; with_reducible rfl); rotate_left; (simp only [Act.put, List.setIfInBounds_toArray, List.set_cons_zero, List.set_cons_succ, i64_w, i32_w]; rfl)
            refine pS (v := ?_) (a' := ?_) 2 (some 35) (lb 10 7) rfl rfl (by kernel_rfl) (fun _ _ _ h => h) (by rfl) ?_ ?_ ?_; rotate_left; (intro w'; go_simp; with_reducible rfl); rotate_left; (simp only [Act.put, List.setIfInBounds_toArray, List.set_cons_zero, List.set_cons_succ, i64_w, i32_w]; rfl)
            refine pS (v := ?_) (a' := ?_) 3 (some 36) (lb 10 15) rfl rfl (by kernel_rfl) (fun _ _ _ h => h) (by rfl) ?_ ?_ ?_; rotate_left; (intro w'; go_simp; with_reducible rfl); rotate_left; (simp only [Act.put, List.setIfInBounds_toArray, List.set_cons_zero, List.set_cons_succ, i64_w, i32_w]; rfl)
            refine pS (v := ?_) (a' := ?_) 6 (some 39) (lb 10 79) rfl rfl (by kernel_rfl) (fun _ _ _ h => h) (by rfl) ?_ ?_ ?_; rotate_left; (intro w'; go_simp; with_reducible rfl); rotate_left; (simp only [Act.put, List.setIfInBounds_toArray, List.set_cons_zero, List.set_cons_succ, i64_w, i32_w]; rfl)
            refine pS (v := ?_) (a' := ?_) 7 (some 40) (lb 10 207) rfl rfl (by kernel_rfl) (fun _ _ _ h => h) (by rfl) ?_ ?_ ?_; rotate_left; (intro w'; go_simp; with_reducible rfl); rotate_left; (simp only [Act.put, List.setIfInBounds_toArray, List.set_cons_zero, List.set_cons_succ, i64_w, i32_w]; rfl)
            refine tS (v := ?_) (a' := ?_) 4 (some 37) (lb 10 223) rfl rfl (by kernel_rfl) (fun _ _ _ h => h) hHeld (by rfl) ?_ ?_ ?_; rotate_left; (rintro w' s0; go_simp; with_reducible rfl); rotate_left; (simp only [Act.put, List.setIfInBounds_toArray, List.set_cons_zero, List.set_cons_succ, i64_w, i32_w]; rfl)
            refine pS (v := ?_) (a' := ?_) 5 (some 38) (lb 10 255) rfl rfl (by kernel_rfl) (fun _ _ _ h => h) (by rfl) ?_ ?_ ?_; rotate_left; (intro w'; go_simp; with_reducible rfl); rotate_left; (simp only [Act.put, List.setIfInBounds_toArray, List.set_cons_zero, List.set_cons_succ, i64_w, i32_w]; rfl)
            refine pS (v := ?_) (a' := ?_) 8 (some 41) (lb 10 511) rfl rfl (by kernel_rfl) (fun _ _ _ h => h) (by rfl) ?_ ?_ ?_; rotate_left; (intro w'; go_simp; with_reducible rfl); rotate_left; (simp only [Act.put, List.setIfInBounds_toArray, List.set_cons_zero, List.set_cons_succ, i64_w, i32_w]; rfl)
            refine last_ (i := 9) (N := none) (lb 10 1023) rfl rfl (by kernel_rfl) (by decide) (fun K hK => ?_)
            refine skip_cell (w := w) 3 (.tmp 41) (.tmp 38) (by rfl) rfl rfl (g := w.heap.size + 1) (1 + n * 7) ?_ (.int .i64 (wrap64 (xv0 + 1))) ?_ rfl (by kernel_rfl) rfl (blk_drew O_908.out) (by rw [TV_size]; (try simp only [bump_len]); have := HLA.out; have := QN.out; omega) L_O.out (below_drew B910.out) ?_
            · rfl
            · rfl
            intro wz10 h1 h2 h3
            have X_911 := Aside0.mk ((h3 _ NE_X_O.out).trans (blk_drew X_907.out))
            have E_912 := Aside0.mk ((h3 _ (Ne.symm NE_O_E.out)).trans (blk_drew E_909.out))
            have O_913 := Aside0.mk (show wz10.heap[w.heap.size + 1]? = some (.cells (TV (bump (acc) (1 + n * 7))) 56 (0, 0)) from by rw [h1, TV_set, qv0A.out])
            have B914 := Aside0.mk h2
            clear h1 h2 h3 yv0A qv0A X_907 E_909 O_908 B910
            refine hK.out _ _ ?_
            clear hK K
            refine done_ (by kernel_rfl) ?_
            have e1 := (blk_cell E_912.out 1).trans (show (#[.int .i64 i0, .bool false, .int .i64 (n : Int), .int .u64 o1, .int .u64 o2, .int .i64 o3, .int .i64 ia, .bool false, .bool true, .int .i64 er, .bool dn, .int .u64 va] : Array Value)[1]? = some _ from rfl)
            have e2 := (blk_cell E_912.out 2).trans (show (#[.int .i64 i0, .bool false, .int .i64 (n : Int), .int .u64 o1, .int .u64 o2, .int .i64 o3, .int .i64 ia, .bool false, .bool true, .int .i64 er, .bool dn, .int .u64 va] : Array Value)[2]? = some _ from rfl)
            have e7 := (blk_cell E_912.out 7).trans (show (#[.int .i64 i0, .bool false, .int .i64 (n : Int), .int .u64 o1, .int .u64 o2, .int .i64 o3, .int .i64 ia, .bool false, .bool true, .int .i64 er, .bool dn, .int .u64 va] : Array Value)[7]? = some _ from rfl)
            have e8 := (blk_cell E_912.out 8).trans (show (#[.int .i64 i0, .bool false, .int .i64 (n : Int), .int .u64 o1, .int .u64 o2, .int .i64 o3, .int .i64 ia, .bool false, .bool true, .int .i64 er, .bool dn, .int .u64 va] : Array Value)[8]? = some _ from rfl)
            have e9 := (blk_cell E_912.out 9).trans (show (#[.int .i64 i0, .bool false, .int .i64 (n : Int), .int .u64 o1, .int .u64 o2, .int .i64 o3, .int .i64 ia, .bool false, .bool true, .int .i64 er, .bool dn, .int .u64 va] : Array Value)[9]? = some _ from rfl)
            have e10 := (blk_cell E_912.out 10).trans (show (#[.int .i64 i0, .bool false, .int .i64 (n : Int), .int .u64 o1, .int .u64 o2, .int .i64 o3, .int .i64 ia, .bool false, .bool true, .int .i64 er, .bool dn, .int .u64 va] : Array Value)[10]? = some _ from rfl)
            go_wp2_with fail
            obtain ⟨xv2, yv2, qv2⟩ := bump_at (l := bump (acc) (1 + n * 7)) (1 + n * 7 + 2) (by (try simp only [bump_len]); have := HLA.out; have := QN.out; omega)
            have yv2A := Aside0.mk yv2
            have qv2A := Aside0.mk qv2
            clear yv2 qv2
            refine start_ (n := 10) (S := fun w' => w'.cell? ⟨w.heap.size + 1, 1 + n * 7 + 2, none⟩ = some (.int .i64 xv2)) (ds := [9]) (lb 10 0) (by kernel_rfl) rfl rfl ((blk_cell (blk_drew O_913.out) (1 + n * 7 + 2)).trans yv2A.out) (fun hHeld => ?_)
            refine pS (v := ?_) (a' := ?_) 0 (some 55) (lb 10 1) rfl rfl (by kernel_rfl) (fun _ _ _ h => h) (by rfl) ?_ ?_ ?_; rotate_left; (intro w'; go_simp; with_reducible rfl); rotate_left; (simp only [Act.put, List.setIfInBounds_toArray, List.set_cons_zero, List.set_cons_succ, i64_w, i32_w]; rfl)
            refine pS (v := ?_) (a' := ?_) 1 (some 56) (lb 10 3) rfl rfl (by kernel_rfl) (fun _ _ _ h => h) (by rfl) ?_ ?_ ?_; rotate_left; (intro w'; go_simp; with_reducible rfl); rotate_left; (simp only [Act.put, List.setIfInBounds_toArray, List.set_cons_zero, List.set_cons_succ, i64_w, i32_w]; rfl)
            refine pS (v := ?_) (a' := ?_) 2 (some 57) (lb 10 7) rfl rfl (by kernel_rfl) (fun _ _ _ h => h) (by rfl) ?_ ?_ ?_; rotate_left; (intro w'; go_simp; with_reducible rfl); rotate_left; (simp only [Act.put, List.setIfInBounds_toArray, List.set_cons_zero, List.set_cons_succ, i64_w, i32_w]; rfl)
            refine pS (v := ?_) (a' := ?_) 3 (some 58) (lb 10 15) rfl rfl (by kernel_rfl) (fun _ _ _ h => h) (by rfl) ?_ ?_ ?_; rotate_left; (intro w'; go_simp; with_reducible rfl); rotate_left; (simp only [Act.put, List.setIfInBounds_toArray, List.set_cons_zero, List.set_cons_succ, i64_w, i32_w]; rfl)
            refine pS (v := ?_) (a' := ?_) 6 (some 61) (lb 10 79) rfl rfl (by kernel_rfl) (fun _ _ _ h => h) (by rfl) ?_ ?_ ?_; rotate_left; (intro w'; go_simp; with_reducible rfl); rotate_left; (simp only [Act.put, List.setIfInBounds_toArray, List.set_cons_zero, List.set_cons_succ, i64_w, i32_w]; rfl)
            refine pS (v := ?_) (a' := ?_) 7 (some 62) (lb 10 207) rfl rfl (by kernel_rfl) (fun _ _ _ h => h) (by rfl) ?_ ?_ ?_; rotate_left; (intro w'; go_simp; with_reducible rfl); rotate_left; (simp only [Act.put, List.setIfInBounds_toArray, List.set_cons_zero, List.set_cons_succ, i64_w, i32_w]; rfl)
            refine tS (v := ?_) (a' := ?_) 4 (some 59) (lb 10 223) rfl rfl (by kernel_rfl) (fun _ _ _ h => h) hHeld (by rfl) ?_ ?_ ?_; rotate_left; (rintro w' s0; go_simp; with_reducible rfl); rotate_left; (simp only [Act.put, List.setIfInBounds_toArray, List.set_cons_zero, List.set_cons_succ, i64_w, i32_w]; rfl)
            refine pS (v := ?_) (a' := ?_) 5 (some 60) (lb 10 255) rfl rfl (by kernel_rfl) (fun _ _ _ h => h) (by rfl) ?_ ?_ ?_; rotate_left; (intro w'; go_simp; with_reducible rfl); rotate_left; (simp only [Act.put, List.setIfInBounds_toArray, List.set_cons_zero, List.set_cons_succ, i64_w, i32_w]; rfl)
            refine pS (v := ?_) (a' := ?_) 8 (some 63) (lb 10 511) rfl rfl (by kernel_rfl) (fun _ _ _ h => h) (by rfl) ?_ ?_ ?_; rotate_left; (intro w'; go_simp; with_reducible rfl); rotate_left; (simp only [Act.put, List.setIfInBounds_toArray, List.set_cons_zero, List.set_cons_succ, i64_w, i32_w]; rfl)
            refine last_ (i := 9) (N := none) (lb 10 1023) rfl rfl (by kernel_rfl) (by decide) (fun K hK => ?_)
            refine skip_cell (w := w) 3 (.tmp 63) (.tmp 60) (by rfl) rfl rfl (g := w.heap.size + 1) (1 + n * 7 + 2) ?_ (.int .i64 (wrap64 (xv2 + 1))) ?_ rfl (by kernel_rfl) rfl (blk_drew O_913.out) (by rw [TV_size]; (try simp only [bump_len]); have := HLA.out; have := QN.out; omega) L_O.out (below_drew B914.out) ?_
            · rfl
            · rfl
            intro wz14 h1 h2 h3
            have X_915 := Aside0.mk ((h3 _ NE_X_O.out).trans (blk_drew X_911.out))
            have E_916 := Aside0.mk ((h3 _ (Ne.symm NE_O_E.out)).trans (blk_drew E_912.out))
            have O_917 := Aside0.mk (show wz14.heap[w.heap.size + 1]? = some (.cells (TV (bump (bump (acc) (1 + n * 7)) (1 + n * 7 + 2))) 56 (0, 0)) from by rw [h1, TV_set, qv2A.out])
            have B918 := Aside0.mk h2
            clear h1 h2 h3 yv2A qv2A X_911 E_912 O_913 B914
            refine hK.out _ _ ?_
            clear hK K
            refine done_ (by kernel_rfl) ?_
            have e1 := (blk_cell E_916.out 1).trans (show (#[.int .i64 i0, .bool false, .int .i64 (n : Int), .int .u64 o1, .int .u64 o2, .int .i64 o3, .int .i64 ia, .bool false, .bool true, .int .i64 er, .bool dn, .int .u64 va] : Array Value)[1]? = some _ from rfl)
            have e2 := (blk_cell E_916.out 2).trans (show (#[.int .i64 i0, .bool false, .int .i64 (n : Int), .int .u64 o1, .int .u64 o2, .int .i64 o3, .int .i64 ia, .bool false, .bool true, .int .i64 er, .bool dn, .int .u64 va] : Array Value)[2]? = some _ from rfl)
            have e7 := (blk_cell E_916.out 7).trans (show (#[.int .i64 i0, .bool false, .int .i64 (n : Int), .int .u64 o1, .int .u64 o2, .int .i64 o3, .int .i64 ia, .bool false, .bool true, .int .i64 er, .bool dn, .int .u64 va] : Array Value)[7]? = some _ from rfl)
            have e8 := (blk_cell E_916.out 8).trans (show (#[.int .i64 i0, .bool false, .int .i64 (n : Int), .int .u64 o1, .int .u64 o2, .int .i64 o3, .int .i64 ia, .bool false, .bool true, .int .i64 er, .bool dn, .int .u64 va] : Array Value)[8]? = some _ from rfl)
            have e9 := (blk_cell E_916.out 9).trans (show (#[.int .i64 i0, .bool false, .int .i64 (n : Int), .int .u64 o1, .int .u64 o2, .int .i64 o3, .int .i64 ia, .bool false, .bool true, .int .i64 er, .bool dn, .int .u64 va] : Array Value)[9]? = some _ from rfl)
            have e10 := (blk_cell E_916.out 10).trans (show (#[.int .i64 i0, .bool false, .int .i64 (n : Int), .int .u64 o1, .int .u64 o2, .int .i64 o3, .int .i64 ia, .bool false, .bool true, .int .i64 er, .bool dn, .int .u64 va] : Array Value)[10]? = some _ from rfl)
            go_wp2_with fail
            go_roundg ko
            case rel => exact ⟨k + 1, by first | rfl | rw [wi], ⟨by have := HK.out; omega⟩, ⟨B918.out⟩, ⟨X_915.out⟩, ⟨by rw [HST.out, HE.out]; exact O_917.out⟩⟩
            case measure => exact Nat.lt_succ_self _
    · have d1 : decide ((k : Int) < (us.length : Int)) = false := decide_eq_false (by omega)
      have p2 := eq_false hi
      obtain rfl : k = us.length := by have := HK.out; omega
      have O_901 := Aside0.mk (show wr.heap[w.heap.size + 1]? = some (.cells (TV (ofV (us.map toE))) 56 (0, 0)) from by have := O_900.out; rw [List.take_length] at this; exact this)
      have HLN := ofV_len (us.map toE)
      clear hi HK O_900
      go_wp2_with (first
        | ((with_reducible refine wpLd 56 (.tmp 3) ?_); refine wpList_load_row_g (by rfl) 56 (.tmp 3) rfl (w.heap.size + 1) rfl 56 (TV (ofV (us.map toE))) (0, 0) _ O_901.out Tryd.underlying56 rfl (info56 _ (by first | assumption | (simp; done))) ?_)
        | ((with_reducible refine wpSt 56 (.tmp 2) (.tmp 143) ?_); refine store_whole (w := w) (B := w.heap.size) rfl rfl 56 (.tmp 2) (.tmp 143) rfl (g := w.heap.size) (cs := TV (ofV (us.map toE))) rfl _ rfl rfl (tot56 _ (by first | assumption | (simp [zero64]; done))) (TV_one _) X_900.out (by first | (simp [TV_size, zero64]; done) | (simp [TV_size, zero64]; omega) | (rw [TV_size, TV_size]; simp [zero64]; omega)) L_X.out B900.out ?_; intro w_902 h1 h2 h3 h4; have X_903 := Aside0.mk (h1); have O_904 := Aside0.mk ((h3 _ (Ne.symm NE_X_O.out)).trans O_901.out); have B905 := Aside0.mk (h2); clear h1 h2 h3 h4 X_900 O_901 B900))
      exact bodyPost_ret (results_cell_row (P := Tryd.prog) rfl _ _ (w.heap.size) 56 (TV (ofV (us.map toE))) (0, 0) _ rfl X_903.out Tryd.underlying56 rfl (info56 _ HLN)) rfl ⟨rfl, B905.out⟩
end Go.Proofs.YtcncndhoeiaoeaaDoor.PTallyExact

