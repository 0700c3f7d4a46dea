/-
Steps.
-/
import Derived.Test.YtcncndhoeiaoeaaDoorTalC
namespace Go.Proofs.YtcncndhoeiaoeaaDoor.PTallyExact
open Go Go.RowKit Go.Proofs.YtcncndhoeiaoeaaDoorW.PrintWords Go.Proofs.YtcncndhoeiaoeaaDoorW.PrintLast Go.Proofs.YtcncndhoeiaoeaaDoorW.PrintMore
attribute [local go_sem] max2_int min2_int max_two min_two max_three min_three max_four min_four
set_option linter.unusedVariables false
set_option linter.unusedSimpArgs false
def stepsN (l : List Int) : Nat → Int
  | 0 => 0
  | k + 1 => wrap64 (stepsN l k + l.getD (1 + k * 7) 0)
theorem seven_ext {l : List Int} {o : Nat} (h : o + 7 ≤ l.length) : (l.drop o).take 7 = seven l o := by
  have h1 := seven_take h
  rw [List.take_add] at h1
  exact List.append_cancel_left h1
theorem TV_ext (m : List Int) (a b : Nat) : (TV m).extract a b = TV ((m.drop a).take (b - a)) := by
  simp [TV, List.map_take, List.map_drop]
theorem index_T (m : List Int) (k : Nat) (hk : k < 9) (w : World) : (Instr.index 49 (.agg (TV m)) (.int .i64 (k : Int))).run Tryd.prog w = .ok (.agg (TV ((m.drop (k * 7)).take 7))) w := by
  have h1 := eq_true (show (0 : Int) ≤ (k : Int) by omega)
  have h2 := eq_true (show (k : Int) < 9 by omega)
  have h3 := eq_true hk
  have hp : ∀ w, (part 48 (TV m) (k * 7)).run Tryd.prog w = .ok (.agg (TV ((m.drop (k * 7)).take 7))) w := fun w => by
    simp [part, isAgg, run_underlying Tryd.underlying48, TV_ext]
  unfold Instr.index
  simp [asIntOf, run_underlying Tryd.underlying49, hp, h1, h2, h3, Result.andThen]
theorem drop_range {W : World} {g e : Nat} {l : List Int} (hh : W.heap[g]? = some (.cells (TV l) e (0, 0))) : W.rangeAt g 1 ((l.drop 1).map (fun x => Value.int .i64 x)) := by
  intro j v hv
  rw [List.getElem?_map, List.getElem?_drop] at hv
  obtain ⟨x, hx, rfl⟩ := Option.map_eq_some_iff.1 hv
  obtain ⟨hlt, e1⟩ := List.getElem?_eq_some_iff.1 hx
  rw [blk_cell hh, TV_get l (1 + j) hlt, List.getD_eq_getElem?_getD, hx]
  rfl
set_option maxHeartbeats 16000000 in
set_option maxRecDepth 100000 in
theorem steps_T (l : List Int) (w : World) (hl : l.length = 64) : Calls Tryd.prog 35 #[.agg (TV l)] w fun e w' => e = .returned (.int .i64 (stepsN l 9)) ∧ Below w.heap.size w w' := by
  have hu51 := Tryd.underlying51
  have hu49 := Tryd.underlying49
  have hu48 := Tryd.underlying48
  have HL := Aside0.mk hl
  have L_T := Aside0.mk (show w.heap.size ≤ w.heap.size from Nat.le_refl _)
  have T_1 := Aside0.mk (blk_new (w) (.cells (TV l) 51))
  have B2 := Aside0.mk (below_alloc (Below.refl w.heap.size w) (.cells (TV l) 51))
  obtain ⟨m, hm⟩ : ∃ m, l.drop 1 = m := ⟨_, rfl⟩
  have HRG := Aside0.mk (show (w.alloc (.cells (TV l) 51)).rangeAt w.heap.size 1 (TV m).toList from by have := drop_range T_1.out; rw [hm] at this; exact this)
  have hml : m.length = 63 := by rw [← hm, List.length_drop, hl]
  have h63 : (Tryd.prog.info? 49).map (·.size) = some (TV m).toList.length := by rw [Array.length_toList, TV_size, hml]; kernel_rfl
  have HM7 := Aside0.mk (show ∀ k, k < 9 → (m.drop (k * 7)).take 7 = seven l (1 + k * 7) from fun k hk => by rw [← hm, List.drop_drop, seven_ext (by omega)])
  clear hl hm
  go_enter Tryd.func35, Tryd.ntmps35
  go_wp2_with (first
    | ((with_reducible refine wpLd 49 (.tmp 6) ?_); refine wpList_load_mid rfl 49 (.tmp 6) rfl (w.heap.size) 1 rfl (TV m).toList _ HRG.out Tryd.underlying49 rfl h63 ?_))
  go_loopg [3, 8] 9 (fun kq v3 v8 w' => ∃ (k : Nat), v3 = .int .i64 (stepsN l k) ∧ v8 = .int .i64 (k : Int) ∧ Aside0 (k + kq = 9) ∧ Aside0 (Below w.heap.size w w'))
  case atStart => exact ⟨0, rfl, rfl, ⟨rfl⟩, ⟨B2.out⟩⟩
  case round =>
    obtain ⟨k, rfl, rfl, HK, HB⟩ := hrel
    by_cases hi : k < 9
    · have d1 : decide ((k : Int) < 9) = true := decide_eq_true (by omega)
      have p0 := eq_true (show (0 : Int) ≤ (k : Int) by omega)
      have p1 := eq_true (show (k : Int) < 9 by omega)
      have p2 := eq_true hi
      have q1 := Aside0.mk hi
      have wi : wrap64 ((k : Int) + 1) = ((k + 1 : Nat) : Int) := by unfold wrap64; omega
      obtain ⟨ko, rfl⟩ : ∃ m, gk = m + 1 := ⟨gk - 1, by have := HK.out; omega⟩
      obtain ⟨x0, x1, x2, x3, x4, x5, x6, hsv⟩ := seven_x l (1 + k * 7)
      have hx0 : l.getD (1 + k * 7) 0 = x0 := by have := congrArg (fun q => q.getD 0 0) hsv; simpa [seven] using this
      have hix := index_T m k hi wr
      rw [HM7.out k hi, hsv] at hix
      have HSN := Aside0.mk (show stepsN l (k + 1) = wrap64 (stepsN l k + x0) by rw [stepsN, hx0])
      generalize stepsN l k = sn at *
      clear hsv hx0 hi
      have B900 := HB
      clear HB
      have L_C := Aside0.mk (show w.heap.size ≤ wr.heap.size from B900.out.size)
      have C_901 := Aside0.mk (blk_new (wr) (.cells #[.int .i64 0, .int .i64 0, .int .i64 0, .int .i64 0, .int .i64 0, .int .i64 0, .int .i64 0] 48))
      have B902 := Aside0.mk (below_alloc B900.out (.cells #[.int .i64 0, .int .i64 0, .int .i64 0, .int .i64 0, .int .i64 0, .int .i64 0, .int .i64 0] 48))
      clear B900
      go_wp2_with (first
        | ((with_reducible refine wpSt 48 (.tmp 5) (.tmp 10) ?_); refine store_whole (w := w) (B := w.heap.size) rfl rfl 48 (.tmp 5) (.tmp 10) rfl (g := wr.heap.size) (cs := TV ([x0, x1, x2, x3, x4, x5, x6])) rfl _ rfl rfl (by kernel_rfl) (TV_one _) C_901.out (rfl) L_C.out B902.out ?_; intro w_903 h1 h2 h3 h4; have C_904 := Aside0.mk (h1); have B905 := Aside0.mk (h2); clear h1 h2 h3 h4 C_901 B902; have c0 : w_903.cell? ⟨wr.heap.size, 0, none⟩ = some (.int .i64 x0) := (blk_cell C_904.out 0).trans rfl))
      go_roundg ko
      case rel => exact ⟨k + 1, by rw [HSN.out], by first | rfl | rw [wi], ⟨by have := HK.out; omega⟩, ⟨B905.out⟩⟩
      case measure => exact Nat.lt_succ_self _
    · have d1 : decide ((k : Int) < 9) = false := decide_eq_false (by omega)
      have p2 := eq_false (show ¬ k < 9 from hi)
      obtain rfl : k = 9 := by have := HK.out; omega
      go_wp2_with fail
      go_ret
      exact ⟨rfl, HB.out⟩
end Go.Proofs.YtcncndhoeiaoeaaDoor.PTallyExact

