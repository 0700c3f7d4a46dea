/-
The law TallyNumbers.
-/
import Derived.Test.YtcncndhoeiaoeaaDoorTalS
namespace Go.Proofs.YtcncndhoeiaoeaaDoor.PTallyExact
open Go Go.RowKit Go.Proofs.YtcncndhoeiaoeaaDoorW.PrintWords Go.Proofs.YtcncndhoeiaoeaaDoorW.PrintLast Go.Proofs.YtcncndhoeiaoeaaDoorW.PrintMore
attribute [local go_sem] max2_int min2_int max_two min_two max_three min_three max_four min_four
set_option linter.unusedVariables false
set_option linter.unusedSimpArgs false
theorem exec_ne56s {o : Oper} {a : Act} {w : World} (p q : Operand) (ho : o.op = .binOp .neq 56 p q 56) (l : List Int) (hp : a.eval p = .agg (TV l)) (hq : a.eval q = .agg (TV l)) (hl : l.length = 64) : (execOp a.eval o).run Tryd.prog w = .ok (.value (.bool false)) w :=
  exec_ne56 p q ho l l hp hq hl hl true (decide_eq_true rfl)
theorem at_cell {W : World} {B c m : Nat} {p : Addr} {ok : Nat → Prop} {xs : List ByteArray} (h : Kd.R Kd.string 9 W B ok (.slice (some p) m c) xs) (hm : m = xs.length) (i : Nat) (h1 : i < m) (x : ByteArray) (hx : xs.getD i ⟨#[]⟩ = x) : W.cell? (p.add i) = some (.string x) := by
  rw [← hx]; exact at_s' h hm i h1
theorem exec_ne51s {o : Oper} {a : Act} {w : World} (p q : Operand) (ho : o.op = .binOp .neq 51 p q 51) (l : List Int) (hp : a.eval p = .agg (TV l)) (hq : a.eval q = .agg (TV l)) (hl : l.length = 64) : (execOp a.eval o).run Tryd.prog w = .ok (.value (.bool false)) w :=
  exec_ne51 p q ho l l hp hq hl hl true (decide_eq_true rfl)
theorem two_step {P : Program} {ops : Array Oper} {o : Oper} {a : Act} {Q : Exit → Act → World → Prop} {Kc : Act → World → Prop} {W : World} (hw : Region.wanted o (yielded ops a.tmps) = true) {cs : Array Value} {t : TypeId}
    (hrun : (execOp a.eval o).run P W = .ok (.value (.slice (some ⟨W.heap.size, 0, none⟩) 2 2)) (W.alloc (.cells cs t (0, 0))))
    (h : ∀ g, g = W.heap.size → ∀ w1, w1.heap[g]? = some (.cells cs t (0, 0)) → Below W.heap.size W w1 → Kc (a.put o.dst (.slice (some ⟨g, 0, none⟩) 2 2)) w1) : if Region.wanted o (yielded ops a.tmps) = true then Oper.wp P o a W Kc Q else Kc (a.put o.dst undef) W :=
  event_step hw hrun (h _ rfl _ (blk_new W _) (below_alloc (Below.refl _ _) _))
/-- The first numbers of a row, noughts behind them. -/
def preN (l : List Int) (m : Nat) : List Int := l.take m ++ List.replicate (64 - m) 0
theorem preN_len {l : List Int} (hl : l.length = 64) (m : Nat) (hm : m ≤ 64) : (preN l m).length = 64 := by simp [preN, hl]; omega
theorem preN_1 {l : List Int} (hl : l.length = 64) : preN l 1 = l.getD 0 0 :: List.replicate 63 0 := by
  cases l with
  | nil => cases hl
  | cons x r => simp [preN]
theorem preN_64 {l : List Int} (hl : l.length = 64) : preN l 64 = l := by unfold preN; rw [List.take_of_length_le (by omega)]; simp
theorem preN_step {l : List Int} (hl : l.length = 64) (m : Nat) (hm : m < 64) : (preN l m).set m (l.getD m 0) = preN l (m + 1) := by
  have h1 : (l.take m).length = m := by rw [List.length_take]; omega
  have hx : l.getD m 0 = l[m]'(by omega) := by rw [List.getD_eq_getElem?_getD, List.getElem?_eq_getElem (by omega)]; rfl
  unfold preN
  rw [List.set_append_right _ _ (by omega), h1, Nat.sub_self, show 64 - m = (64 - (m + 1)) + 1 by omega, List.replicate_succ, List.set_cons_zero, List.take_succ_eq_append_getElem (by omega), List.append_assoc, hx]
  rfl
theorem preN_get {l : List Int} (hl : l.length = 64) (m : Nat) (hm : m < 64) : (preN l (m + 1)).getD m 0 = l.getD m 0 := by
  have h1 : (l.take (m + 1)).length = m + 1 := by rw [List.length_take]; omega
  unfold preN
  rw [List.getD_eq_getElem?_getD, List.getElem?_append_left (by omega), List.getElem?_take, if_pos (by omega), List.getD_eq_getElem?_getD]
def allP (l : List Int) (m : Nat) : Bool := (l.take m).all (fun x => decide (0 ≤ x))
theorem allP_1 {l : List Int} (hl : l.length = 64) : allP l 1 = decide (0 ≤ l.getD 0 0) := by
  cases l with
  | nil => cases hl
  | cons x r => simp [allP]
theorem allP_step {l : List Int} (hl : l.length = 64) (m : Nat) (hm : m < 64) : allP l (m + 1) = (allP l m && decide (0 ≤ l.getD m 0)) := by
  have hx : l.getD m 0 = l[m]'(by omega) := by rw [List.getD_eq_getElem?_getD, List.getElem?_eq_getElem (by omega)]; rfl
  unfold allP
  rw [List.take_succ_eq_append_getElem (by omega), List.all_append, hx]
  simp
theorem less_all {a b : List Int} (ha : a.length = 64) (hb : b.length = 64) : lessV a b = if allP (subL a b) 64 = true then (subL a b, true) else (zero64, false) := by
  unfold lessV allP
  rw [List.take_of_length_le (by rw [subL_len ha hb]; exact Nat.le_refl _)]
theorem add_at {a b : List Int} (ha : a.length = 64) (hb : b.length = 64) (i : Nat) (hi : i < 64) : (addL a b).getD i 0 = wrap64 (a.getD i 0 + b.getD i 0) := by
  simp [addL, List.getD_eq_getElem?_getD, ha, hb, hi]
theorem sum_two {a b : List Int} (ha : a.length = 64) (hia : Ints a) : sumV [a, b] = addL a b := by
  show addL (addL zero64 a) b = addL a b
  congr 1
  apply List.ext_getElem
  · simp [addL, zero64, ha]
  · intro i h1 h2
    have := hia _ (List.getElem_mem h2)
    simp only [addL, zero64, List.getElem_zipWith, List.getElem_replicate]
    unfold wrap64; omega
theorem sum2_T (a b : List Int) (g c : Nat) (w : World) (hla : a.length = 64) (hlb : b.length = 64) (hq : w.heap[g]? = some (.cells (TV (a ++ b)) 51 (0, 0))) : Calls Tryd.prog 37 #[.slice (some ⟨g, 0, none⟩) 2 c] w fun e w' => e = .returned (.agg (TV (sumV [a, b]))) ∧ Below w.heap.size w w' :=
  sum_T [a, b] (some ⟨g, 0, none⟩) c w (by intro x hx; simp only [List.mem_cons, List.not_mem_nil, or_false] at hx; rcases hx with rfl | rfl <;> assumption) (by simp) (.inr ⟨_, _, rfl, by rw [show [a, b].flatten = a ++ b by simp]; exact hq⟩)
theorem sum0_T (w : World) : Calls Tryd.prog 37 #[.slice none 0 0] w fun e w' => e = .returned (.agg (TV zero64)) ∧ Below w.heap.size w w' := sum_T [] none 0 w (by simp) (by simp) (.inl rfl)
theorem k1 (k i : Nat) : 1 + k * 7 + (i + 1) = 1 + k * 7 + i + 1 := rfl
theorem k2 (k : Nat) : 1 + k * 7 + 7 = 1 + (k + 1) * 7 := by omega
theorem TVz (z : Int) : (TV (z :: List.replicate 63 0)) = TV (z :: List.replicate 63 0) := rfl
set_option maxHeartbeats 64000000 in
set_option maxRecDepth 100000 in
theorem tallyNumbers_T (a b : List Int) (w : World) (hla : a.length = 64) (hlb : b.length = 64) (hia : Ints a) (hT : TabW w) :
    Calls Tryd.prog 8 #[.agg (TV a), .agg (TV b)] w fun e w' => e = .returned (.bool true) ∧ Below w.heap.size w w' := by
  have hu51 := Tryd.underlying51
  have hu56 := Tryd.underlying56
  have hu54 := Tryd.underlying54
  have hu53 := Tryd.underlying53
  have hu62 := Tryd.underlying62
  have hu90 := Tryd.underlying90
  have hz64 : zero64.length = 64 := rfl
  have HIA := Aside0.mk hia
  have HT := Aside0.mk hT
  clear hia hT
  have hsum := sum_two (b := b) hla HIA.out
  have hless := less_all hla hlb
  obtain ⟨s, hs⟩ : ∃ s, addL a b = s := ⟨_, rfl⟩
  obtain ⟨d, hd⟩ : ∃ d, subL a b = d := ⟨_, rfl⟩
  have hls := addL_len hla hlb
  have hld := subL_len hla hlb
  have HSA := Aside0.mk (fun i (hi : i < 64) => add_at hla hlb i hi)
  have HDA := Aside0.mk (fun i (hi : i < 64) => sub_at hla hlb i hi)
  rw [hs] at hsum hls HSA
  rw [hd] at hless hld HDA
  have HLS := Aside0.mk hless
  have HSUM := Aside0.mk hsum
  clear hs hd hsum hless
  have L_A := Aside0.mk (show w.heap.size ≤ w.heap.size from Nat.le_refl _)
  have L_B := Aside0.mk (show w.heap.size ≤ w.heap.size + 1 from by have := L_A.out; omega)
  have NE_A_B := Aside0.mk (show w.heap.size ≠ w.heap.size + 1 by omega)
  have A_1 := Aside0.mk (blk_alloc (blk_new (w) (.cells (TV a) 51)) (.cells (TV b) 51))
  have B_2 := Aside0.mk (blk_new2 (w) (.cells (TV a) 51) (.cells (TV b) 51))
  have B3 := Aside0.mk (below_alloc (below_alloc (Below.refl w.heap.size w) (.cells (TV a) 51)) (.cells (TV b) 51))
  go_enter Tryd.func8, Tryd.ntmps8
  go_wp2_with fail
  refine (awake_T _ (HT.out.below B3.out)).mono ?_
  rintro e_ w1 ⟨rfl, hb⟩
  have A_4 := Aside0.mk (blk_below A_1.out hb)
  have B_5 := Aside0.mk (blk_below B_2.out hb)
  have B6 := Aside0.mk (below_step B3.out hb)
  clear hb A_1 B_2 B3
  go_wp2_with (first
    | ((with_reducible refine wpLd 51 (.tmp 2) ?_); refine wpList_load_row_g (by rfl) 51 (.tmp 2) rfl (w.heap.size) rfl 51 (TV a) (0, 0) _ A_4.out Tryd.underlying51 rfl (info51 _ (by first | assumption | (simp; done))) ?_))
  refine (form_T a _ hla).mono ?_
  rintro e_ w2 ⟨rfl, hb⟩
  have A_7 := Aside0.mk (blk_below A_4.out hb)
  have B_8 := Aside0.mk (blk_below B_5.out hb)
  have B9 := Aside0.mk (below_step B6.out hb)
  clear hb A_4 B_5 B6
  have L_U := Aside0.mk (show w.heap.size ≤ w2.heap.size from B9.out.size)
  have NE_A_U := Aside0.mk (show w.heap.size ≠ w2.heap.size by have := blk_lt A_7.out; omega)
  have NE_B_U := Aside0.mk (show w.heap.size + 1 ≠ w2.heap.size by have := blk_lt B_8.out; omega)
  have A_10 := Aside0.mk (blk_alloc A_7.out (.cells #[.int .i64 0, .int .i64 0, .int .i64 0, .int .i64 0, .int .i64 0, .int .i64 0, .int .i64 0, .int .i64 0, .int .i64 0, .int .i64 0, .int .i64 0, .int .i64 0, .int .i64 0, .int .i64 0, .int .i64 0, .int .i64 0, .int .i64 0, .int .i64 0, .int .i64 0, .int .i64 0, .int .i64 0, .int .i64 0, .int .i64 0, .int .i64 0, .int .i64 0, .int .i64 0, .int .i64 0, .int .i64 0, .int .i64 0, .int .i64 0, .int .i64 0, .int .i64 0, .int .i64 0, .int .i64 0, .int .i64 0, .int .i64 0, .int .i64 0, .int .i64 0, .int .i64 0, .int .i64 0, .int .i64 0, .int .i64 0, .int .i64 0, .int .i64 0, .int .i64 0, .int .i64 0, .int .i64 0, .int .i64 0, .int .i64 0, .int .i64 0, .int .i64 0, .int .i64 0, .int .i64 0, .int .i64 0, .int .i64 0, .int .i64 0, .int .i64 0, .int .i64 0, .int .i64 0, .int .i64 0, .int .i64 0, .int .i64 0, .int .i64 0, .int .i64 0] 56))
  have B_11 := Aside0.mk (blk_alloc B_8.out (.cells #[.int .i64 0, .int .i64 0, .int .i64 0, .int .i64 0, .int .i64 0, .int .i64 0, .int .i64 0, .int .i64 0, .int .i64 0, .int .i64 0, .int .i64 0, .int .i64 0, .int .i64 0, .int .i64 0, .int .i64 0, .int .i64 0, .int .i64 0, .int .i64 0, .int .i64 0, .int .i64 0, .int .i64 0, .int .i64 0, .int .i64 0, .int .i64 0, .int .i64 0, .int .i64 0, .int .i64 0, .int .i64 0, .int .i64 0, .int .i64 0, .int .i64 0, .int .i64 0, .int .i64 0, .int .i64 0, .int .i64 0, .int .i64 0, .int .i64 0, .int .i64 0, .int .i64 0, .int .i64 0, .int .i64 0, .int .i64 0, .int .i64 0, .int .i64 0, .int .i64 0, .int .i64 0, .int .i64 0, .int .i64 0, .int .i64 0, .int .i64 0, .int .i64 0, .int .i64 0, .int .i64 0, .int .i64 0, .int .i64 0, .int .i64 0, .int .i64 0, .int .i64 0, .int .i64 0, .int .i64 0, .int .i64 0, .int .i64 0, .int .i64 0, .int .i64 0] 56))
  have U_12 := Aside0.mk (blk_new (w2) (.cells #[.int .i64 0, .int .i64 0, .int .i64 0, .int .i64 0, .int .i64 0, .int .i64 0, .int .i64 0, .int .i64 0, .int .i64 0, .int .i64 0, .int .i64 0, .int .i64 0, .int .i64 0, .int .i64 0, .int .i64 0, .int .i64 0, .int .i64 0, .int .i64 0, .int .i64 0, .int .i64 0, .int .i64 0, .int .i64 0, .int .i64 0, .int .i64 0, .int .i64 0, .int .i64 0, .int .i64 0, .int .i64 0, .int .i64 0, .int .i64 0, .int .i64 0, .int .i64 0, .int .i64 0, .int .i64 0, .int .i64 0, .int .i64 0, .int .i64 0, .int .i64 0, .int .i64 0, .int .i64 0, .int .i64 0, .int .i64 0, .int .i64 0, .int .i64 0, .int .i64 0, .int .i64 0, .int .i64 0, .int .i64 0, .int .i64 0, .int .i64 0, .int .i64 0, .int .i64 0, .int .i64 0, .int .i64 0, .int .i64 0, .int .i64 0, .int .i64 0, .int .i64 0, .int .i64 0, .int .i64 0, .int .i64 0, .int .i64 0, .int .i64 0, .int .i64 0] 56))
  have B13 := Aside0.mk (below_alloc B9.out (.cells #[.int .i64 0, .int .i64 0, .int .i64 0, .int .i64 0, .int .i64 0, .int .i64 0, .int .i64 0, .int .i64 0, .int .i64 0, .int .i64 0, .int .i64 0, .int .i64 0, .int .i64 0, .int .i64 0, .int .i64 0, .int .i64 0, .int .i64 0, .int .i64 0, .int .i64 0, .int .i64 0, .int .i64 0, .int .i64 0, .int .i64 0, .int .i64 0, .int .i64 0, .int .i64 0, .int .i64 0, .int .i64 0, .int .i64 0, .int .i64 0, .int .i64 0, .int .i64 0, .int .i64 0, .int .i64 0, .int .i64 0, .int .i64 0, .int .i64 0, .int .i64 0, .int .i64 0, .int .i64 0, .int .i64 0, .int .i64 0, .int .i64 0, .int .i64 0, .int .i64 0, .int .i64 0, .int .i64 0, .int .i64 0, .int .i64 0, .int .i64 0, .int .i64 0, .int .i64 0, .int .i64 0, .int .i64 0, .int .i64 0, .int .i64 0, .int .i64 0, .int .i64 0, .int .i64 0, .int .i64 0, .int .i64 0, .int .i64 0, .int .i64 0, .int .i64 0] 56))
  clear A_7 B_8 B9
  go_wp2_with (first
    | ((with_reducible refine wpSt 56 (.tmp 5) (.tmp 20) ?_); refine store_whole (w := w) (B := w.heap.size) rfl rfl 56 (.tmp 5) (.tmp 20) rfl (g := w2.heap.size) (cs := TV a) rfl _ rfl rfl (tot56 _ (by first | assumption | (simp [zero64]; done))) (TV_one _) U_12.out (by first | (simp [TV_size, zero64]; done) | (simp [TV_size, zero64]; omega) | (rw [TV_size, TV_size]; simp [zero64]; omega)) L_U.out B13.out ?_; intro w_14 h1 h2 h3 h4; have A_15 := Aside0.mk ((h3 _ NE_A_U.out).trans A_10.out); have B_16 := Aside0.mk ((h3 _ NE_B_U.out).trans B_11.out); have U_17 := Aside0.mk (h1); have B18 := Aside0.mk (h2); clear h1 h2 h3 h4 A_10 B_11 U_12 B13)
    | ((with_reducible refine wpLd 51 (.tmp 3) ?_); refine wpList_load_row_g (by rfl) 51 (.tmp 3) rfl (w.heap.size + 1) rfl 51 (TV b) (0, 0) _ B_16.out Tryd.underlying51 rfl (info51 _ (by first | assumption | (simp; done))) ?_))
  refine (form_T b _ hlb).mono ?_
  rintro e_ w3 ⟨rfl, hb⟩
  have A_19 := Aside0.mk (blk_below A_15.out hb)
  have B_20 := Aside0.mk (blk_below B_16.out hb)
  have U_21 := Aside0.mk (blk_below U_17.out hb)
  have B22 := Aside0.mk (below_step B18.out hb)
  clear hb A_15 B_16 U_17 B18
  have L_V := Aside0.mk (show w.heap.size ≤ w3.heap.size from B22.out.size)
  have NE_A_V := Aside0.mk (show w.heap.size ≠ w3.heap.size by have := blk_lt A_19.out; omega)
  have NE_B_V := Aside0.mk (show w.heap.size + 1 ≠ w3.heap.size by have := blk_lt B_20.out; omega)
  have NE_U_V := Aside0.mk (show w2.heap.size ≠ w3.heap.size by have := blk_lt U_21.out; omega)
  have A_23 := Aside0.mk (blk_alloc A_19.out (.cells #[.int .i64 0, .int .i64 0, .int .i64 0, .int .i64 0, .int .i64 0, .int .i64 0, .int .i64 0, .int .i64 0, .int .i64 0, .int .i64 0, .int .i64 0, .int .i64 0, .int .i64 0, .int .i64 0, .int .i64 0, .int .i64 0, .int .i64 0, .int .i64 0, .int .i64 0, .int .i64 0, .int .i64 0, .int .i64 0, .int .i64 0, .int .i64 0, .int .i64 0, .int .i64 0, .int .i64 0, .int .i64 0, .int .i64 0, .int .i64 0, .int .i64 0, .int .i64 0, .int .i64 0, .int .i64 0, .int .i64 0, .int .i64 0, .int .i64 0, .int .i64 0, .int .i64 0, .int .i64 0, .int .i64 0, .int .i64 0, .int .i64 0, .int .i64 0, .int .i64 0, .int .i64 0, .int .i64 0, .int .i64 0, .int .i64 0, .int .i64 0, .int .i64 0, .int .i64 0, .int .i64 0, .int .i64 0, .int .i64 0, .int .i64 0, .int .i64 0, .int .i64 0, .int .i64 0, .int .i64 0, .int .i64 0, .int .i64 0, .int .i64 0, .int .i64 0] 56))
  have B_24 := Aside0.mk (blk_alloc B_20.out (.cells #[.int .i64 0, .int .i64 0, .int .i64 0, .int .i64 0, .int .i64 0, .int .i64 0, .int .i64 0, .int .i64 0, .int .i64 0, .int .i64 0, .int .i64 0, .int .i64 0, .int .i64 0, .int .i64 0, .int .i64 0, .int .i64 0, .int .i64 0, .int .i64 0, .int .i64 0, .int .i64 0, .int .i64 0, .int .i64 0, .int .i64 0, .int .i64 0, .int .i64 0, .int .i64 0, .int .i64 0, .int .i64 0, .int .i64 0, .int .i64 0, .int .i64 0, .int .i64 0, .int .i64 0, .int .i64 0, .int .i64 0, .int .i64 0, .int .i64 0, .int .i64 0, .int .i64 0, .int .i64 0, .int .i64 0, .int .i64 0, .int .i64 0, .int .i64 0, .int .i64 0, .int .i64 0, .int .i64 0, .int .i64 0, .int .i64 0, .int .i64 0, .int .i64 0, .int .i64 0, .int .i64 0, .int .i64 0, .int .i64 0, .int .i64 0, .int .i64 0, .int .i64 0, .int .i64 0, .int .i64 0, .int .i64 0, .int .i64 0, .int .i64 0, .int .i64 0] 56))
  have U_25 := Aside0.mk (blk_alloc U_21.out (.cells #[.int .i64 0, .int .i64 0, .int .i64 0, .int .i64 0, .int .i64 0, .int .i64 0, .int .i64 0, .int .i64 0, .int .i64 0, .int .i64 0, .int .i64 0, .int .i64 0, .int .i64 0, .int .i64 0, .int .i64 0, .int .i64 0, .int .i64 0, .int .i64 0, .int .i64 0, .int .i64 0, .int .i64 0, .int .i64 0, .int .i64 0, .int .i64 0, .int .i64 0, .int .i64 0, .int .i64 0, .int .i64 0, .int .i64 0, .int .i64 0, .int .i64 0, .int .i64 0, .int .i64 0, .int .i64 0, .int .i64 0, .int .i64 0, .int .i64 0, .int .i64 0, .int .i64 0, .int .i64 0, .int .i64 0, .int .i64 0, .int .i64 0, .int .i64 0, .int .i64 0, .int .i64 0, .int .i64 0, .int .i64 0, .int .i64 0, .int .i64 0, .int .i64 0, .int .i64 0, .int .i64 0, .int .i64 0, .int .i64 0, .int .i64 0, .int .i64 0, .int .i64 0, .int .i64 0, .int .i64 0, .int .i64 0, .int .i64 0, .int .i64 0, .int .i64 0] 56))
  have V_26 := Aside0.mk (blk_new (w3) (.cells #[.int .i64 0, .int .i64 0, .int .i64 0, .int .i64 0, .int .i64 0, .int .i64 0, .int .i64 0, .int .i64 0, .int .i64 0, .int .i64 0, .int .i64 0, .int .i64 0, .int .i64 0, .int .i64 0, .int .i64 0, .int .i64 0, .int .i64 0, .int .i64 0, .int .i64 0, .int .i64 0, .int .i64 0, .int .i64 0, .int .i64 0, .int .i64 0, .int .i64 0, .int .i64 0, .int .i64 0, .int .i64 0, .int .i64 0, .int .i64 0, .int .i64 0, .int .i64 0, .int .i64 0, .int .i64 0, .int .i64 0, .int .i64 0, .int .i64 0, .int .i64 0, .int .i64 0, .int .i64 0, .int .i64 0, .int .i64 0, .int .i64 0, .int .i64 0, .int .i64 0, .int .i64 0, .int .i64 0, .int .i64 0, .int .i64 0, .int .i64 0, .int .i64 0, .int .i64 0, .int .i64 0, .int .i64 0, .int .i64 0, .int .i64 0, .int .i64 0, .int .i64 0, .int .i64 0, .int .i64 0, .int .i64 0, .int .i64 0, .int .i64 0, .int .i64 0] 56))
  have B27 := Aside0.mk (below_alloc B22.out (.cells #[.int .i64 0, .int .i64 0, .int .i64 0, .int .i64 0, .int .i64 0, .int .i64 0, .int .i64 0, .int .i64 0, .int .i64 0, .int .i64 0, .int .i64 0, .int .i64 0, .int .i64 0, .int .i64 0, .int .i64 0, .int .i64 0, .int .i64 0, .int .i64 0, .int .i64 0, .int .i64 0, .int .i64 0, .int .i64 0, .int .i64 0, .int .i64 0, .int .i64 0, .int .i64 0, .int .i64 0, .int .i64 0, .int .i64 0, .int .i64 0, .int .i64 0, .int .i64 0, .int .i64 0, .int .i64 0, .int .i64 0, .int .i64 0, .int .i64 0, .int .i64 0, .int .i64 0, .int .i64 0, .int .i64 0, .int .i64 0, .int .i64 0, .int .i64 0, .int .i64 0, .int .i64 0, .int .i64 0, .int .i64 0, .int .i64 0, .int .i64 0, .int .i64 0, .int .i64 0, .int .i64 0, .int .i64 0, .int .i64 0, .int .i64 0, .int .i64 0, .int .i64 0, .int .i64 0, .int .i64 0, .int .i64 0, .int .i64 0, .int .i64 0, .int .i64 0] 56))
  clear A_19 B_20 U_21 B22
  have ga := TV_get a 0 (by omega)
  have gb := TV_get b 0 (by omega)
  have HS1 := preN_1 hls
  have HD1 := preN_1 hld
  have HA1 := allP_1 hld
  rw [HSA.out 0 (by omega)] at HS1
  rw [HDA.out 0 (by omega)] at HD1 HA1
  generalize a.getD 0 0 = x at *
  generalize b.getD 0 0 = y at *
  have tge : ∀ z : Int, (z ≥ 0) = (0 ≤ z) := fun z => rfl
  go_wp2_with (first
    | ((with_reducible refine wpSt 56 (.tmp 6) (.tmp 22) ?_); refine store_whole (w := w) (B := w.heap.size) rfl rfl 56 (.tmp 6) (.tmp 22) rfl (g := w3.heap.size) (cs := TV b) rfl _ rfl rfl (tot56 _ (by first | assumption | (simp [zero64]; done))) (TV_one _) V_26.out (by first | (simp [TV_size, zero64]; done) | (simp [TV_size, zero64]; omega) | (rw [TV_size, TV_size]; simp [zero64]; omega)) L_V.out B27.out ?_; intro w_28 h1 h2 h3 h4; have A_29 := Aside0.mk ((h3 _ NE_A_V.out).trans A_23.out); have B_30 := Aside0.mk ((h3 _ NE_B_V.out).trans B_24.out); have U_31 := Aside0.mk ((h3 _ NE_U_V.out).trans U_25.out); have V_32 := Aside0.mk (h1); have B33 := Aside0.mk (h2); clear h1 h2 h3 h4 A_23 B_24 U_25 V_26 B27; have cu : w_28.cell? ⟨w2.heap.size, 0, none⟩ = some (.int .i64 x) := (blk_cell U_31.out 0).trans ga; have cv : w_28.cell? ⟨w3.heap.size, 0, none⟩ = some (.int .i64 y) := (blk_cell V_32.out 0).trans gb; have L_S := Aside0.mk (show w.heap.size ≤ w_28.heap.size from B33.out.size); have NE_A_S := Aside0.mk (show w.heap.size ≠ w_28.heap.size by have := blk_lt A_29.out; omega); have NE_B_S := Aside0.mk (show w.heap.size + 1 ≠ w_28.heap.size by have := blk_lt B_30.out; omega); have NE_U_S := Aside0.mk (show w2.heap.size ≠ w_28.heap.size by have := blk_lt U_31.out; omega); have NE_V_S := Aside0.mk (show w3.heap.size ≠ w_28.heap.size by have := blk_lt V_32.out; omega); have A_34 := Aside0.mk (blk_alloc A_29.out (.cells #[.int .i64 0, .int .i64 0, .int .i64 0, .int .i64 0, .int .i64 0, .int .i64 0, .int .i64 0, .int .i64 0, .int .i64 0, .int .i64 0, .int .i64 0, .int .i64 0, .int .i64 0, .int .i64 0, .int .i64 0, .int .i64 0, .int .i64 0, .int .i64 0, .int .i64 0, .int .i64 0, .int .i64 0, .int .i64 0, .int .i64 0, .int .i64 0, .int .i64 0, .int .i64 0, .int .i64 0, .int .i64 0, .int .i64 0, .int .i64 0, .int .i64 0, .int .i64 0, .int .i64 0, .int .i64 0, .int .i64 0, .int .i64 0, .int .i64 0, .int .i64 0, .int .i64 0, .int .i64 0, .int .i64 0, .int .i64 0, .int .i64 0, .int .i64 0, .int .i64 0, .int .i64 0, .int .i64 0, .int .i64 0, .int .i64 0, .int .i64 0, .int .i64 0, .int .i64 0, .int .i64 0, .int .i64 0, .int .i64 0, .int .i64 0, .int .i64 0, .int .i64 0, .int .i64 0, .int .i64 0, .int .i64 0, .int .i64 0, .int .i64 0, .int .i64 0] 56)); have B_35 := Aside0.mk (blk_alloc B_30.out (.cells #[.int .i64 0, .int .i64 0, .int .i64 0, .int .i64 0, .int .i64 0, .int .i64 0, .int .i64 0, .int .i64 0, .int .i64 0, .int .i64 0, .int .i64 0, .int .i64 0, .int .i64 0, .int .i64 0, .int .i64 0, .int .i64 0, .int .i64 0, .int .i64 0, .int .i64 0, .int .i64 0, .int .i64 0, .int .i64 0, .int .i64 0, .int .i64 0, .int .i64 0, .int .i64 0, .int .i64 0, .int .i64 0, .int .i64 0, .int .i64 0, .int .i64 0, .int .i64 0, .int .i64 0, .int .i64 0, .int .i64 0, .int .i64 0, .int .i64 0, .int .i64 0, .int .i64 0, .int .i64 0, .int .i64 0, .int .i64 0, .int .i64 0, .int .i64 0, .int .i64 0, .int .i64 0, .int .i64 0, .int .i64 0, .int .i64 0, .int .i64 0, .int .i64 0, .int .i64 0, .int .i64 0, .int .i64 0, .int .i64 0, .int .i64 0, .int .i64 0, .int .i64 0, .int .i64 0, .int .i64 0, .int .i64 0, .int .i64 0, .int .i64 0, .int .i64 0] 56)); have U_36 := Aside0.mk (blk_alloc U_31.out (.cells #[.int .i64 0, .int .i64 0, .int .i64 0, .int .i64 0, .int .i64 0, .int .i64 0, .int .i64 0, .int .i64 0, .int .i64 0, .int .i64 0, .int .i64 0, .int .i64 0, .int .i64 0, .int .i64 0, .int .i64 0, .int .i64 0, .int .i64 0, .int .i64 0, .int .i64 0, .int .i64 0, .int .i64 0, .int .i64 0, .int .i64 0, .int .i64 0, .int .i64 0, .int .i64 0, .int .i64 0, .int .i64 0, .int .i64 0, .int .i64 0, .int .i64 0, .int .i64 0, .int .i64 0, .int .i64 0, .int .i64 0, .int .i64 0, .int .i64 0, .int .i64 0, .int .i64 0, .int .i64 0, .int .i64 0, .int .i64 0, .int .i64 0, .int .i64 0, .int .i64 0, .int .i64 0, .int .i64 0, .int .i64 0, .int .i64 0, .int .i64 0, .int .i64 0, .int .i64 0, .int .i64 0, .int .i64 0, .int .i64 0, .int .i64 0, .int .i64 0, .int .i64 0, .int .i64 0, .int .i64 0, .int .i64 0, .int .i64 0, .int .i64 0, .int .i64 0] 56)); have V_37 := Aside0.mk (blk_alloc V_32.out (.cells #[.int .i64 0, .int .i64 0, .int .i64 0, .int .i64 0, .int .i64 0, .int .i64 0, .int .i64 0, .int .i64 0, .int .i64 0, .int .i64 0, .int .i64 0, .int .i64 0, .int .i64 0, .int .i64 0, .int .i64 0, .int .i64 0, .int .i64 0, .int .i64 0, .int .i64 0, .int .i64 0, .int .i64 0, .int .i64 0, .int .i64 0, .int .i64 0, .int .i64 0, .int .i64 0, .int .i64 0, .int .i64 0, .int .i64 0, .int .i64 0, .int .i64 0, .int .i64 0, .int .i64 0, .int .i64 0, .int .i64 0, .int .i64 0, .int .i64 0, .int .i64 0, .int .i64 0, .int .i64 0, .int .i64 0, .int .i64 0, .int .i64 0, .int .i64 0, .int .i64 0, .int .i64 0, .int .i64 0, .int .i64 0, .int .i64 0, .int .i64 0, .int .i64 0, .int .i64 0, .int .i64 0, .int .i64 0, .int .i64 0, .int .i64 0, .int .i64 0, .int .i64 0, .int .i64 0, .int .i64 0, .int .i64 0, .int .i64 0, .int .i64 0, .int .i64 0] 56)); have S_38 := Aside0.mk (blk_new (w_28) (.cells #[.int .i64 0, .int .i64 0, .int .i64 0, .int .i64 0, .int .i64 0, .int .i64 0, .int .i64 0, .int .i64 0, .int .i64 0, .int .i64 0, .int .i64 0, .int .i64 0, .int .i64 0, .int .i64 0, .int .i64 0, .int .i64 0, .int .i64 0, .int .i64 0, .int .i64 0, .int .i64 0, .int .i64 0, .int .i64 0, .int .i64 0, .int .i64 0, .int .i64 0, .int .i64 0, .int .i64 0, .int .i64 0, .int .i64 0, .int .i64 0, .int .i64 0, .int .i64 0, .int .i64 0, .int .i64 0, .int .i64 0, .int .i64 0, .int .i64 0, .int .i64 0, .int .i64 0, .int .i64 0, .int .i64 0, .int .i64 0, .int .i64 0, .int .i64 0, .int .i64 0, .int .i64 0, .int .i64 0, .int .i64 0, .int .i64 0, .int .i64 0, .int .i64 0, .int .i64 0, .int .i64 0, .int .i64 0, .int .i64 0, .int .i64 0, .int .i64 0, .int .i64 0, .int .i64 0, .int .i64 0, .int .i64 0, .int .i64 0, .int .i64 0, .int .i64 0] 56)); have B39 := Aside0.mk (below_alloc B33.out (.cells #[.int .i64 0, .int .i64 0, .int .i64 0, .int .i64 0, .int .i64 0, .int .i64 0, .int .i64 0, .int .i64 0, .int .i64 0, .int .i64 0, .int .i64 0, .int .i64 0, .int .i64 0, .int .i64 0, .int .i64 0, .int .i64 0, .int .i64 0, .int .i64 0, .int .i64 0, .int .i64 0, .int .i64 0, .int .i64 0, .int .i64 0, .int .i64 0, .int .i64 0, .int .i64 0, .int .i64 0, .int .i64 0, .int .i64 0, .int .i64 0, .int .i64 0, .int .i64 0, .int .i64 0, .int .i64 0, .int .i64 0, .int .i64 0, .int .i64 0, .int .i64 0, .int .i64 0, .int .i64 0, .int .i64 0, .int .i64 0, .int .i64 0, .int .i64 0, .int .i64 0, .int .i64 0, .int .i64 0, .int .i64 0, .int .i64 0, .int .i64 0, .int .i64 0, .int .i64 0, .int .i64 0, .int .i64 0, .int .i64 0, .int .i64 0, .int .i64 0, .int .i64 0, .int .i64 0, .int .i64 0, .int .i64 0, .int .i64 0, .int .i64 0, .int .i64 0] 56)); clear A_29 B_30 U_31 V_32 B33)
    | ((with_reducible refine wpSt 56 (.tmp 7) (.tmp 28) ?_); refine store_whole (w := w) (B := w.heap.size) rfl rfl 56 (.tmp 7) (.tmp 28) rfl (g := w_28.heap.size) (cs := TV (wrap64 (x + y) :: List.replicate 63 0)) rfl _ rfl rfl (tot56 _ (by first | assumption | (simp [zero64]; done))) (TV_one _) S_38.out (by first | (simp [TV_size, zero64]; done) | (simp [TV_size, zero64]; omega) | (rw [TV_size, TV_size]; simp [zero64]; omega)) L_S.out B39.out ?_; intro w_40 h1 h2 h3 h4; have A_41 := Aside0.mk ((h3 _ NE_A_S.out).trans A_34.out); have B_42 := Aside0.mk ((h3 _ NE_B_S.out).trans B_35.out); have U_43 := Aside0.mk ((h3 _ NE_U_S.out).trans U_36.out); have V_44 := Aside0.mk ((h3 _ NE_V_S.out).trans V_37.out); have S_45 := Aside0.mk (h1); have B46 := Aside0.mk (h2); clear h1 h2 h3 h4 A_34 B_35 U_36 V_37 S_38 B39; clear cu cv; have cu : w_40.cell? ⟨w2.heap.size, 0, none⟩ = some (.int .i64 x) := (blk_cell U_43.out 0).trans ga; have cv : w_40.cell? ⟨w3.heap.size, 0, none⟩ = some (.int .i64 y) := (blk_cell V_44.out 0).trans gb; have L_D := Aside0.mk (show w.heap.size ≤ w_40.heap.size from B46.out.size); have NE_A_D := Aside0.mk (show w.heap.size ≠ w_40.heap.size by have := blk_lt A_41.out; omega); have NE_B_D := Aside0.mk (show w.heap.size + 1 ≠ w_40.heap.size by have := blk_lt B_42.out; omega); have NE_U_D := Aside0.mk (show w2.heap.size ≠ w_40.heap.size by have := blk_lt U_43.out; omega); have NE_V_D := Aside0.mk (show w3.heap.size ≠ w_40.heap.size by have := blk_lt V_44.out; omega); have NE_S_D := Aside0.mk (show w_28.heap.size ≠ w_40.heap.size by have := blk_lt S_45.out; omega); have A_47 := Aside0.mk (blk_alloc A_41.out (.cells #[.int .i64 0, .int .i64 0, .int .i64 0, .int .i64 0, .int .i64 0, .int .i64 0, .int .i64 0, .int .i64 0, .int .i64 0, .int .i64 0, .int .i64 0, .int .i64 0, .int .i64 0, .int .i64 0, .int .i64 0, .int .i64 0, .int .i64 0, .int .i64 0, .int .i64 0, .int .i64 0, .int .i64 0, .int .i64 0, .int .i64 0, .int .i64 0, .int .i64 0, .int .i64 0, .int .i64 0, .int .i64 0, .int .i64 0, .int .i64 0, .int .i64 0, .int .i64 0, .int .i64 0, .int .i64 0, .int .i64 0, .int .i64 0, .int .i64 0, .int .i64 0, .int .i64 0, .int .i64 0, .int .i64 0, .int .i64 0, .int .i64 0, .int .i64 0, .int .i64 0, .int .i64 0, .int .i64 0, .int .i64 0, .int .i64 0, .int .i64 0, .int .i64 0, .int .i64 0, .int .i64 0, .int .i64 0, .int .i64 0, .int .i64 0, .int .i64 0, .int .i64 0, .int .i64 0, .int .i64 0, .int .i64 0, .int .i64 0, .int .i64 0, .int .i64 0] 56)); have B_48 := Aside0.mk (blk_alloc B_42.out (.cells #[.int .i64 0, .int .i64 0, .int .i64 0, .int .i64 0, .int .i64 0, .int .i64 0, .int .i64 0, .int .i64 0, .int .i64 0, .int .i64 0, .int .i64 0, .int .i64 0, .int .i64 0, .int .i64 0, .int .i64 0, .int .i64 0, .int .i64 0, .int .i64 0, .int .i64 0, .int .i64 0, .int .i64 0, .int .i64 0, .int .i64 0, .int .i64 0, .int .i64 0, .int .i64 0, .int .i64 0, .int .i64 0, .int .i64 0, .int .i64 0, .int .i64 0, .int .i64 0, .int .i64 0, .int .i64 0, .int .i64 0, .int .i64 0, .int .i64 0, .int .i64 0, .int .i64 0, .int .i64 0, .int .i64 0, .int .i64 0, .int .i64 0, .int .i64 0, .int .i64 0, .int .i64 0, .int .i64 0, .int .i64 0, .int .i64 0, .int .i64 0, .int .i64 0, .int .i64 0, .int .i64 0, .int .i64 0, .int .i64 0, .int .i64 0, .int .i64 0, .int .i64 0, .int .i64 0, .int .i64 0, .int .i64 0, .int .i64 0, .int .i64 0, .int .i64 0] 56)); have U_49 := Aside0.mk (blk_alloc U_43.out (.cells #[.int .i64 0, .int .i64 0, .int .i64 0, .int .i64 0, .int .i64 0, .int .i64 0, .int .i64 0, .int .i64 0, .int .i64 0, .int .i64 0, .int .i64 0, .int .i64 0, .int .i64 0, .int .i64 0, .int .i64 0, .int .i64 0, .int .i64 0, .int .i64 0, .int .i64 0, .int .i64 0, .int .i64 0, .int .i64 0, .int .i64 0, .int .i64 0, .int .i64 0, .int .i64 0, .int .i64 0, .int .i64 0, .int .i64 0, .int .i64 0, .int .i64 0, .int .i64 0, .int .i64 0, .int .i64 0, .int .i64 0, .int .i64 0, .int .i64 0, .int .i64 0, .int .i64 0, .int .i64 0, .int .i64 0, .int .i64 0, .int .i64 0, .int .i64 0, .int .i64 0, .int .i64 0, .int .i64 0, .int .i64 0, .int .i64 0, .int .i64 0, .int .i64 0, .int .i64 0, .int .i64 0, .int .i64 0, .int .i64 0, .int .i64 0, .int .i64 0, .int .i64 0, .int .i64 0, .int .i64 0, .int .i64 0, .int .i64 0, .int .i64 0, .int .i64 0] 56)); have V_50 := Aside0.mk (blk_alloc V_44.out (.cells #[.int .i64 0, .int .i64 0, .int .i64 0, .int .i64 0, .int .i64 0, .int .i64 0, .int .i64 0, .int .i64 0, .int .i64 0, .int .i64 0, .int .i64 0, .int .i64 0, .int .i64 0, .int .i64 0, .int .i64 0, .int .i64 0, .int .i64 0, .int .i64 0, .int .i64 0, .int .i64 0, .int .i64 0, .int .i64 0, .int .i64 0, .int .i64 0, .int .i64 0, .int .i64 0, .int .i64 0, .int .i64 0, .int .i64 0, .int .i64 0, .int .i64 0, .int .i64 0, .int .i64 0, .int .i64 0, .int .i64 0, .int .i64 0, .int .i64 0, .int .i64 0, .int .i64 0, .int .i64 0, .int .i64 0, .int .i64 0, .int .i64 0, .int .i64 0, .int .i64 0, .int .i64 0, .int .i64 0, .int .i64 0, .int .i64 0, .int .i64 0, .int .i64 0, .int .i64 0, .int .i64 0, .int .i64 0, .int .i64 0, .int .i64 0, .int .i64 0, .int .i64 0, .int .i64 0, .int .i64 0, .int .i64 0, .int .i64 0, .int .i64 0, .int .i64 0] 56)); have S_51 := Aside0.mk (blk_alloc S_45.out (.cells #[.int .i64 0, .int .i64 0, .int .i64 0, .int .i64 0, .int .i64 0, .int .i64 0, .int .i64 0, .int .i64 0, .int .i64 0, .int .i64 0, .int .i64 0, .int .i64 0, .int .i64 0, .int .i64 0, .int .i64 0, .int .i64 0, .int .i64 0, .int .i64 0, .int .i64 0, .int .i64 0, .int .i64 0, .int .i64 0, .int .i64 0, .int .i64 0, .int .i64 0, .int .i64 0, .int .i64 0, .int .i64 0, .int .i64 0, .int .i64 0, .int .i64 0, .int .i64 0, .int .i64 0, .int .i64 0, .int .i64 0, .int .i64 0, .int .i64 0, .int .i64 0, .int .i64 0, .int .i64 0, .int .i64 0, .int .i64 0, .int .i64 0, .int .i64 0, .int .i64 0, .int .i64 0, .int .i64 0, .int .i64 0, .int .i64 0, .int .i64 0, .int .i64 0, .int .i64 0, .int .i64 0, .int .i64 0, .int .i64 0, .int .i64 0, .int .i64 0, .int .i64 0, .int .i64 0, .int .i64 0, .int .i64 0, .int .i64 0, .int .i64 0, .int .i64 0] 56)); have D_52 := Aside0.mk (blk_new (w_40) (.cells #[.int .i64 0, .int .i64 0, .int .i64 0, .int .i64 0, .int .i64 0, .int .i64 0, .int .i64 0, .int .i64 0, .int .i64 0, .int .i64 0, .int .i64 0, .int .i64 0, .int .i64 0, .int .i64 0, .int .i64 0, .int .i64 0, .int .i64 0, .int .i64 0, .int .i64 0, .int .i64 0, .int .i64 0, .int .i64 0, .int .i64 0, .int .i64 0, .int .i64 0, .int .i64 0, .int .i64 0, .int .i64 0, .int .i64 0, .int .i64 0, .int .i64 0, .int .i64 0, .int .i64 0, .int .i64 0, .int .i64 0, .int .i64 0, .int .i64 0, .int .i64 0, .int .i64 0, .int .i64 0, .int .i64 0, .int .i64 0, .int .i64 0, .int .i64 0, .int .i64 0, .int .i64 0, .int .i64 0, .int .i64 0, .int .i64 0, .int .i64 0, .int .i64 0, .int .i64 0, .int .i64 0, .int .i64 0, .int .i64 0, .int .i64 0, .int .i64 0, .int .i64 0, .int .i64 0, .int .i64 0, .int .i64 0, .int .i64 0, .int .i64 0, .int .i64 0] 56)); have B53 := Aside0.mk (below_alloc B46.out (.cells #[.int .i64 0, .int .i64 0, .int .i64 0, .int .i64 0, .int .i64 0, .int .i64 0, .int .i64 0, .int .i64 0, .int .i64 0, .int .i64 0, .int .i64 0, .int .i64 0, .int .i64 0, .int .i64 0, .int .i64 0, .int .i64 0, .int .i64 0, .int .i64 0, .int .i64 0, .int .i64 0, .int .i64 0, .int .i64 0, .int .i64 0, .int .i64 0, .int .i64 0, .int .i64 0, .int .i64 0, .int .i64 0, .int .i64 0, .int .i64 0, .int .i64 0, .int .i64 0, .int .i64 0, .int .i64 0, .int .i64 0, .int .i64 0, .int .i64 0, .int .i64 0, .int .i64 0, .int .i64 0, .int .i64 0, .int .i64 0, .int .i64 0, .int .i64 0, .int .i64 0, .int .i64 0, .int .i64 0, .int .i64 0, .int .i64 0, .int .i64 0, .int .i64 0, .int .i64 0, .int .i64 0, .int .i64 0, .int .i64 0, .int .i64 0, .int .i64 0, .int .i64 0, .int .i64 0, .int .i64 0, .int .i64 0, .int .i64 0, .int .i64 0, .int .i64 0] 56)); clear A_41 B_42 U_43 V_44 S_45 B46)
    | ((with_reducible refine wpSt 56 (.tmp 8) (.tmp 34) ?_); refine store_whole (w := w) (B := w.heap.size) rfl rfl 56 (.tmp 8) (.tmp 34) rfl (g := w_40.heap.size) (cs := TV (wrap64 (x - y) :: List.replicate 63 0)) rfl _ rfl rfl (tot56 _ (by first | assumption | (simp [zero64]; done))) (TV_one _) D_52.out (by first | (simp [TV_size, zero64]; done) | (simp [TV_size, zero64]; omega) | (rw [TV_size, TV_size]; simp [zero64]; omega)) L_D.out B53.out ?_; intro w_54 h1 h2 h3 h4; have A_55 := Aside0.mk ((h3 _ NE_A_D.out).trans A_47.out); have B_56 := Aside0.mk ((h3 _ NE_B_D.out).trans B_48.out); have U_57 := Aside0.mk ((h3 _ NE_U_D.out).trans U_49.out); have V_58 := Aside0.mk ((h3 _ NE_V_D.out).trans V_50.out); have S_59 := Aside0.mk ((h3 _ NE_S_D.out).trans S_51.out); have D_60 := Aside0.mk (h1); have B61 := Aside0.mk (h2); clear h1 h2 h3 h4 A_47 B_48 U_49 V_50 S_51 D_52 B53; clear cu cv; have cd : w_54.cell? ⟨w_40.heap.size, 0, none⟩ = some (.int .i64 (wrap64 (x - y))) := (blk_cell D_60.out 0).trans rfl))
  clear cd ga gb tge
  have S_900 := Aside0.mk (show w_54.heap[w_28.heap.size]? = some (.cells (TV (preN s (1 + 0 * 7))) 56 (0, 0)) from by rw [Nat.zero_mul, Nat.add_zero, HS1]; exact S_59.out)
  have D_900 := Aside0.mk (show w_54.heap[w_40.heap.size]? = some (.cells (TV (preN d (1 + 0 * 7))) 56 (0, 0)) from by rw [Nat.zero_mul, Nat.add_zero, HD1]; exact D_60.out)
  have HA2 := Aside0.mk (show allP d (1 + 0 * 7) = decide (0 ≤ wrap64 (x - y)) from HA1)
  clear HS1 HD1 HA1 S_59 D_60
  go_loopg [9, 10] 9 (fun kq v9 v10 w' => ∃ (k : Nat), v9 = .bool (allP d (1 + k * 7)) ∧ v10 = .int .i64 (k : Int) ∧ Aside0 (k + kq = 9) ∧ Aside0 (Below w.heap.size w w') ∧ Aside0 (w'.heap[w.heap.size]? = some (.cells (TV (a)) 51 (0, 0))) ∧ Aside0 (w'.heap[w.heap.size + 1]? = some (.cells (TV (b)) 51 (0, 0))) ∧ Aside0 (w'.heap[w2.heap.size]? = some (.cells (TV (a)) 56 (0, 0))) ∧ Aside0 (w'.heap[w3.heap.size]? = some (.cells (TV (b)) 56 (0, 0))) ∧ Aside0 (w'.heap[w_28.heap.size]? = some (.cells (TV (preN s (1 + k * 7))) 56 (0, 0))) ∧ Aside0 (w'.heap[w_40.heap.size]? = some (.cells (TV (preN d (1 + k * 7))) 56 (0, 0))))
  case atStart => exact ⟨0, by rw [HA2.out], rfl, ⟨rfl⟩, ⟨B61.out⟩, ⟨A_55.out⟩, ⟨B_56.out⟩, ⟨U_57.out⟩, ⟨V_58.out⟩, ⟨S_900.out⟩, ⟨D_900.out⟩⟩
  case round =>
    rename World => wo
    clear HA2 B61 A_55 B_56 U_57 V_58 S_900 D_900
    obtain ⟨k, rfl, rfl, HK, B1900, A_1900, B_1900, U_1900, V_1900, S_1900, D_1900⟩ := hrel
    by_cases hi : k < 9
    · skip
      have e0 : decide ((k : Int) < 9) = true := decide_eq_true (by omega)
      have q1 := Aside0.mk hi
      obtain ⟨ko, rfl⟩ : ∃ m, gk = m + 1 := ⟨gk - 1, by have := HK.out; omega⟩
      have p0 := eq_true (show (0 : Int) ≤ (k : Int) by omega)
      have p1 := eq_true (show (k : Int) < 9 by omega)
      have p2 := eq_true hi
      have wi : wrap64 ((k : Int) + 1) = ((k + 1 : Nat) : Int) := by have := q1.out; unfold wrap64; omega
      clear hi
      go_wp2_with fail
      go_loopg [9, 11] 7 (fun kq v9 v11 w' => ∃ (i : Nat), v9 = .bool (allP d (1 + k * 7 + i)) ∧ v11 = .int .i64 (i : Int) ∧ Aside0 (i + kq = 7) ∧ Aside0 (Below w.heap.size w w') ∧ Aside0 (w'.heap[w.heap.size]? = some (.cells (TV (a)) 51 (0, 0))) ∧ Aside0 (w'.heap[w.heap.size + 1]? = some (.cells (TV (b)) 51 (0, 0))) ∧ Aside0 (w'.heap[w2.heap.size]? = some (.cells (TV (a)) 56 (0, 0))) ∧ Aside0 (w'.heap[w3.heap.size]? = some (.cells (TV (b)) 56 (0, 0))) ∧ Aside0 (w'.heap[w_28.heap.size]? = some (.cells (TV (preN s (1 + k * 7 + i))) 56 (0, 0))) ∧ Aside0 (w'.heap[w_40.heap.size]? = some (.cells (TV (preN d (1 + k * 7 + i))) 56 (0, 0))))
      case atStart => exact ⟨0, rfl, rfl, ⟨rfl⟩, ⟨B1900.out⟩, ⟨A_1900.out⟩, ⟨B_1900.out⟩, ⟨U_1900.out⟩, ⟨V_1900.out⟩, ⟨S_1900.out⟩, ⟨D_1900.out⟩⟩
      case round =>
        clear B1900 A_1900 B_1900 U_1900 V_1900 S_1900 D_1900
        obtain ⟨i, rfl, rfl, HJ, B2900, A_2900, B_2900, U_2900, V_2900, S_2900, D_2900⟩ := hrel
        by_cases hj : i < 7
        · have f0 : decide ((i : Int) < 7) = true := decide_eq_true (by omega)
          have q2 := Aside0.mk hj
          obtain ⟨ki, rfl⟩ : ∃ m, gk = m + 1 := ⟨gk - 1, by have := HJ.out; omega⟩
          have r0 := eq_true (show (0 : Int) ≤ (i : Int) by omega)
          have r1 := eq_true (show (i : Int) < 7 by omega)
          have r2 := eq_true hj
          have wj : wrap64 ((i : Int) + 1) = ((i + 1 : Nat) : Int) := by have := q2.out; unfold wrap64; omega
          have hm : 1 + k * 7 + i < 64 := by have := q1.out; omega
          have HM := Aside0.mk hm
          have ga := TV_get a (1 + k * 7 + i) (by omega)
          have gb := TV_get b (1 + k * 7 + i) (by omega)
          have hs1 := preN_step hls _ hm
          have hd1 := preN_step hld _ hm
          have hp1 := allP_step hld _ hm
          rw [HSA.out _ hm] at hs1
          rw [HDA.out _ hm] at hd1 hp1
          generalize a.getD (1 + k * 7 + i) 0 = x at *
          generalize b.getD (1 + k * 7 + i) 0 = y at *
          have HS1 := Aside0.mk hs1
          have HD1 := Aside0.mk hd1
          have HP1 := Aside0.mk hp1
          have GA := Aside0.mk ga
          have GB := Aside0.mk gb
          clear hj hm ga gb hs1 hd1 hp1
          go_wp2_with fail
          refine start_ (n := 19) (S := fun w' => w'.cell? ⟨w2.heap.size, 1 + k * 7 + i, none⟩ = some (.int .i64 x) ∧ w'.cell? ⟨w3.heap.size, 1 + k * 7 + i, none⟩ = some (.int .i64 y)) (ds := [18]) #[false, false, false, false, false, false, false, false, false, false, false, false, false, false, false, false, false, false, false] (by kernel_rfl) rfl rfl ⟨(blk_cell (blk_drew U_2900.out) (1 + k * 7 + i)).trans GA.out, (blk_cell (blk_drew V_2900.out) (1 + k * 7 + i)).trans GB.out⟩ (fun hHeld => ?_)
          refine pure_ (i := 0) (N := some 46) (v := ?_) (a' := ?_) #[true, false, false, false, false, false, false, false, false, false, false, false, false, false, false, false, false, false, false] rfl rfl (by kernel_rfl) (fun _ _ _ h => h) (Or.inl ⟨by rfl, ?_⟩) ?_ ?_
          rotate_left
          · intro w'
            go_simp
            with_reducible rfl
          rotate_left
          · simp only [Act.put, List.setIfInBounds_toArray, List.set_cons_zero, List.set_cons_succ, i64_w, i32_w]
            rfl
          refine pure_ (i := 1) (N := some 47) (v := ?_) (a' := ?_) #[true, true, false, false, false, false, false, false, false, false, false, false, false, false, false, false, false, false, false] rfl rfl (by kernel_rfl) (fun _ _ _ h => h) (Or.inl ⟨by rfl, ?_⟩) ?_ ?_
          rotate_left
          · intro w'
            go_simp
            with_reducible rfl
          rotate_left
          · simp only [Act.put, List.setIfInBounds_toArray, List.set_cons_zero, List.set_cons_succ, i64_w, i32_w]
            rfl
          refine pure_ (i := 2) (N := some 48) (v := ?_) (a' := ?_) #[true, true, true, false, false, false, false, false, false, false, false, false, false, false, false, false, false, false, false] rfl rfl (by kernel_rfl) (fun _ _ _ h => h) (Or.inl ⟨by rfl, ?_⟩) ?_ ?_
          rotate_left
          · intro w'
            go_simp
            with_reducible rfl
          rotate_left
          · simp only [Act.put, List.setIfInBounds_toArray, List.set_cons_zero, List.set_cons_succ, i64_w, i32_w]
            rfl
          refine pure_ (i := 3) (N := some 49) (v := ?_) (a' := ?_) #[true, true, true, true, false, false, false, false, false, false, false, false, false, false, false, false, false, false, false] rfl rfl (by kernel_rfl) (fun _ _ _ h => h) (Or.inl ⟨by rfl, ?_⟩) ?_ ?_
          rotate_left
          · intro w'
            go_simp
            with_reducible rfl
          rotate_left
          · simp only [Act.put, List.setIfInBounds_toArray, List.set_cons_zero, List.set_cons_succ, i64_w, i32_w]
            rfl
          refine pure_ (i := 4) (N := some 50) (v := ?_) (a' := ?_) #[true, true, true, true, true, false, false, false, false, false, false, false, false, false, false, false, false, false, false] rfl rfl (by kernel_rfl) (fun _ _ _ h => h) (Or.inl ⟨by rfl, ?_⟩) ?_ ?_
          rotate_left
          · intro w'
            go_simp
            with_reducible rfl
          rotate_left
          · simp only [Act.put, List.setIfInBounds_toArray, List.set_cons_zero, List.set_cons_succ, i64_w, i32_w]
            rfl
          refine pure_ (i := 5) (N := some 51) (v := ?_) (a' := ?_) #[true, true, true, true, true, true, false, false, false, false, false, false, false, false, false, false, false, false, false] rfl rfl (by kernel_rfl) (fun _ _ _ h => h) (Or.inl ⟨by rfl, ?_⟩) ?_ ?_
          rotate_left
          · intro w'
            go_simp
            with_reducible rfl
          rotate_left
          · simp only [Act.put, List.setIfInBounds_toArray, List.set_cons_zero, List.set_cons_succ, i64_w, i32_w]
            rfl
          refine pure_ (i := 6) (N := some 52) (v := ?_) (a' := ?_) #[true, true, true, true, true, true, true, false, false, false, false, false, false, false, false, false, false, false, false] rfl rfl (by kernel_rfl) (fun _ _ _ h => h) (Or.inl ⟨by rfl, ?_⟩) ?_ ?_
          rotate_left
          · intro w'
            go_simp
            with_reducible rfl
          rotate_left
          · simp only [Act.put, List.setIfInBounds_toArray, List.set_cons_zero, List.set_cons_succ, i64_w, i32_w]
            rfl
          refine pure_ (i := 8) (N := some 54) (v := ?_) (a' := ?_) #[true, true, true, true, true, true, true, false, true, false, false, false, false, false, false, false, false, false, false] rfl rfl (by kernel_rfl) (fun _ _ _ h => h) (Or.inl ⟨by rfl, ?_⟩) ?_ ?_
          rotate_left
          · intro w'
            go_simp
            with_reducible rfl
          rotate_left
          · simp only [Act.put, List.setIfInBounds_toArray, List.set_cons_zero, List.set_cons_succ, i64_w, i32_w]
            rfl
          refine pure_ (i := 9) (N := some 55) (v := ?_) (a' := ?_) #[true, true, true, true, true, true, true, false, true, true, false, false, false, false, false, false, false, false, false] rfl rfl (by kernel_rfl) (fun _ _ _ h => h) (Or.inl ⟨by rfl, ?_⟩) ?_ ?_
          rotate_left
          · intro w'
            go_simp
            with_reducible rfl
          rotate_left
          · simp only [Act.put, List.setIfInBounds_toArray, List.set_cons_zero, List.set_cons_succ, i64_w, i32_w]
            rfl
          refine pure_ (i := 10) (N := some 56) (v := ?_) (a' := ?_) #[true, true, true, true, true, true, true, false, true, true, true, false, false, false, false, false, false, false, false] rfl rfl (by kernel_rfl) (fun _ _ _ h => h) (Or.inl ⟨by rfl, ?_⟩) ?_ ?_
          rotate_left
          · intro w'
            go_simp
            with_reducible rfl
          rotate_left
          · simp only [Act.put, List.setIfInBounds_toArray, List.set_cons_zero, List.set_cons_succ, i64_w, i32_w]
            rfl
          refine pure_ (i := 11) (N := some 57) (v := ?_) (a' := ?_) #[true, true, true, true, true, true, true, false, true, true, true, true, false, false, false, false, false, false, false] rfl rfl (by kernel_rfl) (fun _ _ _ h => h) (Or.inl ⟨by rfl, ?_⟩) ?_ ?_
          rotate_left
          · intro w'
            go_simp
            with_reducible rfl
          rotate_left
          · simp only [Act.put, List.setIfInBounds_toArray, List.set_cons_zero, List.set_cons_succ, i64_w, i32_w]
            rfl
          refine pure_ (i := 12) (N := some 58) (v := ?_) (a' := ?_) #[true, true, true, true, true, true, true, false, true, true, true, true, true, false, false, false, false, false, false] rfl rfl (by kernel_rfl) (fun _ _ _ h => h) (Or.inl ⟨by rfl, ?_⟩) ?_ ?_
          rotate_left
          · intro w'
            go_simp
            with_reducible rfl
          rotate_left
          · simp only [Act.put, List.setIfInBounds_toArray, List.set_cons_zero, List.set_cons_succ, i64_w, i32_w]
            rfl
          refine pure_ (i := 15) (N := some 61) (v := ?_) (a' := ?_) #[true, true, true, true, true, true, true, false, true, true, true, true, true, false, false, true, false, false, false] rfl rfl (by kernel_rfl) (fun _ _ _ h => h) (Or.inl ⟨by rfl, ?_⟩) ?_ ?_
          rotate_left
          · intro w'
            go_simp
            with_reducible rfl
          rotate_left
          · simp only [Act.put, List.setIfInBounds_toArray, List.set_cons_zero, List.set_cons_succ, i64_w, i32_w]
            rfl
          refine pure_ (i := 16) (N := some 62) (v := ?_) (a' := ?_) #[true, true, true, true, true, true, true, false, true, true, true, true, true, false, false, true, true, false, false] rfl rfl (by kernel_rfl) (fun _ _ _ h => h) (Or.inl ⟨by rfl, ?_⟩) ?_ ?_
          rotate_left
          · intro w'
            go_simp
            with_reducible rfl
          rotate_left
          · simp only [Act.put, List.setIfInBounds_toArray, List.set_cons_zero, List.set_cons_succ, i64_w, i32_w]
            rfl
          refine take_ (i := 7) (N := some 53) (v := ?_) (a' := ?_) #[true, true, true, true, true, true, true, true, true, true, true, true, true, false, false, true, true, false, false] rfl rfl (by kernel_rfl) (fun _ _ _ h => h) (Or.inl ⟨by rfl, ?_⟩) hHeld ?_ ?_
          rotate_left
          · rintro w' ⟨s0, s1⟩
            go_simp
            with_reducible rfl
          rotate_left
          · simp only [Act.put, List.setIfInBounds_toArray, List.set_cons_zero, List.set_cons_succ, i64_w, i32_w]
            rfl
          refine take_ (i := 13) (N := some 59) (v := ?_) (a' := ?_) #[true, true, true, true, true, true, true, true, true, true, true, true, true, true, false, true, true, false, false] rfl rfl (by kernel_rfl) (fun _ _ _ h => h) (Or.inl ⟨by rfl, ?_⟩) hHeld ?_ ?_
          rotate_left
          · rintro w' ⟨s0, s1⟩
            go_simp
            with_reducible rfl
          rotate_left
          · simp only [Act.put, List.setIfInBounds_toArray, List.set_cons_zero, List.set_cons_succ, i64_w, i32_w]
            rfl
          refine pure_ (i := 14) (N := some 60) (v := ?_) (a' := ?_) #[true, true, true, true, true, true, true, true, true, true, true, true, true, true, true, true, true, false, false] rfl rfl (by kernel_rfl) (fun _ _ _ h => h) (Or.inl ⟨by rfl, ?_⟩) ?_ ?_
          rotate_left
          · intro w'
            go_simp
            with_reducible rfl
          rotate_left
          · simp only [Act.put, List.setIfInBounds_toArray, List.set_cons_zero, List.set_cons_succ, i64_w, i32_w]
            rfl
          refine pure_ (i := 17) (N := some 63) (v := ?_) (a' := ?_) #[true, true, true, true, true, true, true, true, true, true, true, true, true, true, true, true, true, true, false] rfl rfl (by kernel_rfl) (fun _ _ _ h => h) (Or.inl ⟨by rfl, ?_⟩) ?_ ?_
          rotate_left
          · intro w'
            go_simp
            with_reducible rfl
          rotate_left
          · simp only [Act.put, List.setIfInBounds_toArray, List.set_cons_zero, List.set_cons_succ, i64_w, i32_w]
            rfl
          refine last_ (i := 18) (N := none) #[true, true, true, true, true, true, true, true, true, true, true, true, true, true, true, true, true, true, true] rfl rfl (by kernel_rfl) (by decide) (fun K hK => ?_)
          refine skip_cell (w := w) 3 (.tmp 63) (.tmp 60) (by rfl) rfl rfl (g := w_28.heap.size) (1 + k * 7 + i) ?_ (.int .i64 (wrap64 (x + y))) ?_ rfl (by kernel_rfl) rfl (blk_drew S_2900.out) (by rw [TV_size, preN_len hls _ (by have := HM.out; omega)]; exact HM.out) L_S.out (below_drew B2900.out) ?_
          · rfl
          · rfl
          intro wz h1 h2 h3
          have A_2901 := Aside0.mk ((h3 _ NE_A_S.out).trans (blk_drew A_2900.out))
          have B_2902 := Aside0.mk ((h3 _ NE_B_S.out).trans (blk_drew B_2900.out))
          have U_2903 := Aside0.mk ((h3 _ NE_U_S.out).trans (blk_drew U_2900.out))
          have V_2904 := Aside0.mk ((h3 _ NE_V_S.out).trans (blk_drew V_2900.out))
          have D_2905 := Aside0.mk ((h3 _ (Ne.symm NE_S_D.out)).trans (blk_drew D_2900.out))
          have S_2906 := Aside0.mk (show wz.heap[w_28.heap.size]? = some (.cells (TV (preN s (1 + k * 7 + i + 1))) 56 (0, 0)) from by rw [h1, TV_set, HS1.out])
          have B2907 := Aside0.mk h2
          clear h1 h2 h3 A_2900 B_2900 U_2900 V_2900 D_2900 S_2900 B2900
          refine hK.out _ _ ?_
          clear hK K
          refine done_ (by kernel_rfl) ?_
          go_wp2_with fail
          refine start_ (n := 19) (S := fun w' => w'.cell? ⟨w2.heap.size, 1 + k * 7 + i, none⟩ = some (.int .i64 x) ∧ w'.cell? ⟨w3.heap.size, 1 + k * 7 + i, none⟩ = some (.int .i64 y)) (ds := [18]) #[false, false, false, false, false, false, false, false, false, false, false, false, false, false, false, false, false, false, false] (by kernel_rfl) rfl rfl ⟨(blk_cell (blk_drew U_2903.out) (1 + k * 7 + i)).trans GA.out, (blk_cell (blk_drew V_2904.out) (1 + k * 7 + i)).trans GB.out⟩ (fun hHeld => ?_)
          refine pure_ (i := 0) (N := some 64) (v := ?_) (a' := ?_) #[true, false, false, false, false, false, false, false, false, false, false, false, false, false, false, false, false, false, false] rfl rfl (by kernel_rfl) (fun _ _ _ h => h) (Or.inl ⟨by rfl, ?_⟩) ?_ ?_
          rotate_left
          · intro w'
            go_simp
            with_reducible rfl
          rotate_left
          · simp only [Act.put, List.setIfInBounds_toArray, List.set_cons_zero, List.set_cons_succ, i64_w, i32_w]
            rfl
          refine pure_ (i := 1) (N := some 65) (v := ?_) (a' := ?_) #[true, true, false, false, false, false, false, false, false, false, false, false, false, false, false, false, false, false, false] rfl rfl (by kernel_rfl) (fun _ _ _ h => h) (Or.inl ⟨by rfl, ?_⟩) ?_ ?_
          rotate_left
          · intro w'
            go_simp
            with_reducible rfl
          rotate_left
          · simp only [Act.put, List.setIfInBounds_toArray, List.set_cons_zero, List.set_cons_succ, i64_w, i32_w]
            rfl
          refine pure_ (i := 2) (N := some 66) (v := ?_) (a' := ?_) #[true, true, true, false, false, false, false, false, false, false, false, false, false, false, false, false, false, false, false] rfl rfl (by kernel_rfl) (fun _ _ _ h => h) (Or.inl ⟨by rfl, ?_⟩) ?_ ?_
          rotate_left
          · intro w'
            go_simp
            with_reducible rfl
          rotate_left
          · simp only [Act.put, List.setIfInBounds_toArray, List.set_cons_zero, List.set_cons_succ, i64_w, i32_w]
            rfl
          refine pure_ (i := 3) (N := some 67) (v := ?_) (a' := ?_) #[true, true, true, true, false, false, false, false, false, false, false, false, false, false, false, false, false, false, false] rfl rfl (by kernel_rfl) (fun _ _ _ h => h) (Or.inl ⟨by rfl, ?_⟩) ?_ ?_
          rotate_left
          · intro w'
            go_simp
            with_reducible rfl
          rotate_left
          · simp only [Act.put, List.setIfInBounds_toArray, List.set_cons_zero, List.set_cons_succ, i64_w, i32_w]
            rfl
          refine pure_ (i := 4) (N := some 68) (v := ?_) (a' := ?_) #[true, true, true, true, true, false, false, false, false, false, false, false, false, false, false, false, false, false, false] rfl rfl (by kernel_rfl) (fun _ _ _ h => h) (Or.inl ⟨by rfl, ?_⟩) ?_ ?_
          rotate_left
          · intro w'
            go_simp
            with_reducible rfl
          rotate_left
          · simp only [Act.put, List.setIfInBounds_toArray, List.set_cons_zero, List.set_cons_succ, i64_w, i32_w]
            rfl
          refine pure_ (i := 5) (N := some 69) (v := ?_) (a' := ?_) #[true, true, true, true, true, true, false, false, false, false, false, false, false, false, false, false, false, false, false] rfl rfl (by kernel_rfl) (fun _ _ _ h => h) (Or.inl ⟨by rfl, ?_⟩) ?_ ?_
          rotate_left
          · intro w'
            go_simp
            with_reducible rfl
          rotate_left
          · simp only [Act.put, List.setIfInBounds_toArray, List.set_cons_zero, List.set_cons_succ, i64_w, i32_w]
            rfl
          refine pure_ (i := 6) (N := some 70) (v := ?_) (a' := ?_) #[true, true, true, true, true, true, true, false, false, false, false, false, false, false, false, false, false, false, false] rfl rfl (by kernel_rfl) (fun _ _ _ h => h) (Or.inl ⟨by rfl, ?_⟩) ?_ ?_
          rotate_left
          · intro w'
            go_simp
            with_reducible rfl
          rotate_left
          · simp only [Act.put, List.setIfInBounds_toArray, List.set_cons_zero, List.set_cons_succ, i64_w, i32_w]
            rfl
          refine pure_ (i := 8) (N := some 72) (v := ?_) (a' := ?_) #[true, true, true, true, true, true, true, false, true, false, false, false, false, false, false, false, false, false, false] rfl rfl (by kernel_rfl) (fun _ _ _ h => h) (Or.inl ⟨by rfl, ?_⟩) ?_ ?_
          rotate_left
          · intro w'
            go_simp
            with_reducible rfl
          rotate_left
          · simp only [Act.put, List.setIfInBounds_toArray, List.set_cons_zero, List.set_cons_succ, i64_w, i32_w]
            rfl
          refine pure_ (i := 9) (N := some 73) (v := ?_) (a' := ?_) #[true, true, true, true, true, true, true, false, true, true, false, false, false, false, false, false, false, false, false] rfl rfl (by kernel_rfl) (fun _ _ _ h => h) (Or.inl ⟨by rfl, ?_⟩) ?_ ?_
          rotate_left
          · intro w'
            go_simp
            with_reducible rfl
          rotate_left
          · simp only [Act.put, List.setIfInBounds_toArray, List.set_cons_zero, List.set_cons_succ, i64_w, i32_w]
            rfl
          refine pure_ (i := 10) (N := some 74) (v := ?_) (a' := ?_) #[true, true, true, true, true, true, true, false, true, true, true, false, false, false, false, false, false, false, false] rfl rfl (by kernel_rfl) (fun _ _ _ h => h) (Or.inl ⟨by rfl, ?_⟩) ?_ ?_
          rotate_left
          · intro w'
            go_simp
            with_reducible rfl
          rotate_left
          · simp only [Act.put, List.setIfInBounds_toArray, List.set_cons_zero, List.set_cons_succ, i64_w, i32_w]
            rfl
          refine pure_ (i := 11) (N := some 75) (v := ?_) (a' := ?_) #[true, true, true, true, true, true, true, false, true, true, true, true, false, false, false, false, false, false, false] rfl rfl (by kernel_rfl) (fun _ _ _ h => h) (Or.inl ⟨by rfl, ?_⟩) ?_ ?_
          rotate_left
          · intro w'
            go_simp
            with_reducible rfl
          rotate_left
          · simp only [Act.put, List.setIfInBounds_toArray, List.set_cons_zero, List.set_cons_succ, i64_w, i32_w]
            rfl
          refine pure_ (i := 12) (N := some 76) (v := ?_) (a' := ?_) #[true, true, true, true, true, true, true, false, true, true, true, true, true, false, false, false, false, false, false] rfl rfl (by kernel_rfl) (fun _ _ _ h => h) (Or.inl ⟨by rfl, ?_⟩) ?_ ?_
          rotate_left
          · intro w'
            go_simp
            with_reducible rfl
          rotate_left
          · simp only [Act.put, List.setIfInBounds_toArray, List.set_cons_zero, List.set_cons_succ, i64_w, i32_w]
            rfl
          refine pure_ (i := 15) (N := some 79) (v := ?_) (a' := ?_) #[true, true, true, true, true, true, true, false, true, true, true, true, true, false, false, true, false, false, false] rfl rfl (by kernel_rfl) (fun _ _ _ h => h) (Or.inl ⟨by rfl, ?_⟩) ?_ ?_
          rotate_left
          · intro w'
            go_simp
            with_reducible rfl
          rotate_left
          · simp only [Act.put, List.setIfInBounds_toArray, List.set_cons_zero, List.set_cons_succ, i64_w, i32_w]
            rfl
          refine pure_ (i := 16) (N := some 80) (v := ?_) (a' := ?_) #[true, true, true, true, true, true, true, false, true, true, true, true, true, false, false, true, true, false, false] rfl rfl (by kernel_rfl) (fun _ _ _ h => h) (Or.inl ⟨by rfl, ?_⟩) ?_ ?_
          rotate_left
          · intro w'
            go_simp
            with_reducible rfl
          rotate_left
          · simp only [Act.put, List.setIfInBounds_toArray, List.set_cons_zero, List.set_cons_succ, i64_w, i32_w]
            rfl
          refine take_ (i := 7) (N := some 71) (v := ?_) (a' := ?_) #[true, true, true, true, true, true, true, true, true, true, true, true, true, false, false, true, true, false, false] rfl rfl (by kernel_rfl) (fun _ _ _ h => h) (Or.inl ⟨by rfl, ?_⟩) hHeld ?_ ?_
          rotate_left
          · rintro w' ⟨s0, s1⟩
            go_simp
            with_reducible rfl
          rotate_left
          · simp only [Act.put, List.setIfInBounds_toArray, List.set_cons_zero, List.set_cons_succ, i64_w, i32_w]
            rfl
          refine take_ (i := 13) (N := some 77) (v := ?_) (a' := ?_) #[true, true, true, true, true, true, true, true, true, true, true, true, true, true, false, true, true, false, false] rfl rfl (by kernel_rfl) (fun _ _ _ h => h) (Or.inl ⟨by rfl, ?_⟩) hHeld ?_ ?_
          rotate_left
          · rintro w' ⟨s0, s1⟩
            go_simp
            with_reducible rfl
          rotate_left
          · simp only [Act.put, List.setIfInBounds_toArray, List.set_cons_zero, List.set_cons_succ, i64_w, i32_w]
            rfl
          refine pure_ (i := 14) (N := some 78) (v := ?_) (a' := ?_) #[true, true, true, true, true, true, true, true, true, true, true, true, true, true, true, true, true, false, false] rfl rfl (by kernel_rfl) (fun _ _ _ h => h) (Or.inl ⟨by rfl, ?_⟩) ?_ ?_
          rotate_left
          · intro w'
            go_simp
            with_reducible rfl
          rotate_left
          · simp only [Act.put, List.setIfInBounds_toArray, List.set_cons_zero, List.set_cons_succ, i64_w, i32_w]
            rfl
          refine pure_ (i := 17) (N := some 81) (v := ?_) (a' := ?_) #[true, true, true, true, true, true, true, true, true, true, true, true, true, true, true, true, true, true, false] rfl rfl (by kernel_rfl) (fun _ _ _ h => h) (Or.inl ⟨by rfl, ?_⟩) ?_ ?_
          rotate_left
          · intro w'
            go_simp
            with_reducible rfl
          rotate_left
          · simp only [Act.put, List.setIfInBounds_toArray, List.set_cons_zero, List.set_cons_succ, i64_w, i32_w]
            rfl
          refine last_ (i := 18) (N := none) #[true, true, true, true, true, true, true, true, true, true, true, true, true, true, true, true, true, true, true] rfl rfl (by kernel_rfl) (by decide) (fun K hK => ?_)
          refine skip_cell (w := w) 3 (.tmp 81) (.tmp 78) (by rfl) rfl rfl (g := w_40.heap.size) (1 + k * 7 + i) ?_ (.int .i64 (wrap64 (x - y))) ?_ rfl (by kernel_rfl) rfl (blk_drew D_2905.out) (by rw [TV_size, preN_len hld _ (by have := HM.out; omega)]; exact HM.out) L_D.out (below_drew B2907.out) ?_
          · rfl
          · rfl
          intro wz h1 h2 h3
          have A_2908 := Aside0.mk ((h3 _ NE_A_D.out).trans (blk_drew A_2901.out))
          have B_2909 := Aside0.mk ((h3 _ NE_B_D.out).trans (blk_drew B_2902.out))
          have U_2910 := Aside0.mk ((h3 _ NE_U_D.out).trans (blk_drew U_2903.out))
          have V_2911 := Aside0.mk ((h3 _ NE_V_D.out).trans (blk_drew V_2904.out))
          have S_2912 := Aside0.mk ((h3 _ NE_S_D.out).trans (blk_drew S_2906.out))
          have D_2913 := Aside0.mk (show wz.heap[w_40.heap.size]? = some (.cells (TV (preN d (1 + k * 7 + i + 1))) 56 (0, 0)) from by rw [h1, TV_set, HD1.out])
          have B2914 := Aside0.mk h2
          clear h1 h2 h3 A_2901 B_2902 U_2903 V_2904 S_2906 D_2905 B2907
          refine hK.out _ _ ?_
          clear hK K
          refine done_ (by kernel_rfl) ?_
          skip
          have cd : wz.cell? ⟨w_40.heap.size, 1 + k * 7 + i, none⟩ = some (.int .i64 (wrap64 (x - y))) := (blk_cell D_2913.out (1 + k * 7 + i)).trans (setN_get HD1.out (by rw [preN_len hld _ (by have := HM.out; omega)]; exact HM.out))
          obtain ⟨p, ep⟩ : ∃ p, allP d (1 + k * 7 + i) = p := ⟨_, rfl⟩
          rw [ep] at HP1 ⊢
          clear ep
          cases p with
          | true =>
            go_wp2_with fail
            go_roundg ki
            case rel => exact ⟨i + 1, by rw [← Nat.add_assoc, HP1.out]; first | rfl | simp, by first | rfl | rw [wj], ⟨by have := HJ.out; omega⟩, ⟨B2914.out⟩, ⟨A_2908.out⟩, ⟨B_2909.out⟩, ⟨U_2910.out⟩, ⟨V_2911.out⟩, ⟨S_2912.out⟩, ⟨D_2913.out⟩⟩
            case measure => exact Nat.lt_succ_self _
          | false =>
            go_wp2_with fail
            go_roundg ki
            case rel => exact ⟨i + 1, by rw [← Nat.add_assoc, HP1.out]; first | rfl | simp, by first | rfl | rw [wj], ⟨by have := HJ.out; omega⟩, ⟨B2914.out⟩, ⟨A_2908.out⟩, ⟨B_2909.out⟩, ⟨U_2910.out⟩, ⟨V_2911.out⟩, ⟨S_2912.out⟩, ⟨D_2913.out⟩⟩
            case measure => exact Nat.lt_succ_self _
        · have f0 : decide ((i : Int) < 7) = false := decide_eq_false (by omega)
          obtain rfl : i = 7 := by have := HJ.out; omega
          clear hj HJ
          go_wp2_with fail
          go_roundg ko
          case rel => exact ⟨k + 1, by rw [← k2], by first | rfl | rw [wi], ⟨by have := HK.out; omega⟩, ⟨B2900.out⟩, ⟨A_2900.out⟩, ⟨B_2900.out⟩, ⟨U_2900.out⟩, ⟨V_2900.out⟩, ⟨by rw [← k2]; exact S_2900.out⟩, ⟨by rw [← k2]; exact D_2900.out⟩⟩
          case measure => exact Nat.lt_succ_self _
    · skip
      have e0 : decide ((k : Int) < 9) = false := decide_eq_false (by omega)
      obtain rfl : k = 9 := by have := HK.out; omega
      clear hi HK
      rw [show 1 + 9 * 7 = 64 from rfl] at S_1900 D_1900 ⊢
      rw [preN_64 hls] at S_1900
      rw [preN_64 hld] at D_1900
      go_wp2_with (first
        | ((with_reducible refine wpLd 51 (.tmp 2) ?_); refine wpList_load_row_g (by rfl) 51 (.tmp 2) rfl (w.heap.size) rfl 51 (TV a) (0, 0) _ A_1900.out Tryd.underlying51 rfl (info51 _ (by first | assumption | (simp; done))) ?_)
        | ((with_reducible refine wpLd 51 (.tmp 3) ?_); refine wpList_load_row_g (by rfl) 51 (.tmp 3) rfl (w.heap.size + 1) rfl 51 (TV b) (0, 0) _ B_1900.out Tryd.underlying51 rfl (info51 _ (by first | assumption | (simp; done))) ?_))
      generalize allP d 64 = p at HLS ⊢
      refine (less_T a b _ hla hlb).mono ?_
      rintro e_ w4 ⟨rfl, hb⟩
      have A_1901 := Aside0.mk (blk_below A_1900.out hb)
      have B_1902 := Aside0.mk (blk_below B_1900.out hb)
      have U_1903 := Aside0.mk (blk_below U_1900.out hb)
      have V_1904 := Aside0.mk (blk_below V_1900.out hb)
      have S_1905 := Aside0.mk (blk_below S_1900.out hb)
      have D_1906 := Aside0.mk (blk_below D_1900.out hb)
      have B1907 := Aside0.mk (below_step B1900.out hb)
      clear hb A_1900 B_1900 U_1900 V_1900 S_1900 D_1900 B1900
      rw [HLS.out]
      clear HLS
      have L_X := Aside0.mk (show w.heap.size ≤ w4.heap.size from B1907.out.size)
      have NE_A_X := Aside0.mk (show w.heap.size ≠ w4.heap.size by have := blk_lt A_1901.out; omega)
      have NE_B_X := Aside0.mk (show w.heap.size + 1 ≠ w4.heap.size by have := blk_lt B_1902.out; omega)
      have NE_U_X := Aside0.mk (show w2.heap.size ≠ w4.heap.size by have := blk_lt U_1903.out; omega)
      have NE_V_X := Aside0.mk (show w3.heap.size ≠ w4.heap.size by have := blk_lt V_1904.out; omega)
      have NE_S_X := Aside0.mk (show w_28.heap.size ≠ w4.heap.size by have := blk_lt S_1905.out; omega)
      have NE_D_X := Aside0.mk (show w_40.heap.size ≠ w4.heap.size by have := blk_lt D_1906.out; omega)
      have A_1908 := Aside0.mk (blk_alloc A_1901.out (.cells #[.int .i64 0, .int .i64 0, .int .i64 0, .int .i64 0, .int .i64 0, .int .i64 0, .int .i64 0, .int .i64 0, .int .i64 0, .int .i64 0, .int .i64 0, .int .i64 0, .int .i64 0, .int .i64 0, .int .i64 0, .int .i64 0, .int .i64 0, .int .i64 0, .int .i64 0, .int .i64 0, .int .i64 0, .int .i64 0, .int .i64 0, .int .i64 0, .int .i64 0, .int .i64 0, .int .i64 0, .int .i64 0, .int .i64 0, .int .i64 0, .int .i64 0, .int .i64 0, .int .i64 0, .int .i64 0, .int .i64 0, .int .i64 0, .int .i64 0, .int .i64 0, .int .i64 0, .int .i64 0, .int .i64 0, .int .i64 0, .int .i64 0, .int .i64 0, .int .i64 0, .int .i64 0, .int .i64 0, .int .i64 0, .int .i64 0, .int .i64 0, .int .i64 0, .int .i64 0, .int .i64 0, .int .i64 0, .int .i64 0, .int .i64 0, .int .i64 0, .int .i64 0, .int .i64 0, .int .i64 0, .int .i64 0, .int .i64 0, .int .i64 0, .int .i64 0] 51))
      have B_1909 := Aside0.mk (blk_alloc B_1902.out (.cells #[.int .i64 0, .int .i64 0, .int .i64 0, .int .i64 0, .int .i64 0, .int .i64 0, .int .i64 0, .int .i64 0, .int .i64 0, .int .i64 0, .int .i64 0, .int .i64 0, .int .i64 0, .int .i64 0, .int .i64 0, .int .i64 0, .int .i64 0, .int .i64 0, .int .i64 0, .int .i64 0, .int .i64 0, .int .i64 0, .int .i64 0, .int .i64 0, .int .i64 0, .int .i64 0, .int .i64 0, .int .i64 0, .int .i64 0, .int .i64 0, .int .i64 0, .int .i64 0, .int .i64 0, .int .i64 0, .int .i64 0, .int .i64 0, .int .i64 0, .int .i64 0, .int .i64 0, .int .i64 0, .int .i64 0, .int .i64 0, .int .i64 0, .int .i64 0, .int .i64 0, .int .i64 0, .int .i64 0, .int .i64 0, .int .i64 0, .int .i64 0, .int .i64 0, .int .i64 0, .int .i64 0, .int .i64 0, .int .i64 0, .int .i64 0, .int .i64 0, .int .i64 0, .int .i64 0, .int .i64 0, .int .i64 0, .int .i64 0, .int .i64 0, .int .i64 0] 51))
      have U_1910 := Aside0.mk (blk_alloc U_1903.out (.cells #[.int .i64 0, .int .i64 0, .int .i64 0, .int .i64 0, .int .i64 0, .int .i64 0, .int .i64 0, .int .i64 0, .int .i64 0, .int .i64 0, .int .i64 0, .int .i64 0, .int .i64 0, .int .i64 0, .int .i64 0, .int .i64 0, .int .i64 0, .int .i64 0, .int .i64 0, .int .i64 0, .int .i64 0, .int .i64 0, .int .i64 0, .int .i64 0, .int .i64 0, .int .i64 0, .int .i64 0, .int .i64 0, .int .i64 0, .int .i64 0, .int .i64 0, .int .i64 0, .int .i64 0, .int .i64 0, .int .i64 0, .int .i64 0, .int .i64 0, .int .i64 0, .int .i64 0, .int .i64 0, .int .i64 0, .int .i64 0, .int .i64 0, .int .i64 0, .int .i64 0, .int .i64 0, .int .i64 0, .int .i64 0, .int .i64 0, .int .i64 0, .int .i64 0, .int .i64 0, .int .i64 0, .int .i64 0, .int .i64 0, .int .i64 0, .int .i64 0, .int .i64 0, .int .i64 0, .int .i64 0, .int .i64 0, .int .i64 0, .int .i64 0, .int .i64 0] 51))
      have V_1911 := Aside0.mk (blk_alloc V_1904.out (.cells #[.int .i64 0, .int .i64 0, .int .i64 0, .int .i64 0, .int .i64 0, .int .i64 0, .int .i64 0, .int .i64 0, .int .i64 0, .int .i64 0, .int .i64 0, .int .i64 0, .int .i64 0, .int .i64 0, .int .i64 0, .int .i64 0, .int .i64 0, .int .i64 0, .int .i64 0, .int .i64 0, .int .i64 0, .int .i64 0, .int .i64 0, .int .i64 0, .int .i64 0, .int .i64 0, .int .i64 0, .int .i64 0, .int .i64 0, .int .i64 0, .int .i64 0, .int .i64 0, .int .i64 0, .int .i64 0, .int .i64 0, .int .i64 0, .int .i64 0, .int .i64 0, .int .i64 0, .int .i64 0, .int .i64 0, .int .i64 0, .int .i64 0, .int .i64 0, .int .i64 0, .int .i64 0, .int .i64 0, .int .i64 0, .int .i64 0, .int .i64 0, .int .i64 0, .int .i64 0, .int .i64 0, .int .i64 0, .int .i64 0, .int .i64 0, .int .i64 0, .int .i64 0, .int .i64 0, .int .i64 0, .int .i64 0, .int .i64 0, .int .i64 0, .int .i64 0] 51))
      have S_1912 := Aside0.mk (blk_alloc S_1905.out (.cells #[.int .i64 0, .int .i64 0, .int .i64 0, .int .i64 0, .int .i64 0, .int .i64 0, .int .i64 0, .int .i64 0, .int .i64 0, .int .i64 0, .int .i64 0, .int .i64 0, .int .i64 0, .int .i64 0, .int .i64 0, .int .i64 0, .int .i64 0, .int .i64 0, .int .i64 0, .int .i64 0, .int .i64 0, .int .i64 0, .int .i64 0, .int .i64 0, .int .i64 0, .int .i64 0, .int .i64 0, .int .i64 0, .int .i64 0, .int .i64 0, .int .i64 0, .int .i64 0, .int .i64 0, .int .i64 0, .int .i64 0, .int .i64 0, .int .i64 0, .int .i64 0, .int .i64 0, .int .i64 0, .int .i64 0, .int .i64 0, .int .i64 0, .int .i64 0, .int .i64 0, .int .i64 0, .int .i64 0, .int .i64 0, .int .i64 0, .int .i64 0, .int .i64 0, .int .i64 0, .int .i64 0, .int .i64 0, .int .i64 0, .int .i64 0, .int .i64 0, .int .i64 0, .int .i64 0, .int .i64 0, .int .i64 0, .int .i64 0, .int .i64 0, .int .i64 0] 51))
      have D_1913 := Aside0.mk (blk_alloc D_1906.out (.cells #[.int .i64 0, .int .i64 0, .int .i64 0, .int .i64 0, .int .i64 0, .int .i64 0, .int .i64 0, .int .i64 0, .int .i64 0, .int .i64 0, .int .i64 0, .int .i64 0, .int .i64 0, .int .i64 0, .int .i64 0, .int .i64 0, .int .i64 0, .int .i64 0, .int .i64 0, .int .i64 0, .int .i64 0, .int .i64 0, .int .i64 0, .int .i64 0, .int .i64 0, .int .i64 0, .int .i64 0, .int .i64 0, .int .i64 0, .int .i64 0, .int .i64 0, .int .i64 0, .int .i64 0, .int .i64 0, .int .i64 0, .int .i64 0, .int .i64 0, .int .i64 0, .int .i64 0, .int .i64 0, .int .i64 0, .int .i64 0, .int .i64 0, .int .i64 0, .int .i64 0, .int .i64 0, .int .i64 0, .int .i64 0, .int .i64 0, .int .i64 0, .int .i64 0, .int .i64 0, .int .i64 0, .int .i64 0, .int .i64 0, .int .i64 0, .int .i64 0, .int .i64 0, .int .i64 0, .int .i64 0, .int .i64 0, .int .i64 0, .int .i64 0, .int .i64 0] 51))
      have X_1914 := Aside0.mk (blk_new (w4) (.cells #[.int .i64 0, .int .i64 0, .int .i64 0, .int .i64 0, .int .i64 0, .int .i64 0, .int .i64 0, .int .i64 0, .int .i64 0, .int .i64 0, .int .i64 0, .int .i64 0, .int .i64 0, .int .i64 0, .int .i64 0, .int .i64 0, .int .i64 0, .int .i64 0, .int .i64 0, .int .i64 0, .int .i64 0, .int .i64 0, .int .i64 0, .int .i64 0, .int .i64 0, .int .i64 0, .int .i64 0, .int .i64 0, .int .i64 0, .int .i64 0, .int .i64 0, .int .i64 0, .int .i64 0, .int .i64 0, .int .i64 0, .int .i64 0, .int .i64 0, .int .i64 0, .int .i64 0, .int .i64 0, .int .i64 0, .int .i64 0, .int .i64 0, .int .i64 0, .int .i64 0, .int .i64 0, .int .i64 0, .int .i64 0, .int .i64 0, .int .i64 0, .int .i64 0, .int .i64 0, .int .i64 0, .int .i64 0, .int .i64 0, .int .i64 0, .int .i64 0, .int .i64 0, .int .i64 0, .int .i64 0, .int .i64 0, .int .i64 0, .int .i64 0, .int .i64 0] 51))
      have B1915 := Aside0.mk (below_alloc B1907.out (.cells #[.int .i64 0, .int .i64 0, .int .i64 0, .int .i64 0, .int .i64 0, .int .i64 0, .int .i64 0, .int .i64 0, .int .i64 0, .int .i64 0, .int .i64 0, .int .i64 0, .int .i64 0, .int .i64 0, .int .i64 0, .int .i64 0, .int .i64 0, .int .i64 0, .int .i64 0, .int .i64 0, .int .i64 0, .int .i64 0, .int .i64 0, .int .i64 0, .int .i64 0, .int .i64 0, .int .i64 0, .int .i64 0, .int .i64 0, .int .i64 0, .int .i64 0, .int .i64 0, .int .i64 0, .int .i64 0, .int .i64 0, .int .i64 0, .int .i64 0, .int .i64 0, .int .i64 0, .int .i64 0, .int .i64 0, .int .i64 0, .int .i64 0, .int .i64 0, .int .i64 0, .int .i64 0, .int .i64 0, .int .i64 0, .int .i64 0, .int .i64 0, .int .i64 0, .int .i64 0, .int .i64 0, .int .i64 0, .int .i64 0, .int .i64 0, .int .i64 0, .int .i64 0, .int .i64 0, .int .i64 0, .int .i64 0, .int .i64 0, .int .i64 0, .int .i64 0] 51))
      clear A_1901 B_1902 U_1903 V_1904 S_1905 D_1906 B1907
      cases p with
      | true =>
        simp only [if_pos, if_neg, Bool.false_eq_true, if_true, if_false]
        go_wp2_with (first
          | ((with_reducible refine wpSt 51 (.tmp 12) (.tmp 96) ?_); refine store_whole (w := w) (B := w.heap.size) rfl rfl 51 (.tmp 12) (.tmp 96) rfl (g := w4.heap.size) (cs := TV d) rfl _ rfl rfl (tot51 _ (by first | assumption | (simp [zero64]; done))) (TV_one _) X_1914.out (by first | (simp [TV_size, zero64]; done) | (simp [TV_size, zero64]; omega) | (rw [TV_size, TV_size]; simp [zero64]; omega)) L_X.out B1915.out ?_; intro w_1916 h1 h2 h3 h4; have A_1917 := Aside0.mk ((h3 _ NE_A_X.out).trans A_1908.out); have B_1918 := Aside0.mk ((h3 _ NE_B_X.out).trans B_1909.out); have U_1919 := Aside0.mk ((h3 _ NE_U_X.out).trans U_1910.out); have V_1920 := Aside0.mk ((h3 _ NE_V_X.out).trans V_1911.out); have S_1921 := Aside0.mk ((h3 _ NE_S_X.out).trans S_1912.out); have D_1922 := Aside0.mk ((h3 _ NE_D_X.out).trans D_1913.out); have X_1923 := Aside0.mk (h1); have B1924 := Aside0.mk (h2); clear h1 h2 h3 h4 A_1908 B_1909 U_1910 V_1911 S_1912 D_1913 X_1914 B1915)
          | ((with_reducible refine wpLd 51 (.tmp 2) ?_); refine wpList_load_row_g (by rfl) 51 (.tmp 2) rfl (w.heap.size) rfl 51 (TV a) (0, 0) _ A_1917.out Tryd.underlying51 rfl (info51 _ (by first | assumption | (simp; done))) ?_))
        obtain ⟨xs, exs⟩ : ∃ xs, linesU a 9 = xs := ⟨_, rfl⟩
        have hxl := linesU_len a 9
        have hL1 := lines_T a w_1916 hla HIA.out (HT.out.below B1924.out)
        have hL2 := refLines_T a
        rw [exs] at hL1 hL2 hxl
        have HXL := Aside0.mk hxl
        clear exs hxl
        refine (hL1).mono ?_
        rintro e_ w8 ⟨v7, rfl, hR, hb⟩
        have A_1925 := Aside0.mk (blk_below A_1917.out hb)
        have B_1926 := Aside0.mk (blk_below B_1918.out hb)
        have U_1927 := Aside0.mk (blk_below U_1919.out hb)
        have V_1928 := Aside0.mk (blk_below V_1920.out hb)
        have S_1929 := Aside0.mk (blk_below S_1921.out hb)
        have D_1930 := Aside0.mk (blk_below D_1922.out hb)
        have X_1931 := Aside0.mk (blk_below X_1923.out hb)
        obtain ⟨AP, cP, rfl, hcP, -⟩ := Kd.R_reads hR
        have P_777 := Aside0.mk (Kd.R_lower hR (B1924.out.size))
        clear hR hcP
        have B1932 := Aside0.mk (below_step B1924.out hb)
        clear hb A_1917 B_1918 U_1919 V_1920 S_1921 D_1922 X_1923 B1924
        clear hL1
        go_wp2_with (first
          | ((with_reducible refine wpLd 56 (.tmp 5) ?_); refine wpList_load_row_g (by rfl) 56 (.tmp 5) rfl (w2.heap.size) rfl 56 (TV a) (0, 0) _ U_1927.out Tryd.underlying56 rfl (info56 _ (by first | assumption | (simp; done))) ?_))
        refine (hL2 _ hla HIA.out).mono ?_
        rintro e_ w9 ⟨v8, rfl, hR, hb⟩
        have A_1933 := Aside0.mk (blk_below A_1925.out hb)
        have B_1934 := Aside0.mk (blk_below B_1926.out hb)
        have U_1935 := Aside0.mk (blk_below U_1927.out hb)
        have V_1936 := Aside0.mk (blk_below V_1928.out hb)
        have S_1937 := Aside0.mk (blk_below S_1929.out hb)
        have D_1938 := Aside0.mk (blk_below D_1930.out hb)
        have X_1939 := Aside0.mk (blk_below X_1931.out hb)
        have P_1940 := Aside0.mk (Kd.R_below P_777.out hb)
        obtain ⟨AQ, cQ, rfl, hcQ, -⟩ := Kd.R_reads hR
        have Q_777 := Aside0.mk (Kd.R_lower hR (B1932.out.size))
        clear hR hcQ
        have B1941 := Aside0.mk (below_step B1932.out hb)
        clear hb A_1925 B_1926 U_1927 V_1928 S_1929 D_1930 X_1931 P_777 B1932
        clear hL2
        go_wp2_with fail
        refine start_ (n := 30) (S := fun w' => w'.heap[w.heap.size]? = some (.cells (TV a) 51 (0, 0)) ∧ w'.heap[w.heap.size + 1]? = some (.cells (TV b) 51 (0, 0)) ∧ w'.heap[w_28.heap.size]? = some (.cells (TV s) 56 (0, 0)) ∧ w'.heap[w4.heap.size]? = some (.cells (TV d) 51 (0, 0)) ∧ w'.heap[w_40.heap.size]? = some (.cells (TV d) 56 (0, 0))) (ds := []) #[false, false, false, false, false, false, false, false, false, false, false, false, false, false, false, false, false, false, false, false, false, false, false, false, false, false, false, false, false, false] (by kernel_rfl) rfl rfl ⟨(blk_drew A_1933.out), (blk_drew B_1934.out), (blk_drew S_1937.out), (blk_drew X_1939.out), (blk_drew D_1938.out)⟩ (fun hHeld => ?_)
        refine take_ (i := 0) (N := some 105) (v := ?_) (a' := ?_) #[true, false, false, false, false, false, false, false, false, false, false, false, false, false, false, false, false, false, false, false, false, false, false, false, false, false, false, false, false, false] rfl rfl (by kernel_rfl) (fun _ _ _ h => h) (Or.inl ⟨by rfl, ?_⟩) hHeld ?_ ?_
        rotate_left
        · rintro w' ⟨s0, s1, s2, s3, s4⟩
          refine exec_load_row 51 (.tmp 2) ?_ _ ?_ 51 (TV a) (0, 0) _ s0 Tryd.underlying51 rfl (info51 _ (by first | assumption | (simp; done))) <;> rfl
        rotate_left
        · simp only [Act.put, List.setIfInBounds_toArray, List.set_cons_zero, List.set_cons_succ, i64_w, i32_w]
          rfl
        refine take_ (i := 1) (N := some 106) (v := ?_) (a' := ?_) #[true, true, false, false, false, false, false, false, false, false, false, false, false, false, false, false, false, false, false, false, false, false, false, false, false, false, false, false, false, false] rfl rfl (by kernel_rfl) (fun _ _ _ h => h) (Or.inl ⟨by rfl, ?_⟩) hHeld ?_ ?_
        rotate_left
        · rintro w' ⟨s0, s1, s2, s3, s4⟩
          refine exec_load_row 51 (.tmp 3) ?_ _ ?_ 51 (TV b) (0, 0) _ s1 Tryd.underlying51 rfl (info51 _ (by first | assumption | (simp; done))) <;> rfl
        rotate_left
        · simp only [Act.put, List.setIfInBounds_toArray, List.set_cons_zero, List.set_cons_succ, i64_w, i32_w]
          rfl
        refine take_ (i := 5) (N := some 110) (v := ?_) (a' := ?_) #[true, true, false, false, false, true, false, false, false, false, false, false, false, false, false, false, false, false, false, false, false, false, false, false, false, false, false, false, false, false] rfl rfl (by kernel_rfl) (fun _ _ _ h => h) (Or.inl ⟨by rfl, ?_⟩) hHeld ?_ ?_
        rotate_left
        · rintro w' ⟨s0, s1, s2, s3, s4⟩
          refine exec_load_row 56 (.tmp 7) ?_ _ ?_ 56 (TV s) (0, 0) _ s2 Tryd.underlying56 rfl (info56 _ (by first | assumption | (simp; done))) <;> rfl
        rotate_left
        · simp only [Act.put, List.setIfInBounds_toArray, List.set_cons_zero, List.set_cons_succ, i64_w, i32_w]
          rfl
        refine one_ (i := 2) (N := some 107) #[true, true, true, false, false, true, false, false, false, false, false, false, false, false, false, false, false, false, false, false, false, false, false, false, false, false, false, false, false, false] rfl rfl (by kernel_rfl) (by decide) (fun K hK => ?_)
        refine two_step ?hw (cs := TV (a ++ b)) (t := 51) ?hr ?_; (case hw => rfl); (case hr => exact exec_two (.tmp 105) (.tmp 106) rfl a b rfl rfl hla hlb)
        intro gQ hgQ wq hq hb
        have A_1942 := Aside0.mk (blk_below (blk_drew A_1933.out) hb)
        have B_1943 := Aside0.mk (blk_below (blk_drew B_1934.out) hb)
        have U_1944 := Aside0.mk (blk_below (blk_drew U_1935.out) hb)
        have V_1945 := Aside0.mk (blk_below (blk_drew V_1936.out) hb)
        have S_1946 := Aside0.mk (blk_below (blk_drew S_1937.out) hb)
        have D_1947 := Aside0.mk (blk_below (blk_drew D_1938.out) hb)
        have X_1948 := Aside0.mk (blk_below (blk_drew X_1939.out) hb)
        have P_1949 := Aside0.mk (Kd.R_below (Kd.R_drew P_1940.out) hb)
        have Q_1950 := Aside0.mk (Kd.R_below (Kd.R_drew Q_777.out) hb)
        have B1951 := Aside0.mk (below_step (below_drew B1941.out) hb)
        have HQ := Aside0.mk hq
        clear hb hq hgQ A_1933 B_1934 U_1935 V_1936 S_1937 D_1938 X_1939 P_1940 Q_777 B1941
        refine hK.out _ _ ⟨A_1942.out, B_1943.out, S_1946.out, X_1948.out, D_1947.out⟩ (fun hHeld => ?_)
        clear hK K
        refine norm_ (a' := ?_) ?_ ?_
        rotate_left
        · show Act.put _ (some 107) _ = _
          simp only [Act.put, List.setIfInBounds_toArray, List.set_cons_zero, List.set_cons_succ, i64_w, i32_w]
          rfl
        refine one_ (i := 3) (N := some 108) #[true, true, true, true, false, true, false, false, false, false, false, false, false, false, false, false, false, false, false, false, false, false, false, false, false, false, false, false, false, false] rfl rfl (by kernel_rfl) (by decide) (fun K hK => ?_)
        refine goes_ Tryd.func37 (by kernel_rfl) rfl #[.slice (some ⟨gQ, 0, none⟩) 2 2] (by rfl) rfl rfl (by simp only [List.map_toArray, List.map_cons, List.map_nil]; rfl) ?_
        with_reducible refine (sum2_T a b gQ 2 _ hla hlb HQ.out).mono ?_
        rintro e_ wa ⟨rfl, hb⟩
        rw [HSUM.out]
        refine ⟨_, rfl, ?_⟩
        have A_1952 := Aside0.mk (blk_below A_1942.out hb)
        have B_1953 := Aside0.mk (blk_below B_1943.out hb)
        have U_1954 := Aside0.mk (blk_below U_1944.out hb)
        have V_1955 := Aside0.mk (blk_below V_1945.out hb)
        have S_1956 := Aside0.mk (blk_below S_1946.out hb)
        have D_1957 := Aside0.mk (blk_below D_1947.out hb)
        have X_1958 := Aside0.mk (blk_below X_1948.out hb)
        have P_1959 := Aside0.mk (Kd.R_below P_1949.out hb)
        have Q_1960 := Aside0.mk (Kd.R_below Q_1950.out hb)
        have B1961 := Aside0.mk (below_step B1951.out hb)
        clear hb A_1942 B_1943 U_1944 V_1945 S_1946 D_1947 X_1948 P_1949 Q_1950 B1951
        refine hK.out _ _ ⟨A_1952.out, B_1953.out, S_1956.out, X_1958.out, D_1957.out⟩ (fun hHeld => ?_)
        clear hK K
        refine norm_ (a' := ?_) ?_ ?_
        rotate_left
        · show Act.put _ (some 108) _ = _
          simp only [Act.put, List.setIfInBounds_toArray, List.set_cons_zero, List.set_cons_succ, i64_w, i32_w]
          rfl
        refine one_ (i := 4) (N := some 109) #[true, true, true, true, true, true, false, false, false, false, false, false, false, false, false, false, false, false, false, false, false, false, false, false, false, false, false, false, false, false] rfl rfl (by kernel_rfl) (by decide) (fun K hK => ?_)
        refine goes_ Tryd.func31 (by kernel_rfl) rfl #[.agg (TV s)] (by rfl) rfl rfl (by simp only [List.map_toArray, List.map_cons, List.map_nil]; rfl) ?_
        with_reducible refine (form_T s _ hls).mono ?_
        rintro e_ wb ⟨rfl, hb⟩
        refine ⟨_, rfl, ?_⟩
        have A_1962 := Aside0.mk (blk_below A_1952.out hb)
        have B_1963 := Aside0.mk (blk_below B_1953.out hb)
        have U_1964 := Aside0.mk (blk_below U_1954.out hb)
        have V_1965 := Aside0.mk (blk_below V_1955.out hb)
        have S_1966 := Aside0.mk (blk_below S_1956.out hb)
        have D_1967 := Aside0.mk (blk_below D_1957.out hb)
        have X_1968 := Aside0.mk (blk_below X_1958.out hb)
        have P_1969 := Aside0.mk (Kd.R_below P_1959.out hb)
        have Q_1970 := Aside0.mk (Kd.R_below Q_1960.out hb)
        have B1971 := Aside0.mk (below_step B1961.out hb)
        clear hb A_1952 B_1953 U_1954 V_1955 S_1956 D_1957 X_1958 P_1959 Q_1960 B1961
        refine hK.out _ _ ⟨A_1962.out, B_1963.out, S_1966.out, X_1968.out, D_1967.out⟩ (fun hHeld => ?_)
        clear hK K
        refine norm_ (a' := ?_) ?_ ?_
        rotate_left
        · show Act.put _ (some 109) _ = _
          simp only [Act.put, List.setIfInBounds_toArray, List.set_cons_zero, List.set_cons_succ, i64_w, i32_w]
          rfl
        refine pure_ (i := 6) (N := some 111) (v := ?_) (a' := ?_) #[true, true, true, true, true, true, true, false, false, false, false, false, false, false, false, false, false, false, false, false, false, false, false, false, false, false, false, false, false, false] rfl rfl (by kernel_rfl) (fun _ _ _ h => h) (Or.inl ⟨by rfl, ?_⟩) ?_ ?_
        rotate_left
        · intro w'
          refine exec_ne56s (.tmp 109) (.tmp 110) ?_ s ?_ ?_ hls <;> rfl
        rotate_left
        · simp only [Act.put, List.setIfInBounds_toArray, List.set_cons_zero, List.set_cons_succ, i64_w, i32_w]
          rfl
        refine pure_ (i := 7) (N := some 112) (v := ?_) (a' := ?_) #[true, true, true, true, true, true, true, true, false, false, false, false, false, false, false, false, false, false, false, false, false, false, false, false, false, false, false, false, false, false] rfl rfl (by kernel_rfl) (fun _ _ _ h => h) (Or.inl ⟨by rfl, ?_⟩) ?_ ?_
        rotate_left
        · intro w'
          go_simp
          with_reducible rfl
        rotate_left
        · simp only [Act.put, List.setIfInBounds_toArray, List.set_cons_zero, List.set_cons_succ, i64_w, i32_w]
          rfl
        refine take_ (i := 8) (N := some 113) (v := ?_) (a' := ?_) #[true, true, true, true, true, true, true, true, true, false, false, false, false, false, false, false, false, false, false, false, false, false, false, false, false, false, false, false, false, false] rfl rfl (by kernel_rfl) (fun _ _ _ h => h) (Or.inl ⟨by rfl, ?_⟩) hHeld ?_ ?_
        rotate_left
        · rintro w' ⟨s0, s1, s2, s3, s4⟩
          refine exec_load_row 51 (.tmp 12) ?_ _ ?_ 51 (TV d) (0, 0) _ s3 Tryd.underlying51 rfl (info51 _ (by first | assumption | (simp; done))) <;> rfl
        rotate_left
        · simp only [Act.put, List.setIfInBounds_toArray, List.set_cons_zero, List.set_cons_succ, i64_w, i32_w]
          rfl
        refine take_ (i := 10) (N := some 115) (v := ?_) (a' := ?_) #[true, true, true, true, true, true, true, true, true, false, true, false, false, false, false, false, false, false, false, false, false, false, false, false, false, false, false, false, false, false] rfl rfl (by kernel_rfl) (fun _ _ _ h => h) (Or.inl ⟨by rfl, ?_⟩) hHeld ?_ ?_
        rotate_left
        · rintro w' ⟨s0, s1, s2, s3, s4⟩
          refine exec_load_row 56 (.tmp 8) ?_ _ ?_ 56 (TV d) (0, 0) _ s4 Tryd.underlying56 rfl (info56 _ (by first | assumption | (simp; done))) <;> rfl
        rotate_left
        · simp only [Act.put, List.setIfInBounds_toArray, List.set_cons_zero, List.set_cons_succ, i64_w, i32_w]
          rfl
        refine one_ (i := 9) (N := some 114) #[true, true, true, true, true, true, true, true, true, true, true, false, false, false, false, false, false, false, false, false, false, false, false, false, false, false, false, false, false, false] rfl rfl (by kernel_rfl) (by decide) (fun K hK => ?_)
        refine goes_ Tryd.func31 (by kernel_rfl) rfl #[.agg (TV d)] (by rfl) rfl rfl (by simp only [List.map_toArray, List.map_cons, List.map_nil]; rfl) ?_
        with_reducible refine (form_T d _ hld).mono ?_
        rintro e_ wc ⟨rfl, hb⟩
        refine ⟨_, rfl, ?_⟩
        have A_1972 := Aside0.mk (blk_below A_1962.out hb)
        have B_1973 := Aside0.mk (blk_below B_1963.out hb)
        have U_1974 := Aside0.mk (blk_below U_1964.out hb)
        have V_1975 := Aside0.mk (blk_below V_1965.out hb)
        have S_1976 := Aside0.mk (blk_below S_1966.out hb)
        have D_1977 := Aside0.mk (blk_below D_1967.out hb)
        have X_1978 := Aside0.mk (blk_below X_1968.out hb)
        have P_1979 := Aside0.mk (Kd.R_below P_1969.out hb)
        have Q_1980 := Aside0.mk (Kd.R_below Q_1970.out hb)
        have B1981 := Aside0.mk (below_step B1971.out hb)
        clear hb A_1962 B_1963 U_1964 V_1965 S_1966 D_1967 X_1968 P_1969 Q_1970 B1971
        refine hK.out _ _ ⟨A_1972.out, B_1973.out, S_1976.out, X_1978.out, D_1977.out⟩ (fun hHeld => ?_)
        clear hK K
        refine norm_ (a' := ?_) ?_ ?_
        rotate_left
        · show Act.put _ (some 114) _ = _
          simp only [Act.put, List.setIfInBounds_toArray, List.set_cons_zero, List.set_cons_succ, i64_w, i32_w]
          rfl
        refine pure_ (i := 11) (N := some 116) (v := ?_) (a' := ?_) #[true, true, true, true, true, true, true, true, true, true, true, true, false, false, false, false, false, false, false, false, false, false, false, false, false, false, false, false, false, false] rfl rfl (by kernel_rfl) (fun _ _ _ h => h) (Or.inl ⟨by rfl, ?_⟩) ?_ ?_
        rotate_left
        · intro w'
          refine exec_ne56s (.tmp 114) (.tmp 115) ?_ d ?_ ?_ hld <;> rfl
        rotate_left
        · simp only [Act.put, List.setIfInBounds_toArray, List.set_cons_zero, List.set_cons_succ, i64_w, i32_w]
          rfl
        refine pure_ (i := 12) (N := some 117) (v := ?_) (a' := ?_) #[true, true, true, true, true, true, true, true, true, true, true, true, true, false, false, false, false, false, false, false, false, false, false, false, false, false, false, false, false, false] rfl rfl (by kernel_rfl) (fun _ _ _ h => h) (Or.inl ⟨by rfl, ?_⟩) ?_ ?_
        rotate_left
        · intro w'
          go_simp
          with_reducible rfl
        rotate_left
        · simp only [Act.put, List.setIfInBounds_toArray, List.set_cons_zero, List.set_cons_succ, i64_w, i32_w]
          rfl
        refine pure_ (i := 13) (N := some 118) (v := ?_) (a' := ?_) #[true, true, true, true, true, true, true, true, true, true, true, true, true, true, false, false, false, false, false, false, false, false, false, false, false, false, false, false, false, false] rfl rfl (by kernel_rfl) (fun _ _ _ h => h) (Or.inl ⟨by rfl, ?_⟩) ?_ ?_
        rotate_left
        · intro w'
          go_simp
          with_reducible rfl
        rotate_left
        · simp only [Act.put, List.setIfInBounds_toArray, List.set_cons_zero, List.set_cons_succ, i64_w, i32_w]
          rfl
        refine pure_ (i := 14) (N := some 119) (v := ?_) (a' := ?_) #[true, true, true, true, true, true, true, true, true, true, true, true, true, true, true, false, false, false, false, false, false, false, false, false, false, false, false, false, false, false] rfl rfl (by kernel_rfl) (fun _ _ _ h => h) (Or.inl ⟨by rfl, ?_⟩) ?_ ?_
        rotate_left
        · intro w'
          go_simp
          with_reducible rfl
        rotate_left
        · simp only [Act.put, List.setIfInBounds_toArray, List.set_cons_zero, List.set_cons_succ, i64_w, i32_w]
          rfl
        refine pure_ (i := 15) (N := some 120) (v := ?_) (a' := ?_) #[true, true, true, true, true, true, true, true, true, true, true, true, true, true, true, true, false, false, false, false, false, false, false, false, false, false, false, false, false, false] rfl rfl (by kernel_rfl) (fun _ _ _ h => h) (Or.inl ⟨by rfl, ?_⟩) ?_ ?_
        rotate_left
        · intro w'
          go_simp
          with_reducible rfl
        rotate_left
        · simp only [Act.put, List.setIfInBounds_toArray, List.set_cons_zero, List.set_cons_succ, i64_w, i32_w]
          rfl
        refine pure_ (i := 16) (N := some 121) (v := ?_) (a' := ?_) #[true, true, true, true, true, true, true, true, true, true, true, true, true, true, true, true, true, false, false, false, false, false, false, false, false, false, false, false, false, false] rfl rfl (by kernel_rfl) (fun _ _ _ h => h) (Or.inl ⟨by rfl, ?_⟩) ?_ ?_
        rotate_left
        · intro w'
          go_simp
          with_reducible rfl
        rotate_left
        · simp only [Act.put, List.setIfInBounds_toArray, List.set_cons_zero, List.set_cons_succ, i64_w, i32_w]
          rfl
        refine pure_ (i := 17) (N := some 122) (v := ?_) (a' := ?_) #[true, true, true, true, true, true, true, true, true, true, true, true, true, true, true, true, true, true, false, false, false, false, false, false, false, false, false, false, false, false] rfl rfl (by kernel_rfl) (fun _ _ _ h => h) (Or.inl ⟨by rfl, ?_⟩) ?_ ?_
        rotate_left
        · intro w'
          go_simp
          with_reducible rfl
        rotate_left
        · simp only [Act.put, List.setIfInBounds_toArray, List.set_cons_zero, List.set_cons_succ, i64_w, i32_w]
          rfl
        refine pure_ (i := 18) (N := some 123) (v := ?_) (a' := ?_) #[true, true, true, true, true, true, true, true, true, true, true, true, true, true, true, true, true, true, true, false, false, false, false, false, false, false, false, false, false, false] rfl rfl (by kernel_rfl) (fun _ _ _ h => h) (Or.inl ⟨by rfl, ?_⟩) ?_ ?_
        rotate_left
        · intro w'
          go_simp
          with_reducible rfl
        rotate_left
        · simp only [Act.put, List.setIfInBounds_toArray, List.set_cons_zero, List.set_cons_succ, i64_w, i32_w]
          rfl
        refine pure_ (i := 19) (N := some 124) (v := ?_) (a' := ?_) #[true, true, true, true, true, true, true, true, true, true, true, true, true, true, true, true, true, true, true, true, false, false, false, false, false, false, false, false, false, false] rfl rfl (by kernel_rfl) (fun _ _ _ h => h) (Or.inl ⟨by rfl, ?_⟩) ?_ ?_
        rotate_left
        · intro w'
          go_simp
          with_reducible rfl
        rotate_left
        · simp only [Act.put, List.setIfInBounds_toArray, List.set_cons_zero, List.set_cons_succ, i64_w, i32_w]
          rfl
        refine pure_ (i := 20) (N := some 125) (v := ?_) (a' := ?_) #[true, true, true, true, true, true, true, true, true, true, true, true, true, true, true, true, true, true, true, true, true, false, false, false, false, false, false, false, false, false] rfl rfl (by kernel_rfl) (fun _ _ _ h => h) (Or.inl ⟨by rfl, ?_⟩) ?_ ?_
        rotate_left
        · intro w'
          go_simp
          with_reducible rfl
        rotate_left
        · simp only [Act.put, List.setIfInBounds_toArray, List.set_cons_zero, List.set_cons_succ, i64_w, i32_w]
          rfl
        refine pure_ (i := 21) (N := some 126) (v := ?_) (a' := ?_) #[true, true, true, true, true, true, true, true, true, true, true, true, true, true, true, true, true, true, true, true, true, true, false, false, false, false, false, false, false, false] rfl rfl (by kernel_rfl) (fun _ _ _ h => h) (Or.inl ⟨by rfl, ?_⟩) ?_ ?_
        rotate_left
        · intro w'
          go_simp
          with_reducible rfl
        rotate_left
        · simp only [Act.put, List.setIfInBounds_toArray, List.set_cons_zero, List.set_cons_succ, i64_w, i32_w]
          rfl
        refine pure_ (i := 22) (N := some 127) (v := ?_) (a' := ?_) #[true, true, true, true, true, true, true, true, true, true, true, true, true, true, true, true, true, true, true, true, true, true, true, false, false, false, false, false, false, false] rfl rfl (by kernel_rfl) (fun _ _ _ h => h) (Or.inl ⟨by rfl, ?_⟩) ?_ ?_
        rotate_left
        · intro w'
          go_simp
          with_reducible rfl
        rotate_left
        · simp only [Act.put, List.setIfInBounds_toArray, List.set_cons_zero, List.set_cons_succ, i64_w, i32_w]
          rfl
        refine pure_ (i := 23) (N := some 128) (v := ?_) (a' := ?_) #[true, true, true, true, true, true, true, true, true, true, true, true, true, true, true, true, true, true, true, true, true, true, true, true, false, false, false, false, false, false] rfl rfl (by kernel_rfl) (fun _ _ _ h => h) (Or.inl ⟨by rfl, ?_⟩) ?_ ?_
        rotate_left
        · intro w'
          go_simp
          with_reducible rfl
        rotate_left
        · simp only [Act.put, List.setIfInBounds_toArray, List.set_cons_zero, List.set_cons_succ, i64_w, i32_w]
          rfl
        refine pure_ (i := 24) (N := some 129) (v := ?_) (a' := ?_) #[true, true, true, true, true, true, true, true, true, true, true, true, true, true, true, true, true, true, true, true, true, true, true, true, true, false, false, false, false, false] rfl rfl (by kernel_rfl) (fun _ _ _ h => h) (Or.inl ⟨by rfl, ?_⟩) ?_ ?_
        rotate_left
        · intro w'
          go_simp
          with_reducible rfl
        rotate_left
        · simp only [Act.put, List.setIfInBounds_toArray, List.set_cons_zero, List.set_cons_succ, i64_w, i32_w]
          rfl
        refine pure_ (i := 25) (N := some 130) (v := ?_) (a' := ?_) #[true, true, true, true, true, true, true, true, true, true, true, true, true, true, true, true, true, true, true, true, true, true, true, true, true, true, false, false, false, false] rfl rfl (by kernel_rfl) (fun _ _ _ h => h) (Or.inl ⟨by rfl, ?_⟩) ?_ ?_
        rotate_left
        · intro w'
          go_simp
          with_reducible rfl
        rotate_left
        · simp only [Act.put, List.setIfInBounds_toArray, List.set_cons_zero, List.set_cons_succ, i64_w, i32_w]
          rfl
        refine pure_ (i := 27) (N := some 132) (v := ?_) (a' := ?_) #[true, true, true, true, true, true, true, true, true, true, true, true, true, true, true, true, true, true, true, true, true, true, true, true, true, true, false, true, false, false] rfl rfl (by kernel_rfl) (fun _ _ _ h => h) (Or.inl ⟨by rfl, ?_⟩) ?_ ?_
        rotate_left
        · intro w'
          go_simp
          with_reducible rfl
        rotate_left
        · simp only [Act.put, List.setIfInBounds_toArray, List.set_cons_zero, List.set_cons_succ, i64_w, i32_w]
          rfl
        refine one_ (i := 26) (N := some 131) #[true, true, true, true, true, true, true, true, true, true, true, true, true, true, true, true, true, true, true, true, true, true, true, true, true, true, true, true, false, false] rfl rfl (by kernel_rfl) (by decide) (fun K hK => ?_)
        refine goes_ Tryd.func37 (by kernel_rfl) rfl #[.slice none 0 0] (by rfl) rfl rfl (by simp only [List.map_toArray, List.map_cons, List.map_nil]; rfl) ?_
        with_reducible refine (sum0_T _).mono ?_
        rintro e_ wd ⟨rfl, hb⟩
        refine ⟨_, rfl, ?_⟩
        have A_1982 := Aside0.mk (blk_below A_1972.out hb)
        have B_1983 := Aside0.mk (blk_below B_1973.out hb)
        have U_1984 := Aside0.mk (blk_below U_1974.out hb)
        have V_1985 := Aside0.mk (blk_below V_1975.out hb)
        have S_1986 := Aside0.mk (blk_below S_1976.out hb)
        have D_1987 := Aside0.mk (blk_below D_1977.out hb)
        have X_1988 := Aside0.mk (blk_below X_1978.out hb)
        have P_1989 := Aside0.mk (Kd.R_below P_1979.out hb)
        have Q_1990 := Aside0.mk (Kd.R_below Q_1980.out hb)
        have B1991 := Aside0.mk (below_step B1981.out hb)
        clear hb A_1972 B_1973 U_1974 V_1975 S_1976 D_1977 X_1978 P_1979 Q_1980 B1981
        refine hK.out _ _ ⟨A_1982.out, B_1983.out, S_1986.out, X_1988.out, D_1987.out⟩ (fun hHeld => ?_)
        clear hK K
        refine norm_ (a' := ?_) ?_ ?_
        rotate_left
        · show Act.put _ (some 131) _ = _
          simp only [Act.put, List.setIfInBounds_toArray, List.set_cons_zero, List.set_cons_succ, i64_w, i32_w]
          rfl
        refine pure_ (i := 28) (N := some 133) (v := ?_) (a' := ?_) #[true, true, true, true, true, true, true, true, true, true, true, true, true, true, true, true, true, true, true, true, true, true, true, true, true, true, true, true, true, false] rfl rfl (by kernel_rfl) (fun _ _ _ h => h) (Or.inl ⟨by rfl, ?_⟩) ?_ ?_
        rotate_left
        · intro w'
          refine exec_ne51s (.tmp 131) (.tmp 132) ?_ zero64 ?_ ?_ hz64 <;> rfl
        rotate_left
        · simp only [Act.put, List.setIfInBounds_toArray, List.set_cons_zero, List.set_cons_succ, i64_w, i32_w]
          rfl
        refine pure_ (i := 29) (N := some 134) (v := ?_) (a' := ?_) #[true, true, true, true, true, true, true, true, true, true, true, true, true, true, true, true, true, true, true, true, true, true, true, true, true, true, true, true, true, true] rfl rfl (by kernel_rfl) (fun _ _ _ h => h) (Or.inl ⟨by rfl, ?_⟩) ?_ ?_
        rotate_left
        · intro w'
          go_simp
          with_reducible rfl
        rotate_left
        · simp only [Act.put, List.setIfInBounds_toArray, List.set_cons_zero, List.set_cons_succ, i64_w, i32_w]
          rfl
        refine done_ (by kernel_rfl) ?_
        go_wp2_with fail
        go_loopg [16] xs.length (fun kq v16 w' => ∃ (i : Nat), v16 = .int .i64 (i : Int) ∧ Aside0 (i + kq = xs.length) ∧ Aside0 (Below w.heap.size w w') ∧ Aside0 (Kd.R Kd.string 9 w' w.heap.size (fun _ => True) (.slice AP xs.length cP) (xs)) ∧ Aside0 (Kd.R Kd.string 9 w' w.heap.size (fun _ => True) (.slice AQ xs.length cQ) (xs)))
        case atStart => exact ⟨0, rfl, ⟨by omega⟩, ⟨B1991.out⟩, ⟨P_1989.out⟩, ⟨Q_1990.out⟩⟩
        case round =>
          clear B1991 P_1989 Q_1990 A_1982 B_1983 U_1984 V_1985 S_1986 D_1987 X_1988
          obtain ⟨i, rfl, HJ, B2900, P_2900, Q_2900⟩ := hrel
          by_cases hj : i < xs.length
          · have f0 : decide ((i : Int) < (xs.length : Int)) = true := decide_eq_true (by omega)
            have q2 := Aside0.mk hj
            obtain ⟨ki, rfl⟩ : ∃ m, gk = m + 1 := ⟨gk - 1, by have := HJ.out; omega⟩
            have r0 := eq_true (show (0 : Int) ≤ (i : Int) by omega)
            have r1 := eq_true (show (i : Int) < (xs.length : Int) by omega)
            have r2 := eq_true hj
            have wj : wrap64 ((i : Int) + 1) = ((i + 1 : Nat) : Int) := by have := q2.out; have := HXL.out; unfold wrap64; omega
            obtain ⟨pP, e_, -⟩ := at_s P_2900.out rfl i hj
            subst e_
            obtain ⟨pQ, e_, -⟩ := at_s Q_2900.out rfl i hj
            subst e_
            obtain ⟨x, hx⟩ : ∃ x, xs.getD i ⟨#[]⟩ = x := ⟨_, rfl⟩
            have cP_ := at_cell (Kd.R_drew P_2900.out) rfl i hj x hx
            have cQ_ := at_cell (Kd.R_drew Q_2900.out) rfl i hj x hx
            have CP := Aside0.mk cP_
            have CQ := Aside0.mk cQ_
            clear hj cP_ cQ_ hx
            go_wp2_with fail
            refine start_ (n := 9) (S := fun w' => w'.cell? (pP.add i) = some (.string x) ∧ w'.cell? (pQ.add i) = some (.string x)) (ds := []) #[false, false, false, false, false, false, false, false, false] (by kernel_rfl) rfl rfl ⟨CP.out, CQ.out⟩ (fun hHeld => ?_)
            refine pure_ (i := 0) (N := some 141) (v := ?_) (a' := ?_) #[true, false, false, false, false, false, false, false, false] rfl rfl (by kernel_rfl) (fun _ _ _ h => h) (Or.inl ⟨by rfl, ?_⟩) ?_ ?_
            rotate_left
            · intro w'
              go_simp
              with_reducible rfl
            rotate_left
            · simp only [Act.put, List.setIfInBounds_toArray, List.set_cons_zero, List.set_cons_succ, i64_w, i32_w]
              rfl
            refine pure_ (i := 1) (N := some 142) (v := ?_) (a' := ?_) #[true, true, false, false, false, false, false, false, false] rfl rfl (by kernel_rfl) (fun _ _ _ h => h) (Or.inl ⟨by rfl, ?_⟩) ?_ ?_
            rotate_left
            · intro w'
              go_simp
              with_reducible rfl
            rotate_left
            · simp only [Act.put, List.setIfInBounds_toArray, List.set_cons_zero, List.set_cons_succ, i64_w, i32_w]
              rfl
            refine pure_ (i := 2) (N := some 143) (v := ?_) (a' := ?_) #[true, true, true, false, false, false, false, false, false] rfl rfl (by kernel_rfl) (fun _ _ _ h => h) (Or.inl ⟨by rfl, ?_⟩) ?_ ?_
            rotate_left
            · intro w'
              go_simp
              with_reducible rfl
            rotate_left
            · simp only [Act.put, List.setIfInBounds_toArray, List.set_cons_zero, List.set_cons_succ, i64_w, i32_w]
              rfl
            refine pure_ (i := 4) (N := some 145) (v := ?_) (a' := ?_) #[true, true, true, false, true, false, false, false, false] rfl rfl (by kernel_rfl) (fun _ _ _ h => h) (Or.inl ⟨by rfl, ?_⟩) ?_ ?_
            rotate_left
            · intro w'
              go_simp
              with_reducible rfl
            rotate_left
            · simp only [Act.put, List.setIfInBounds_toArray, List.set_cons_zero, List.set_cons_succ, i64_w, i32_w]
              rfl
            refine pure_ (i := 5) (N := some 146) (v := ?_) (a' := ?_) #[true, true, true, false, true, true, false, false, false] rfl rfl (by kernel_rfl) (fun _ _ _ h => h) (Or.inl ⟨by rfl, ?_⟩) ?_ ?_
            rotate_left
            · intro w'
              go_simp
              with_reducible rfl
            rotate_left
            · simp only [Act.put, List.setIfInBounds_toArray, List.set_cons_zero, List.set_cons_succ, i64_w, i32_w]
              rfl
            refine pure_ (i := 6) (N := some 147) (v := ?_) (a' := ?_) #[true, true, true, false, true, true, true, false, false] rfl rfl (by kernel_rfl) (fun _ _ _ h => h) (Or.inl ⟨by rfl, ?_⟩) ?_ ?_
            rotate_left
            · intro w'
              go_simp
              with_reducible rfl
            rotate_left
            · simp only [Act.put, List.setIfInBounds_toArray, List.set_cons_zero, List.set_cons_succ, i64_w, i32_w]
              rfl
            refine take_ (i := 3) (N := some 144) (v := ?_) (a' := ?_) #[true, true, true, true, true, true, true, false, false] rfl rfl (by kernel_rfl) (fun _ _ _ h => h) (Or.inl ⟨by rfl, ?_⟩) hHeld ?_ ?_
            rotate_left
            · rintro w' ⟨s0, s1⟩
              go_simp
              with_reducible rfl
            rotate_left
            · simp only [Act.put, List.setIfInBounds_toArray, List.set_cons_zero, List.set_cons_succ, i64_w, i32_w]
              rfl
            refine take_ (i := 7) (N := some 148) (v := ?_) (a' := ?_) #[true, true, true, true, true, true, true, true, false] rfl rfl (by kernel_rfl) (fun _ _ _ h => h) (Or.inl ⟨by rfl, ?_⟩) hHeld ?_ ?_
            rotate_left
            · rintro w' ⟨s0, s1⟩
              go_simp
              with_reducible rfl
            rotate_left
            · simp only [Act.put, List.setIfInBounds_toArray, List.set_cons_zero, List.set_cons_succ, i64_w, i32_w]
              rfl
            refine pure_ (i := 8) (N := some 149) (v := ?_) (a' := ?_) #[true, true, true, true, true, true, true, true, true] rfl rfl (by kernel_rfl) (fun _ _ _ h => h) (Or.inl ⟨by rfl, ?_⟩) ?_ ?_
            rotate_left
            · intro w'
              go_simp
              with_reducible rfl
            rotate_left
            · simp only [Act.put, List.setIfInBounds_toArray, List.set_cons_zero, List.set_cons_succ, i64_w, i32_w]
              rfl
            refine done_ (by kernel_rfl) ?_
            go_wp2_with fail
            go_roundg ki
            case rel => exact ⟨i + 1, by first | rfl | rw [wj], ⟨by have := HJ.out; omega⟩, ⟨below_drew B2900.out⟩, ⟨Kd.R_drew P_2900.out⟩, ⟨Kd.R_drew Q_2900.out⟩⟩
            case measure => exact Nat.lt_succ_self _
          · have f0 : decide ((i : Int) < (xs.length : Int)) = false := decide_eq_false (by omega)
            have f1 := eq_false hj
            go_wp2_with fail
            go_ret
            exact ⟨rfl, B2900.out⟩
      | false =>
        simp only [if_pos, if_neg, Bool.false_eq_true, if_true, if_false]
        go_wp2_with (first
          | ((with_reducible refine wpSt 51 (.tmp 12) (.tmp 96) ?_); refine store_whole (w := w) (B := w.heap.size) rfl rfl 51 (.tmp 12) (.tmp 96) rfl (g := w4.heap.size) (cs := TV zero64) rfl _ rfl rfl (tot51 _ (by first | assumption | (simp [zero64]; done))) (TV_one _) X_1914.out (by first | (simp [TV_size, zero64]; done) | (simp [TV_size, zero64]; omega) | (rw [TV_size, TV_size]; simp [zero64]; omega)) L_X.out B1915.out ?_; intro w_1916 h1 h2 h3 h4; have A_1917 := Aside0.mk ((h3 _ NE_A_X.out).trans A_1908.out); have B_1918 := Aside0.mk ((h3 _ NE_B_X.out).trans B_1909.out); have U_1919 := Aside0.mk ((h3 _ NE_U_X.out).trans U_1910.out); have V_1920 := Aside0.mk ((h3 _ NE_V_X.out).trans V_1911.out); have S_1921 := Aside0.mk ((h3 _ NE_S_X.out).trans S_1912.out); have D_1922 := Aside0.mk ((h3 _ NE_D_X.out).trans D_1913.out); have X_1923 := Aside0.mk (h1); have B1924 := Aside0.mk (h2); clear h1 h2 h3 h4 A_1908 B_1909 U_1910 V_1911 S_1912 D_1913 X_1914 B1915)
          | ((with_reducible refine wpSt 56 (.tmp 8) (.tmp 100) ?_); refine store_whole (w := w) (B := w.heap.size) rfl rfl 56 (.tmp 8) (.tmp 100) rfl (g := w_40.heap.size) (cs := TV zero64) rfl _ rfl rfl (tot56 _ (by first | assumption | (simp [zero64]; done))) (TV_one _) D_1922.out (by first | (simp [TV_size, zero64]; done) | (simp [TV_size, zero64]; omega) | (rw [TV_size, TV_size]; simp [zero64]; omega)) L_D.out B1924.out ?_; intro w_1925 h1 h2 h3 h4; have A_1926 := Aside0.mk ((h3 _ NE_A_D.out).trans A_1917.out); have B_1927 := Aside0.mk ((h3 _ NE_B_D.out).trans B_1918.out); have U_1928 := Aside0.mk ((h3 _ NE_U_D.out).trans U_1919.out); have V_1929 := Aside0.mk ((h3 _ NE_V_D.out).trans V_1920.out); have S_1930 := Aside0.mk ((h3 _ NE_S_D.out).trans S_1921.out); have D_1931 := Aside0.mk (h1); have X_1932 := Aside0.mk ((h3 _ (Ne.symm NE_D_X.out)).trans X_1923.out); have B1933 := Aside0.mk (h2); clear h1 h2 h3 h4 A_1917 B_1918 U_1919 V_1920 S_1921 D_1922 X_1923 B1924)
          | ((with_reducible refine wpLd 51 (.tmp 2) ?_); refine wpList_load_row_g (by rfl) 51 (.tmp 2) rfl (w.heap.size) rfl 51 (TV a) (0, 0) _ A_1926.out Tryd.underlying51 rfl (info51 _ (by first | assumption | (simp; done))) ?_))
        obtain ⟨xs, exs⟩ : ∃ xs, linesU a 9 = xs := ⟨_, rfl⟩
        have hxl := linesU_len a 9
        have hL1 := lines_T a w_1925 hla HIA.out (HT.out.below B1933.out)
        have hL2 := refLines_T a
        rw [exs] at hL1 hL2 hxl
        have HXL := Aside0.mk hxl
        clear exs hxl
        refine (hL1).mono ?_
        rintro e_ w8 ⟨v7, rfl, hR, hb⟩
        have A_1934 := Aside0.mk (blk_below A_1926.out hb)
        have B_1935 := Aside0.mk (blk_below B_1927.out hb)
        have U_1936 := Aside0.mk (blk_below U_1928.out hb)
        have V_1937 := Aside0.mk (blk_below V_1929.out hb)
        have S_1938 := Aside0.mk (blk_below S_1930.out hb)
        have D_1939 := Aside0.mk (blk_below D_1931.out hb)
        have X_1940 := Aside0.mk (blk_below X_1932.out hb)
        obtain ⟨AP, cP, rfl, hcP, -⟩ := Kd.R_reads hR
        have P_777 := Aside0.mk (Kd.R_lower hR (B1933.out.size))
        clear hR hcP
        have B1941 := Aside0.mk (below_step B1933.out hb)
        clear hb A_1926 B_1927 U_1928 V_1929 S_1930 D_1931 X_1932 B1933
        clear hL1
        go_wp2_with (first
          | ((with_reducible refine wpLd 56 (.tmp 5) ?_); refine wpList_load_row_g (by rfl) 56 (.tmp 5) rfl (w2.heap.size) rfl 56 (TV a) (0, 0) _ U_1936.out Tryd.underlying56 rfl (info56 _ (by first | assumption | (simp; done))) ?_))
        refine (hL2 _ hla HIA.out).mono ?_
        rintro e_ w9 ⟨v8, rfl, hR, hb⟩
        have A_1942 := Aside0.mk (blk_below A_1934.out hb)
        have B_1943 := Aside0.mk (blk_below B_1935.out hb)
        have U_1944 := Aside0.mk (blk_below U_1936.out hb)
        have V_1945 := Aside0.mk (blk_below V_1937.out hb)
        have S_1946 := Aside0.mk (blk_below S_1938.out hb)
        have D_1947 := Aside0.mk (blk_below D_1939.out hb)
        have X_1948 := Aside0.mk (blk_below X_1940.out hb)
        have P_1949 := Aside0.mk (Kd.R_below P_777.out hb)
        obtain ⟨AQ, cQ, rfl, hcQ, -⟩ := Kd.R_reads hR
        have Q_777 := Aside0.mk (Kd.R_lower hR (B1941.out.size))
        clear hR hcQ
        have B1950 := Aside0.mk (below_step B1941.out hb)
        clear hb A_1934 B_1935 U_1936 V_1937 S_1938 D_1939 X_1940 P_777 B1941
        clear hL2
        go_wp2_with fail
        refine start_ (n := 30) (S := fun w' => w'.heap[w.heap.size]? = some (.cells (TV a) 51 (0, 0)) ∧ w'.heap[w.heap.size + 1]? = some (.cells (TV b) 51 (0, 0)) ∧ w'.heap[w_28.heap.size]? = some (.cells (TV s) 56 (0, 0)) ∧ w'.heap[w4.heap.size]? = some (.cells (TV zero64) 51 (0, 0)) ∧ w'.heap[w_40.heap.size]? = some (.cells (TV zero64) 56 (0, 0))) (ds := []) #[false, false, false, false, false, false, false, false, false, false, false, false, false, false, false, false, false, false, false, false, false, false, false, false, false, false, false, false, false, false] (by kernel_rfl) rfl rfl ⟨(blk_drew A_1942.out), (blk_drew B_1943.out), (blk_drew S_1946.out), (blk_drew X_1948.out), (blk_drew D_1947.out)⟩ (fun hHeld => ?_)
        refine take_ (i := 0) (N := some 105) (v := ?_) (a' := ?_) #[true, false, false, false, false, false, false, false, false, false, false, false, false, false, false, false, false, false, false, false, false, false, false, false, false, false, false, false, false, false] rfl rfl (by kernel_rfl) (fun _ _ _ h => h) (Or.inl ⟨by rfl, ?_⟩) hHeld ?_ ?_
        rotate_left
        · rintro w' ⟨s0, s1, s2, s3, s4⟩
          refine exec_load_row 51 (.tmp 2) ?_ _ ?_ 51 (TV a) (0, 0) _ s0 Tryd.underlying51 rfl (info51 _ (by first | assumption | (simp; done))) <;> rfl
        rotate_left
        · simp only [Act.put, List.setIfInBounds_toArray, List.set_cons_zero, List.set_cons_succ, i64_w, i32_w]
          rfl
        refine take_ (i := 1) (N := some 106) (v := ?_) (a' := ?_) #[true, true, false, false, false, false, false, false, false, false, false, false, false, false, false, false, false, false, false, false, false, false, false, false, false, false, false, false, false, false] rfl rfl (by kernel_rfl) (fun _ _ _ h => h) (Or.inl ⟨by rfl, ?_⟩) hHeld ?_ ?_
        rotate_left
        · rintro w' ⟨s0, s1, s2, s3, s4⟩
          refine exec_load_row 51 (.tmp 3) ?_ _ ?_ 51 (TV b) (0, 0) _ s1 Tryd.underlying51 rfl (info51 _ (by first | assumption | (simp; done))) <;> rfl
        rotate_left
        · simp only [Act.put, List.setIfInBounds_toArray, List.set_cons_zero, List.set_cons_succ, i64_w, i32_w]
          rfl
        refine take_ (i := 5) (N := some 110) (v := ?_) (a' := ?_) #[true, true, false, false, false, true, false, false, false, false, false, false, false, false, false, false, false, false, false, false, false, false, false, false, false, false, false, false, false, false] rfl rfl (by kernel_rfl) (fun _ _ _ h => h) (Or.inl ⟨by rfl, ?_⟩) hHeld ?_ ?_
        rotate_left
        · rintro w' ⟨s0, s1, s2, s3, s4⟩
          refine exec_load_row 56 (.tmp 7) ?_ _ ?_ 56 (TV s) (0, 0) _ s2 Tryd.underlying56 rfl (info56 _ (by first | assumption | (simp; done))) <;> rfl
        rotate_left
        · simp only [Act.put, List.setIfInBounds_toArray, List.set_cons_zero, List.set_cons_succ, i64_w, i32_w]
          rfl
        refine one_ (i := 2) (N := some 107) #[true, true, true, false, false, true, false, false, false, false, false, false, false, false, false, false, false, false, false, false, false, false, false, false, false, false, false, false, false, false] rfl rfl (by kernel_rfl) (by decide) (fun K hK => ?_)
        refine two_step ?hw (cs := TV (a ++ b)) (t := 51) ?hr ?_; (case hw => rfl); (case hr => exact exec_two (.tmp 105) (.tmp 106) rfl a b rfl rfl hla hlb)
        intro gQ hgQ wq hq hb
        have A_1951 := Aside0.mk (blk_below (blk_drew A_1942.out) hb)
        have B_1952 := Aside0.mk (blk_below (blk_drew B_1943.out) hb)
        have U_1953 := Aside0.mk (blk_below (blk_drew U_1944.out) hb)
        have V_1954 := Aside0.mk (blk_below (blk_drew V_1945.out) hb)
        have S_1955 := Aside0.mk (blk_below (blk_drew S_1946.out) hb)
        have D_1956 := Aside0.mk (blk_below (blk_drew D_1947.out) hb)
        have X_1957 := Aside0.mk (blk_below (blk_drew X_1948.out) hb)
        have P_1958 := Aside0.mk (Kd.R_below (Kd.R_drew P_1949.out) hb)
        have Q_1959 := Aside0.mk (Kd.R_below (Kd.R_drew Q_777.out) hb)
        have B1960 := Aside0.mk (below_step (below_drew B1950.out) hb)
        have HQ := Aside0.mk hq
        clear hb hq hgQ A_1942 B_1943 U_1944 V_1945 S_1946 D_1947 X_1948 P_1949 Q_777 B1950
        refine hK.out _ _ ⟨A_1951.out, B_1952.out, S_1955.out, X_1957.out, D_1956.out⟩ (fun hHeld => ?_)
        clear hK K
        refine norm_ (a' := ?_) ?_ ?_
        rotate_left
        · show Act.put _ (some 107) _ = _
          simp only [Act.put, List.setIfInBounds_toArray, List.set_cons_zero, List.set_cons_succ, i64_w, i32_w]
          rfl
        refine one_ (i := 3) (N := some 108) #[true, true, true, true, false, true, false, false, false, false, false, false, false, false, false, false, false, false, false, false, false, false, false, false, false, false, false, false, false, false] rfl rfl (by kernel_rfl) (by decide) (fun K hK => ?_)
        refine goes_ Tryd.func37 (by kernel_rfl) rfl #[.slice (some ⟨gQ, 0, none⟩) 2 2] (by rfl) rfl rfl (by simp only [List.map_toArray, List.map_cons, List.map_nil]; rfl) ?_
        with_reducible refine (sum2_T a b gQ 2 _ hla hlb HQ.out).mono ?_
        rintro e_ wa ⟨rfl, hb⟩
        rw [HSUM.out]
        refine ⟨_, rfl, ?_⟩
        have A_1961 := Aside0.mk (blk_below A_1951.out hb)
        have B_1962 := Aside0.mk (blk_below B_1952.out hb)
        have U_1963 := Aside0.mk (blk_below U_1953.out hb)
        have V_1964 := Aside0.mk (blk_below V_1954.out hb)
        have S_1965 := Aside0.mk (blk_below S_1955.out hb)
        have D_1966 := Aside0.mk (blk_below D_1956.out hb)
        have X_1967 := Aside0.mk (blk_below X_1957.out hb)
        have P_1968 := Aside0.mk (Kd.R_below P_1958.out hb)
        have Q_1969 := Aside0.mk (Kd.R_below Q_1959.out hb)
        have B1970 := Aside0.mk (below_step B1960.out hb)
        clear hb A_1951 B_1952 U_1953 V_1954 S_1955 D_1956 X_1957 P_1958 Q_1959 B1960
        refine hK.out _ _ ⟨A_1961.out, B_1962.out, S_1965.out, X_1967.out, D_1966.out⟩ (fun hHeld => ?_)
        clear hK K
        refine norm_ (a' := ?_) ?_ ?_
        rotate_left
        · show Act.put _ (some 108) _ = _
          simp only [Act.put, List.setIfInBounds_toArray, List.set_cons_zero, List.set_cons_succ, i64_w, i32_w]
          rfl
        refine one_ (i := 4) (N := some 109) #[true, true, true, true, true, true, false, false, false, false, false, false, false, false, false, false, false, false, false, false, false, false, false, false, false, false, false, false, false, false] rfl rfl (by kernel_rfl) (by decide) (fun K hK => ?_)
        refine goes_ Tryd.func31 (by kernel_rfl) rfl #[.agg (TV s)] (by rfl) rfl rfl (by simp only [List.map_toArray, List.map_cons, List.map_nil]; rfl) ?_
        with_reducible refine (form_T s _ hls).mono ?_
        rintro e_ wb ⟨rfl, hb⟩
        refine ⟨_, rfl, ?_⟩
        have A_1971 := Aside0.mk (blk_below A_1961.out hb)
        have B_1972 := Aside0.mk (blk_below B_1962.out hb)
        have U_1973 := Aside0.mk (blk_below U_1963.out hb)
        have V_1974 := Aside0.mk (blk_below V_1964.out hb)
        have S_1975 := Aside0.mk (blk_below S_1965.out hb)
        have D_1976 := Aside0.mk (blk_below D_1966.out hb)
        have X_1977 := Aside0.mk (blk_below X_1967.out hb)
        have P_1978 := Aside0.mk (Kd.R_below P_1968.out hb)
        have Q_1979 := Aside0.mk (Kd.R_below Q_1969.out hb)
        have B1980 := Aside0.mk (below_step B1970.out hb)
        clear hb A_1961 B_1962 U_1963 V_1964 S_1965 D_1966 X_1967 P_1968 Q_1969 B1970
        refine hK.out _ _ ⟨A_1971.out, B_1972.out, S_1975.out, X_1977.out, D_1976.out⟩ (fun hHeld => ?_)
        clear hK K
        refine norm_ (a' := ?_) ?_ ?_
        rotate_left
        · show Act.put _ (some 109) _ = _
          simp only [Act.put, List.setIfInBounds_toArray, List.set_cons_zero, List.set_cons_succ, i64_w, i32_w]
          rfl
        refine pure_ (i := 6) (N := some 111) (v := ?_) (a' := ?_) #[true, true, true, true, true, true, true, false, false, false, false, false, false, false, false, false, false, false, false, false, false, false, false, false, false, false, false, false, false, false] rfl rfl (by kernel_rfl) (fun _ _ _ h => h) (Or.inl ⟨by rfl, ?_⟩) ?_ ?_
        rotate_left
        · intro w'
          refine exec_ne56s (.tmp 109) (.tmp 110) ?_ s ?_ ?_ hls <;> rfl
        rotate_left
        · simp only [Act.put, List.setIfInBounds_toArray, List.set_cons_zero, List.set_cons_succ, i64_w, i32_w]
          rfl
        refine pure_ (i := 7) (N := some 112) (v := ?_) (a' := ?_) #[true, true, true, true, true, true, true, true, false, false, false, false, false, false, false, false, false, false, false, false, false, false, false, false, false, false, false, false, false, false] rfl rfl (by kernel_rfl) (fun _ _ _ h => h) (Or.inl ⟨by rfl, ?_⟩) ?_ ?_
        rotate_left
        · intro w'
          go_simp
          with_reducible rfl
        rotate_left
        · simp only [Act.put, List.setIfInBounds_toArray, List.set_cons_zero, List.set_cons_succ, i64_w, i32_w]
          rfl
        refine take_ (i := 8) (N := some 113) (v := ?_) (a' := ?_) #[true, true, true, true, true, true, true, true, true, false, false, false, false, false, false, false, false, false, false, false, false, false, false, false, false, false, false, false, false, false] rfl rfl (by kernel_rfl) (fun _ _ _ h => h) (Or.inl ⟨by rfl, ?_⟩) hHeld ?_ ?_
        rotate_left
        · rintro w' ⟨s0, s1, s2, s3, s4⟩
          refine exec_load_row 51 (.tmp 12) ?_ _ ?_ 51 (TV zero64) (0, 0) _ s3 Tryd.underlying51 rfl (info51 _ (by first | assumption | (simp; done))) <;> rfl
        rotate_left
        · simp only [Act.put, List.setIfInBounds_toArray, List.set_cons_zero, List.set_cons_succ, i64_w, i32_w]
          rfl
        refine take_ (i := 10) (N := some 115) (v := ?_) (a' := ?_) #[true, true, true, true, true, true, true, true, true, false, true, false, false, false, false, false, false, false, false, false, false, false, false, false, false, false, false, false, false, false] rfl rfl (by kernel_rfl) (fun _ _ _ h => h) (Or.inl ⟨by rfl, ?_⟩) hHeld ?_ ?_
        rotate_left
        · rintro w' ⟨s0, s1, s2, s3, s4⟩
          refine exec_load_row 56 (.tmp 8) ?_ _ ?_ 56 (TV zero64) (0, 0) _ s4 Tryd.underlying56 rfl (info56 _ (by first | assumption | (simp; done))) <;> rfl
        rotate_left
        · simp only [Act.put, List.setIfInBounds_toArray, List.set_cons_zero, List.set_cons_succ, i64_w, i32_w]
          rfl
        refine one_ (i := 9) (N := some 114) #[true, true, true, true, true, true, true, true, true, true, true, false, false, false, false, false, false, false, false, false, false, false, false, false, false, false, false, false, false, false] rfl rfl (by kernel_rfl) (by decide) (fun K hK => ?_)
        refine goes_ Tryd.func31 (by kernel_rfl) rfl #[.agg (TV zero64)] (by rfl) rfl rfl (by simp only [List.map_toArray, List.map_cons, List.map_nil]; rfl) ?_
        with_reducible refine (form_T zero64 _ hz64).mono ?_
        rintro e_ wc ⟨rfl, hb⟩
        refine ⟨_, rfl, ?_⟩
        have A_1981 := Aside0.mk (blk_below A_1971.out hb)
        have B_1982 := Aside0.mk (blk_below B_1972.out hb)
        have U_1983 := Aside0.mk (blk_below U_1973.out hb)
        have V_1984 := Aside0.mk (blk_below V_1974.out hb)
        have S_1985 := Aside0.mk (blk_below S_1975.out hb)
        have D_1986 := Aside0.mk (blk_below D_1976.out hb)
        have X_1987 := Aside0.mk (blk_below X_1977.out hb)
        have P_1988 := Aside0.mk (Kd.R_below P_1978.out hb)
        have Q_1989 := Aside0.mk (Kd.R_below Q_1979.out hb)
        have B1990 := Aside0.mk (below_step B1980.out hb)
        clear hb A_1971 B_1972 U_1973 V_1974 S_1975 D_1976 X_1977 P_1978 Q_1979 B1980
        refine hK.out _ _ ⟨A_1981.out, B_1982.out, S_1985.out, X_1987.out, D_1986.out⟩ (fun hHeld => ?_)
        clear hK K
        refine norm_ (a' := ?_) ?_ ?_
        rotate_left
        · show Act.put _ (some 114) _ = _
          simp only [Act.put, List.setIfInBounds_toArray, List.set_cons_zero, List.set_cons_succ, i64_w, i32_w]
          rfl
        refine pure_ (i := 11) (N := some 116) (v := ?_) (a' := ?_) #[true, true, true, true, true, true, true, true, true, true, true, true, false, false, false, false, false, false, false, false, false, false, false, false, false, false, false, false, false, false] rfl rfl (by kernel_rfl) (fun _ _ _ h => h) (Or.inl ⟨by rfl, ?_⟩) ?_ ?_
        rotate_left
        · intro w'
          refine exec_ne56s (.tmp 114) (.tmp 115) ?_ zero64 ?_ ?_ hz64 <;> rfl
        rotate_left
        · simp only [Act.put, List.setIfInBounds_toArray, List.set_cons_zero, List.set_cons_succ, i64_w, i32_w]
          rfl
        refine pure_ (i := 12) (N := some 117) (v := ?_) (a' := ?_) #[true, true, true, true, true, true, true, true, true, true, true, true, true, false, false, false, false, false, false, false, false, false, false, false, false, false, false, false, false, false] rfl rfl (by kernel_rfl) (fun _ _ _ h => h) (Or.inl ⟨by rfl, ?_⟩) ?_ ?_
        rotate_left
        · intro w'
          go_simp
          with_reducible rfl
        rotate_left
        · simp only [Act.put, List.setIfInBounds_toArray, List.set_cons_zero, List.set_cons_succ, i64_w, i32_w]
          rfl
        refine pure_ (i := 13) (N := some 118) (v := ?_) (a' := ?_) #[true, true, true, true, true, true, true, true, true, true, true, true, true, true, false, false, false, false, false, false, false, false, false, false, false, false, false, false, false, false] rfl rfl (by kernel_rfl) (fun _ _ _ h => h) (Or.inl ⟨by rfl, ?_⟩) ?_ ?_
        rotate_left
        · intro w'
          go_simp
          with_reducible rfl
        rotate_left
        · simp only [Act.put, List.setIfInBounds_toArray, List.set_cons_zero, List.set_cons_succ, i64_w, i32_w]
          rfl
        refine pure_ (i := 14) (N := some 119) (v := ?_) (a' := ?_) #[true, true, true, true, true, true, true, true, true, true, true, true, true, true, true, false, false, false, false, false, false, false, false, false, false, false, false, false, false, false] rfl rfl (by kernel_rfl) (fun _ _ _ h => h) (Or.inl ⟨by rfl, ?_⟩) ?_ ?_
        rotate_left
        · intro w'
          go_simp
          with_reducible rfl
        rotate_left
        · simp only [Act.put, List.setIfInBounds_toArray, List.set_cons_zero, List.set_cons_succ, i64_w, i32_w]
          rfl
        refine pure_ (i := 15) (N := some 120) (v := ?_) (a' := ?_) #[true, true, true, true, true, true, true, true, true, true, true, true, true, true, true, true, false, false, false, false, false, false, false, false, false, false, false, false, false, false] rfl rfl (by kernel_rfl) (fun _ _ _ h => h) (Or.inl ⟨by rfl, ?_⟩) ?_ ?_
        rotate_left
        · intro w'
          go_simp
          with_reducible rfl
        rotate_left
        · simp only [Act.put, List.setIfInBounds_toArray, List.set_cons_zero, List.set_cons_succ, i64_w, i32_w]
          rfl
        refine pure_ (i := 16) (N := some 121) (v := ?_) (a' := ?_) #[true, true, true, true, true, true, true, true, true, true, true, true, true, true, true, true, true, false, false, false, false, false, false, false, false, false, false, false, false, false] rfl rfl (by kernel_rfl) (fun _ _ _ h => h) (Or.inl ⟨by rfl, ?_⟩) ?_ ?_
        rotate_left
        · intro w'
          go_simp
          with_reducible rfl
        rotate_left
        · simp only [Act.put, List.setIfInBounds_toArray, List.set_cons_zero, List.set_cons_succ, i64_w, i32_w]
          rfl
        refine pure_ (i := 17) (N := some 122) (v := ?_) (a' := ?_) #[true, true, true, true, true, true, true, true, true, true, true, true, true, true, true, true, true, true, false, false, false, false, false, false, false, false, false, false, false, false] rfl rfl (by kernel_rfl) (fun _ _ _ h => h) (Or.inl ⟨by rfl, ?_⟩) ?_ ?_
        rotate_left
        · intro w'
          go_simp
          with_reducible rfl
        rotate_left
        · simp only [Act.put, List.setIfInBounds_toArray, List.set_cons_zero, List.set_cons_succ, i64_w, i32_w]
          rfl
        refine pure_ (i := 18) (N := some 123) (v := ?_) (a' := ?_) #[true, true, true, true, true, true, true, true, true, true, true, true, true, true, true, true, true, true, true, false, false, false, false, false, false, false, false, false, false, false] rfl rfl (by kernel_rfl) (fun _ _ _ h => h) (Or.inl ⟨by rfl, ?_⟩) ?_ ?_
        rotate_left
        · intro w'
          go_simp
          with_reducible rfl
        rotate_left
        · simp only [Act.put, List.setIfInBounds_toArray, List.set_cons_zero, List.set_cons_succ, i64_w, i32_w]
          rfl
        refine pure_ (i := 19) (N := some 124) (v := ?_) (a' := ?_) #[true, true, true, true, true, true, true, true, true, true, true, true, true, true, true, true, true, true, true, true, false, false, false, false, false, false, false, false, false, false] rfl rfl (by kernel_rfl) (fun _ _ _ h => h) (Or.inl ⟨by rfl, ?_⟩) ?_ ?_
        rotate_left
        · intro w'
          go_simp
          with_reducible rfl
        rotate_left
        · simp only [Act.put, List.setIfInBounds_toArray, List.set_cons_zero, List.set_cons_succ, i64_w, i32_w]
          rfl
        refine pure_ (i := 20) (N := some 125) (v := ?_) (a' := ?_) #[true, true, true, true, true, true, true, true, true, true, true, true, true, true, true, true, true, true, true, true, true, false, false, false, false, false, false, false, false, false] rfl rfl (by kernel_rfl) (fun _ _ _ h => h) (Or.inl ⟨by rfl, ?_⟩) ?_ ?_
        rotate_left
        · intro w'
          go_simp
          with_reducible rfl
        rotate_left
        · simp only [Act.put, List.setIfInBounds_toArray, List.set_cons_zero, List.set_cons_succ, i64_w, i32_w]
          rfl
        refine pure_ (i := 21) (N := some 126) (v := ?_) (a' := ?_) #[true, true, true, true, true, true, true, true, true, true, true, true, true, true, true, true, true, true, true, true, true, true, false, false, false, false, false, false, false, false] rfl rfl (by kernel_rfl) (fun _ _ _ h => h) (Or.inl ⟨by rfl, ?_⟩) ?_ ?_
        rotate_left
        · intro w'
          go_simp
          with_reducible rfl
        rotate_left
        · simp only [Act.put, List.setIfInBounds_toArray, List.set_cons_zero, List.set_cons_succ, i64_w, i32_w]
          rfl
        refine pure_ (i := 22) (N := some 127) (v := ?_) (a' := ?_) #[true, true, true, true, true, true, true, true, true, true, true, true, true, true, true, true, true, true, true, true, true, true, true, false, false, false, false, false, false, false] rfl rfl (by kernel_rfl) (fun _ _ _ h => h) (Or.inl ⟨by rfl, ?_⟩) ?_ ?_
        rotate_left
        · intro w'
          go_simp
          with_reducible rfl
        rotate_left
        · simp only [Act.put, List.setIfInBounds_toArray, List.set_cons_zero, List.set_cons_succ, i64_w, i32_w]
          rfl
        refine pure_ (i := 23) (N := some 128) (v := ?_) (a' := ?_) #[true, true, true, true, true, true, true, true, true, true, true, true, true, true, true, true, true, true, true, true, true, true, true, true, false, false, false, false, false, false] rfl rfl (by kernel_rfl) (fun _ _ _ h => h) (Or.inl ⟨by rfl, ?_⟩) ?_ ?_
        rotate_left
        · intro w'
          go_simp
          with_reducible rfl
        rotate_left
        · simp only [Act.put, List.setIfInBounds_toArray, List.set_cons_zero, List.set_cons_succ, i64_w, i32_w]
          rfl
        refine pure_ (i := 24) (N := some 129) (v := ?_) (a' := ?_) #[true, true, true, true, true, true, true, true, true, true, true, true, true, true, true, true, true, true, true, true, true, true, true, true, true, false, false, false, false, false] rfl rfl (by kernel_rfl) (fun _ _ _ h => h) (Or.inl ⟨by rfl, ?_⟩) ?_ ?_
        rotate_left
        · intro w'
          go_simp
          with_reducible rfl
        rotate_left
        · simp only [Act.put, List.setIfInBounds_toArray, List.set_cons_zero, List.set_cons_succ, i64_w, i32_w]
          rfl
        refine pure_ (i := 25) (N := some 130) (v := ?_) (a' := ?_) #[true, true, true, true, true, true, true, true, true, true, true, true, true, true, true, true, true, true, true, true, true, true, true, true, true, true, false, false, false, false] rfl rfl (by kernel_rfl) (fun _ _ _ h => h) (Or.inl ⟨by rfl, ?_⟩) ?_ ?_
        rotate_left
        · intro w'
          go_simp
          with_reducible rfl
        rotate_left
        · simp only [Act.put, List.setIfInBounds_toArray, List.set_cons_zero, List.set_cons_succ, i64_w, i32_w]
          rfl
        refine pure_ (i := 27) (N := some 132) (v := ?_) (a' := ?_) #[true, true, true, true, true, true, true, true, true, true, true, true, true, true, true, true, true, true, true, true, true, true, true, true, true, true, false, true, false, false] rfl rfl (by kernel_rfl) (fun _ _ _ h => h) (Or.inl ⟨by rfl, ?_⟩) ?_ ?_
        rotate_left
        · intro w'
          go_simp
          with_reducible rfl
        rotate_left
        · simp only [Act.put, List.setIfInBounds_toArray, List.set_cons_zero, List.set_cons_succ, i64_w, i32_w]
          rfl
        refine one_ (i := 26) (N := some 131) #[true, true, true, true, true, true, true, true, true, true, true, true, true, true, true, true, true, true, true, true, true, true, true, true, true, true, true, true, false, false] rfl rfl (by kernel_rfl) (by decide) (fun K hK => ?_)
        refine goes_ Tryd.func37 (by kernel_rfl) rfl #[.slice none 0 0] (by rfl) rfl rfl (by simp only [List.map_toArray, List.map_cons, List.map_nil]; rfl) ?_
        with_reducible refine (sum0_T _).mono ?_
        rintro e_ wd ⟨rfl, hb⟩
        refine ⟨_, rfl, ?_⟩
        have A_1991 := Aside0.mk (blk_below A_1981.out hb)
        have B_1992 := Aside0.mk (blk_below B_1982.out hb)
        have U_1993 := Aside0.mk (blk_below U_1983.out hb)
        have V_1994 := Aside0.mk (blk_below V_1984.out hb)
        have S_1995 := Aside0.mk (blk_below S_1985.out hb)
        have D_1996 := Aside0.mk (blk_below D_1986.out hb)
        have X_1997 := Aside0.mk (blk_below X_1987.out hb)
        have P_1998 := Aside0.mk (Kd.R_below P_1988.out hb)
        have Q_1999 := Aside0.mk (Kd.R_below Q_1989.out hb)
        have B2000 := Aside0.mk (below_step B1990.out hb)
        clear hb A_1981 B_1982 U_1983 V_1984 S_1985 D_1986 X_1987 P_1988 Q_1989 B1990
        refine hK.out _ _ ⟨A_1991.out, B_1992.out, S_1995.out, X_1997.out, D_1996.out⟩ (fun hHeld => ?_)
        clear hK K
        refine norm_ (a' := ?_) ?_ ?_
        rotate_left
        · show Act.put _ (some 131) _ = _
          simp only [Act.put, List.setIfInBounds_toArray, List.set_cons_zero, List.set_cons_succ, i64_w, i32_w]
          rfl
        refine pure_ (i := 28) (N := some 133) (v := ?_) (a' := ?_) #[true, true, true, true, true, true, true, true, true, true, true, true, true, true, true, true, true, true, true, true, true, true, true, true, true, true, true, true, true, false] rfl rfl (by kernel_rfl) (fun _ _ _ h => h) (Or.inl ⟨by rfl, ?_⟩) ?_ ?_
        rotate_left
        · intro w'
          refine exec_ne51s (.tmp 131) (.tmp 132) ?_ zero64 ?_ ?_ hz64 <;> rfl
        rotate_left
        · simp only [Act.put, List.setIfInBounds_toArray, List.set_cons_zero, List.set_cons_succ, i64_w, i32_w]
          rfl
        refine pure_ (i := 29) (N := some 134) (v := ?_) (a' := ?_) #[true, true, true, true, true, true, true, true, true, true, true, true, true, true, true, true, true, true, true, true, true, true, true, true, true, true, true, true, true, true] rfl rfl (by kernel_rfl) (fun _ _ _ h => h) (Or.inl ⟨by rfl, ?_⟩) ?_ ?_
        rotate_left
        · intro w'
          go_simp
          with_reducible rfl
        rotate_left
        · simp only [Act.put, List.setIfInBounds_toArray, List.set_cons_zero, List.set_cons_succ, i64_w, i32_w]
          rfl
        refine done_ (by kernel_rfl) ?_
        go_wp2_with fail
        go_loopg [16] xs.length (fun kq v16 w' => ∃ (i : Nat), v16 = .int .i64 (i : Int) ∧ Aside0 (i + kq = xs.length) ∧ Aside0 (Below w.heap.size w w') ∧ Aside0 (Kd.R Kd.string 9 w' w.heap.size (fun _ => True) (.slice AP xs.length cP) (xs)) ∧ Aside0 (Kd.R Kd.string 9 w' w.heap.size (fun _ => True) (.slice AQ xs.length cQ) (xs)))
        case atStart => exact ⟨0, rfl, ⟨by omega⟩, ⟨B2000.out⟩, ⟨P_1998.out⟩, ⟨Q_1999.out⟩⟩
        case round =>
          clear B2000 P_1998 Q_1999 A_1991 B_1992 U_1993 V_1994 S_1995 D_1996 X_1997
          obtain ⟨i, rfl, HJ, B2900, P_2900, Q_2900⟩ := hrel
          by_cases hj : i < xs.length
          · have f0 : decide ((i : Int) < (xs.length : Int)) = true := decide_eq_true (by omega)
            have q2 := Aside0.mk hj
            obtain ⟨ki, rfl⟩ : ∃ m, gk = m + 1 := ⟨gk - 1, by have := HJ.out; omega⟩
            have r0 := eq_true (show (0 : Int) ≤ (i : Int) by omega)
            have r1 := eq_true (show (i : Int) < (xs.length : Int) by omega)
            have r2 := eq_true hj
            have wj : wrap64 ((i : Int) + 1) = ((i + 1 : Nat) : Int) := by have := q2.out; have := HXL.out; unfold wrap64; omega
            obtain ⟨pP, e_, -⟩ := at_s P_2900.out rfl i hj
            subst e_
            obtain ⟨pQ, e_, -⟩ := at_s Q_2900.out rfl i hj
            subst e_
            obtain ⟨x, hx⟩ : ∃ x, xs.getD i ⟨#[]⟩ = x := ⟨_, rfl⟩
            have cP_ := at_cell (Kd.R_drew P_2900.out) rfl i hj x hx
            have cQ_ := at_cell (Kd.R_drew Q_2900.out) rfl i hj x hx
            have CP := Aside0.mk cP_
            have CQ := Aside0.mk cQ_
            clear hj cP_ cQ_ hx
            go_wp2_with fail
            refine start_ (n := 9) (S := fun w' => w'.cell? (pP.add i) = some (.string x) ∧ w'.cell? (pQ.add i) = some (.string x)) (ds := []) #[false, false, false, false, false, false, false, false, false] (by kernel_rfl) rfl rfl ⟨CP.out, CQ.out⟩ (fun hHeld => ?_)
            refine pure_ (i := 0) (N := some 141) (v := ?_) (a' := ?_) #[true, false, false, false, false, false, false, false, false] rfl rfl (by kernel_rfl) (fun _ _ _ h => h) (Or.inl ⟨by rfl, ?_⟩) ?_ ?_
            rotate_left
            · intro w'
              go_simp
              with_reducible rfl
            rotate_left
            · simp only [Act.put, List.setIfInBounds_toArray, List.set_cons_zero, List.set_cons_succ, i64_w, i32_w]
              rfl
            refine pure_ (i := 1) (N := some 142) (v := ?_) (a' := ?_) #[true, true, false, false, false, false, false, false, false] rfl rfl (by kernel_rfl) (fun _ _ _ h => h) (Or.inl ⟨by rfl, ?_⟩) ?_ ?_
            rotate_left
            · intro w'
              go_simp
              with_reducible rfl
            rotate_left
            · simp only [Act.put, List.setIfInBounds_toArray, List.set_cons_zero, List.set_cons_succ, i64_w, i32_w]
              rfl
            refine pure_ (i := 2) (N := some 143) (v := ?_) (a' := ?_) #[true, true, true, false, false, false, false, false, false] rfl rfl (by kernel_rfl) (fun _ _ _ h => h) (Or.inl ⟨by rfl, ?_⟩) ?_ ?_
            rotate_left
            · intro w'
              go_simp
              with_reducible rfl
            rotate_left
            · simp only [Act.put, List.setIfInBounds_toArray, List.set_cons_zero, List.set_cons_succ, i64_w, i32_w]
              rfl
            refine pure_ (i := 4) (N := some 145) (v := ?_) (a' := ?_) #[true, true, true, false, true, false, false, false, false] rfl rfl (by kernel_rfl) (fun _ _ _ h => h) (Or.inl ⟨by rfl, ?_⟩) ?_ ?_
            rotate_left
            · intro w'
              go_simp
              with_reducible rfl
            rotate_left
            · simp only [Act.put, List.setIfInBounds_toArray, List.set_cons_zero, List.set_cons_succ, i64_w, i32_w]
              rfl
            refine pure_ (i := 5) (N := some 146) (v := ?_) (a' := ?_) #[true, true, true, false, true, true, false, false, false] rfl rfl (by kernel_rfl) (fun _ _ _ h => h) (Or.inl ⟨by rfl, ?_⟩) ?_ ?_
            rotate_left
            · intro w'
              go_simp
              with_reducible rfl
            rotate_left
            · simp only [Act.put, List.setIfInBounds_toArray, List.set_cons_zero, List.set_cons_succ, i64_w, i32_w]
              rfl
            refine pure_ (i := 6) (N := some 147) (v := ?_) (a' := ?_) #[true, true, true, false, true, true, true, false, false] rfl rfl (by kernel_rfl) (fun _ _ _ h => h) (Or.inl ⟨by rfl, ?_⟩) ?_ ?_
            rotate_left
            · intro w'
              go_simp
              with_reducible rfl
            rotate_left
            · simp only [Act.put, List.setIfInBounds_toArray, List.set_cons_zero, List.set_cons_succ, i64_w, i32_w]
              rfl
            refine take_ (i := 3) (N := some 144) (v := ?_) (a' := ?_) #[true, true, true, true, true, true, true, false, false] rfl rfl (by kernel_rfl) (fun _ _ _ h => h) (Or.inl ⟨by rfl, ?_⟩) hHeld ?_ ?_
            rotate_left
            · rintro w' ⟨s0, s1⟩
              go_simp
              with_reducible rfl
            rotate_left
            · simp only [Act.put, List.setIfInBounds_toArray, List.set_cons_zero, List.set_cons_succ, i64_w, i32_w]
              rfl
            refine take_ (i := 7) (N := some 148) (v := ?_) (a' := ?_) #[true, true, true, true, true, true, true, true, false] rfl rfl (by kernel_rfl) (fun _ _ _ h => h) (Or.inl ⟨by rfl, ?_⟩) hHeld ?_ ?_
            rotate_left
            · rintro w' ⟨s0, s1⟩
              go_simp
              with_reducible rfl
            rotate_left
            · simp only [Act.put, List.setIfInBounds_toArray, List.set_cons_zero, List.set_cons_succ, i64_w, i32_w]
              rfl
            refine pure_ (i := 8) (N := some 149) (v := ?_) (a' := ?_) #[true, true, true, true, true, true, true, true, true] rfl rfl (by kernel_rfl) (fun _ _ _ h => h) (Or.inl ⟨by rfl, ?_⟩) ?_ ?_
            rotate_left
            · intro w'
              go_simp
              with_reducible rfl
            rotate_left
            · simp only [Act.put, List.setIfInBounds_toArray, List.set_cons_zero, List.set_cons_succ, i64_w, i32_w]
              rfl
            refine done_ (by kernel_rfl) ?_
            go_wp2_with fail
            go_roundg ki
            case rel => exact ⟨i + 1, by first | rfl | rw [wj], ⟨by have := HJ.out; omega⟩, ⟨below_drew B2900.out⟩, ⟨Kd.R_drew P_2900.out⟩, ⟨Kd.R_drew Q_2900.out⟩⟩
            case measure => exact Nat.lt_succ_self _
          · have f0 : decide ((i : Int) < (xs.length : Int)) = false := decide_eq_false (by omega)
            have f1 := eq_false hj
            go_wp2_with fail
            go_ret
            exact ⟨rfl, B2900.out⟩
end Go.Proofs.YtcncndhoeiaoeaaDoor.PTallyExact

