/-
Sum.
-/
import Derived.Deep.MidRow
import Derived.Test.YtcncndhoeiaoeaaDoorTalD
namespace Go.Proofs.YtcncndhoeiaoeaaDoor.PTallyExact
open Go Go.RowKit Go.Proofs.YtcncndhoeiaoeaaDoorW.PrintWords Go.Proofs.YtcncndhoeiaoeaaDoorW.PrintLast Go.Proofs.YtcncndhoeiaoeaaDoorW.PrintMore
attribute [local go_sem] max2_int min2_int max_two min_two max_three min_three max_four min_four
set_option linter.unusedVariables false
set_option linter.unusedSimpArgs false
def addL (a b : List Int) : List Int := List.zipWith (fun x y => wrap64 (x + y)) a b
def addN (a b : List Int) (i : Nat) : List Int := (addL a b).take i ++ a.drop i
theorem addL_len {a b : List Int} (ha : a.length = 64) (hb : b.length = 64) : (addL a b).length = 64 := by simp [addL, ha, hb]
theorem addN_len {a b : List Int} (ha : a.length = 64) (hb : b.length = 64) (i : Nat) (hi : i ≤ 64) : (addN a b i).length = 64 := by
  have := addL_len ha hb
  simp [addN]; omega
theorem addN_0 (a b : List Int) : addN a b 0 = a := by simp [addN]
theorem addN_64 {a b : List Int} (ha : a.length = 64) (hb : b.length = 64) : addN a b 64 = addL a b := by
  unfold addN; rw [List.take_of_length_le (by rw [addL_len ha hb]; exact Nat.le_refl _), List.drop_eq_nil_of_le (by omega), List.append_nil]
theorem addN_at {a b : List Int} (ha : a.length = 64) (hb : b.length = 64) (i : Nat) (hi : i < 64) : (addN a b i).getD i 0 = a.getD i 0 := by
  have hl := addL_len ha hb
  unfold addN
  rw [List.getD_eq_getElem?_getD, List.getD_eq_getElem?_getD, List.getElem?_append_right (by simp; omega)]
  simp [hl]
  rw [show i - min i 64 = 0 by omega]
  rfl
theorem addN_step {a b : List Int} (ha : a.length = 64) (hb : b.length = 64) (i : Nat) (hi : i < 64) : (addN a b i).set i (wrap64 (a.getD i 0 + b.getD i 0)) = addN a b (i + 1) := by
  have hl := addL_len ha hb
  have hx : (addL a b)[i]'(by omega) = wrap64 (a.getD i 0 + b.getD i 0) := by
    simp [addL, List.getD_eq_getElem?_getD, ha, hb, hi]
  unfold addN
  rw [List.drop_eq_getElem_cons (by omega : i < a.length), List.set_append_right _ _ (by simp; omega)]
  rw [show i - ((addL a b).take i).length = 0 by simp; omega, List.set_cons_zero, List.take_succ_eq_append_getElem (by omega), hx, List.append_assoc]
  rfl
def sumV (ls : List (List Int)) : List Int := ls.foldl addL zero64
theorem sumV_take (ls : List (List Int)) (k : Nat) (h : k < ls.length) : sumV (ls.take (k + 1)) = addL (sumV (ls.take k)) (ls.getD k []) := by
  unfold sumV
  rw [List.take_succ_eq_append_getElem h, List.foldl_append, List.getD_eq_getElem?_getD, List.getElem?_eq_getElem h]
  rfl
theorem sumV_len {ls : List (List Int)} (h : ∀ l ∈ ls, l.length = 64) : (sumV ls).length = 64 := by
  unfold sumV
  have : ∀ (ls : List (List Int)) (a : List Int), a.length = 64 → (∀ l ∈ ls, l.length = 64) → (ls.foldl addL a).length = 64 := by
    intro ls
    induction ls with
    | nil => intro a ha _; exact ha
    | cons x r ih => intro a ha hr; exact ih _ (addL_len ha (hr x (by simp))) (fun l hl => hr l (by simp [hl]))
  exact this ls zero64 rfl h
theorem flat_get : ∀ (ls : List (List Int)) (k j : Nat), (∀ l ∈ ls, l.length = 64) → k < ls.length → j < 64 → ls.flatten[k * 64 + j]? = (ls.getD k [])[j]?
  | [], k, j, _, h, _ => by simp at h
  | x :: r, 0, j, hl, h, hj => by
    have := hl x (by simp)
    simp only [List.flatten_cons, Nat.zero_mul, Nat.zero_add]
    rw [List.getElem?_append_left (by omega)]
    rfl
  | x :: r, k + 1, j, hl, h, hj => by
    have hx := hl x (by simp)
    simp only [List.flatten_cons]
    rw [List.getElem?_append_right (by omega), show (k + 1) * 64 + j - x.length = k * 64 + j by omega, flat_get r k j (fun l h => hl l (by simp [h])) (by simpa using h) hj]
    rfl
theorem flat_range {W : World} {g e : Nat} {ls : List (List Int)} (hh : W.heap[g]? = some (.cells (TV ls.flatten) e (0, 0))) (hl : ∀ l ∈ ls, l.length = 64) (k : Nat) (hk : k < ls.length) : W.rangeAt g (k * 64) (TV (ls.getD k [])).toList := by
  intro j v hv
  have hlen : (ls.getD k []).length = 64 := by rw [List.getD_eq_getElem?_getD, List.getElem?_eq_getElem hk]; exact hl _ (List.getElem_mem hk)
  have hj : j < 64 := by have h1 := (List.getElem?_eq_some_iff.1 hv).1; rw [Array.length_toList, TV_size, hlen] at h1; exact h1
  have hv2 : ((ls.getD k []).map (fun x => Value.int .i64 x))[j]? = some v := hv
  rw [List.getElem?_map] at hv2
  rw [blk_cell hh]
  show ((ls.flatten).map (fun x => Value.int .i64 x)).toArray[k * 64 + j]? = some v
  simp only [List.getElem?_toArray, List.getElem?_map]
  rw [flat_get ls k j hl hk hj]
  exact hv2
set_option maxHeartbeats 16000000 in
set_option maxRecDepth 100000 in
theorem sum_T (ls : List (List Int)) (A0 : Option Addr) (c0 : Nat) (w : World) (hl : ∀ l ∈ ls, l.length = 64) (hn : ls.length < 4611686018427387904)
    (hA : ls = [] ∨ ∃ gL e, A0 = some ⟨gL, 0, none⟩ ∧ w.heap[gL]? = some (.cells (TV ls.flatten) e (0, 0))) :
    Calls Tryd.prog 37 #[.slice A0 ls.length c0] w fun e w' => e = .returned (.agg (TV (sumV ls))) ∧ Below w.heap.size w w' := by
  have hu51 := Tryd.underlying51
  have hu85 := Tryd.underlying85
  have hu87 := Tryd.underlying87
  have hu90 := Tryd.underlying90
  have HA := Aside0.mk hA
  have HLS := Aside0.mk hl
  have HN := Aside0.mk hn
  clear hA hl hn
  have L_X := Aside0.mk (show w.heap.size ≤ w.heap.size from Nat.le_refl _)
  have L_O := Aside0.mk (show w.heap.size ≤ w.heap.size + 1 from by have := L_X.out; omega)
  have NE_X_O := Aside0.mk (show w.heap.size ≠ w.heap.size + 1 by omega)
  have X_1 := Aside0.mk (blk_alloc (blk_new (w) (.cells #[.int .i64 0, .int .i64 0, .int .i64 0, .int .i64 0, .int .i64 0, .int .i64 0, .int .i64 0, .int .i64 0, .int .i64 0, .int .i64 0, .int .i64 0, .int .i64 0, .int .i64 0, .int .i64 0, .int .i64 0, .int .i64 0, .int .i64 0, .int .i64 0, .int .i64 0, .int .i64 0, .int .i64 0, .int .i64 0, .int .i64 0, .int .i64 0, .int .i64 0, .int .i64 0, .int .i64 0, .int .i64 0, .int .i64 0, .int .i64 0, .int .i64 0, .int .i64 0, .int .i64 0, .int .i64 0, .int .i64 0, .int .i64 0, .int .i64 0, .int .i64 0, .int .i64 0, .int .i64 0, .int .i64 0, .int .i64 0, .int .i64 0, .int .i64 0, .int .i64 0, .int .i64 0, .int .i64 0, .int .i64 0, .int .i64 0, .int .i64 0, .int .i64 0, .int .i64 0, .int .i64 0, .int .i64 0, .int .i64 0, .int .i64 0, .int .i64 0, .int .i64 0, .int .i64 0, .int .i64 0, .int .i64 0, .int .i64 0, .int .i64 0, .int .i64 0] 51)) (.cells #[.int .i64 0, .int .i64 0, .int .i64 0, .int .i64 0, .int .i64 0, .int .i64 0, .int .i64 0, .int .i64 0, .int .i64 0, .int .i64 0, .int .i64 0, .int .i64 0, .int .i64 0, .int .i64 0, .int .i64 0, .int .i64 0, .int .i64 0, .int .i64 0, .int .i64 0, .int .i64 0, .int .i64 0, .int .i64 0, .int .i64 0, .int .i64 0, .int .i64 0, .int .i64 0, .int .i64 0, .int .i64 0, .int .i64 0, .int .i64 0, .int .i64 0, .int .i64 0, .int .i64 0, .int .i64 0, .int .i64 0, .int .i64 0, .int .i64 0, .int .i64 0, .int .i64 0, .int .i64 0, .int .i64 0, .int .i64 0, .int .i64 0, .int .i64 0, .int .i64 0, .int .i64 0, .int .i64 0, .int .i64 0, .int .i64 0, .int .i64 0, .int .i64 0, .int .i64 0, .int .i64 0, .int .i64 0, .int .i64 0, .int .i64 0, .int .i64 0, .int .i64 0, .int .i64 0, .int .i64 0, .int .i64 0, .int .i64 0, .int .i64 0, .int .i64 0] 51))
  have O_2 := Aside0.mk (blk_new2 (w) (.cells #[.int .i64 0, .int .i64 0, .int .i64 0, .int .i64 0, .int .i64 0, .int .i64 0, .int .i64 0, .int .i64 0, .int .i64 0, .int .i64 0, .int .i64 0, .int .i64 0, .int .i64 0, .int .i64 0, .int .i64 0, .int .i64 0, .int .i64 0, .int .i64 0, .int .i64 0, .int .i64 0, .int .i64 0, .int .i64 0, .int .i64 0, .int .i64 0, .int .i64 0, .int .i64 0, .int .i64 0, .int .i64 0, .int .i64 0, .int .i64 0, .int .i64 0, .int .i64 0, .int .i64 0, .int .i64 0, .int .i64 0, .int .i64 0, .int .i64 0, .int .i64 0, .int .i64 0, .int .i64 0, .int .i64 0, .int .i64 0, .int .i64 0, .int .i64 0, .int .i64 0, .int .i64 0, .int .i64 0, .int .i64 0, .int .i64 0, .int .i64 0, .int .i64 0, .int .i64 0, .int .i64 0, .int .i64 0, .int .i64 0, .int .i64 0, .int .i64 0, .int .i64 0, .int .i64 0, .int .i64 0, .int .i64 0, .int .i64 0, .int .i64 0, .int .i64 0] 51) (.cells #[.int .i64 0, .int .i64 0, .int .i64 0, .int .i64 0, .int .i64 0, .int .i64 0, .int .i64 0, .int .i64 0, .int .i64 0, .int .i64 0, .int .i64 0, .int .i64 0, .int .i64 0, .int .i64 0, .int .i64 0, .int .i64 0, .int .i64 0, .int .i64 0, .int .i64 0, .int .i64 0, .int .i64 0, .int .i64 0, .int .i64 0, .int .i64 0, .int .i64 0, .int .i64 0, .int .i64 0, .int .i64 0, .int .i64 0, .int .i64 0, .int .i64 0, .int .i64 0, .int .i64 0, .int .i64 0, .int .i64 0, .int .i64 0, .int .i64 0, .int .i64 0, .int .i64 0, .int .i64 0, .int .i64 0, .int .i64 0, .int .i64 0, .int .i64 0, .int .i64 0, .int .i64 0, .int .i64 0, .int .i64 0, .int .i64 0, .int .i64 0, .int .i64 0, .int .i64 0, .int .i64 0, .int .i64 0, .int .i64 0, .int .i64 0, .int .i64 0, .int .i64 0, .int .i64 0, .int .i64 0, .int .i64 0, .int .i64 0, .int .i64 0, .int .i64 0] 51))
  have B3 := Aside0.mk (below_alloc (below_alloc (Below.refl w.heap.size w) (.cells #[.int .i64 0, .int .i64 0, .int .i64 0, .int .i64 0, .int .i64 0, .int .i64 0, .int .i64 0, .int .i64 0, .int .i64 0, .int .i64 0, .int .i64 0, .int .i64 0, .int .i64 0, .int .i64 0, .int .i64 0, .int .i64 0, .int .i64 0, .int .i64 0, .int .i64 0, .int .i64 0, .int .i64 0, .int .i64 0, .int .i64 0, .int .i64 0, .int .i64 0, .int .i64 0, .int .i64 0, .int .i64 0, .int .i64 0, .int .i64 0, .int .i64 0, .int .i64 0, .int .i64 0, .int .i64 0, .int .i64 0, .int .i64 0, .int .i64 0, .int .i64 0, .int .i64 0, .int .i64 0, .int .i64 0, .int .i64 0, .int .i64 0, .int .i64 0, .int .i64 0, .int .i64 0, .int .i64 0, .int .i64 0, .int .i64 0, .int .i64 0, .int .i64 0, .int .i64 0, .int .i64 0, .int .i64 0, .int .i64 0, .int .i64 0, .int .i64 0, .int .i64 0, .int .i64 0, .int .i64 0, .int .i64 0, .int .i64 0, .int .i64 0, .int .i64 0] 51)) (.cells #[.int .i64 0, .int .i64 0, .int .i64 0, .int .i64 0, .int .i64 0, .int .i64 0, .int .i64 0, .int .i64 0, .int .i64 0, .int .i64 0, .int .i64 0, .int .i64 0, .int .i64 0, .int .i64 0, .int .i64 0, .int .i64 0, .int .i64 0, .int .i64 0, .int .i64 0, .int .i64 0, .int .i64 0, .int .i64 0, .int .i64 0, .int .i64 0, .int .i64 0, .int .i64 0, .int .i64 0, .int .i64 0, .int .i64 0, .int .i64 0, .int .i64 0, .int .i64 0, .int .i64 0, .int .i64 0, .int .i64 0, .int .i64 0, .int .i64 0, .int .i64 0, .int .i64 0, .int .i64 0, .int .i64 0, .int .i64 0, .int .i64 0, .int .i64 0, .int .i64 0, .int .i64 0, .int .i64 0, .int .i64 0, .int .i64 0, .int .i64 0, .int .i64 0, .int .i64 0, .int .i64 0, .int .i64 0, .int .i64 0, .int .i64 0, .int .i64 0, .int .i64 0, .int .i64 0, .int .i64 0, .int .i64 0, .int .i64 0, .int .i64 0, .int .i64 0] 51))
  go_enter Tryd.func37, Tryd.ntmps37
  go_wp2_with fail
  refine (all_T (w.heap.size + 1) _).mono ?_
  rintro e_ w2 ⟨vT, rfl, hR, hb⟩
  obtain ⟨AT, cT, eT, -, -⟩ := Kd.R_reads hR
  have eT : vT = .slice AT 64 cT := by simpa using eT
  subst eT
  have T_4 := Aside0.mk (Kd.R_lower hR B3.out.size)
  clear hR
  have X_5 := Aside0.mk (blk_below X_1.out hb)
  have O_6 := Aside0.mk (blk_below O_2.out hb)
  have B7 := Aside0.mk (below_step B3.out hb)
  clear hb B3 X_1 O_2
  go_wp2_with fail
  go_loopg [12] ls.length (fun kq v12 w' => ∃ (k : Nat), v12 = .int .i64 (k : Int) ∧ Aside0 (k + kq = ls.length) ∧ Aside0 (Below w.heap.size w w') ∧ Aside0 (w'.heap[w.heap.size]? = some (.cells (TV zero64) 51 (0, 0))) ∧ Aside0 (w'.heap[w.heap.size + 1]? = some (.cells (TV (sumV (ls.take k))) 51 (0, 0))) ∧ Aside0 (kp.R 87 w' w.heap.size (fun _ => True) (.slice AT 64 cT) ((List.range 64).map (fun i => (w.heap.size + 1, i)))))
  case atStart => exact ⟨0, rfl, ⟨by omega⟩, ⟨B7.out⟩, ⟨by rw [TV_zero]; exact X_5.out⟩, ⟨by rw [List.take_zero, show sumV [] = zero64 from rfl, TV_zero]; exact O_6.out⟩, ⟨T_4.out⟩⟩
  case round =>
    rename World => wo
    clear B7 X_5 O_6 T_4
    obtain ⟨k, rfl, HK, B900, X_900, O_900, T_900⟩ := hrel
    by_cases hi : k < ls.length
    · skip
      have d1 : decide ((k : Int) < (ls.length : Int)) = true := decide_eq_true (by omega)
      have q1 := Aside0.mk hi
      obtain ⟨ko, rfl⟩ : ∃ m, gk = m + 1 := ⟨gk - 1, by have := HK.out; omega⟩
      obtain ⟨gL, eL, rfl, hLb⟩ : ∃ gL e, A0 = some ⟨gL, 0, none⟩ ∧ w.heap[gL]? = some (.cells (TV ls.flatten) e (0, 0)) := HA.out.resolve_left (fun h => by rw [h] at hi; exact absurd hi (by simp))
      have HRG0 := flat_range (blk_below hLb B900.out) HLS.out k hi
      have hst := sumV_take ls k hi
      have hly : (ls.getD k []).length = 64 := by rw [List.getD_eq_getElem?_getD, List.getElem?_eq_getElem hi]; exact HLS.out _ (List.getElem_mem hi)
      have hla : (sumV (ls.take k)).length = 64 := sumV_len (fun l h => HLS.out l (List.mem_of_mem_take h))
      generalize ls.getD k [] = y at HRG0 hst hly
      have p0 := eq_true (show (0 : Int) ≤ (k : Int) by omega)
      have p1 := eq_true (show (k : Int) < (ls.length : Int) by omega)
      have p2 := eq_true hi
      have p3 : (k : Int).toNat = k := by omega
      have wi : wrap64 ((k : Int) + 1) = ((k + 1 : Nat) : Int) := by have := HN.out; unfold wrap64; omega
      have HRG := Aside0.mk HRG0
      clear hi HRG0 hLb
      obtain ⟨acc, eacc⟩ : ∃ a, sumV (ls.take k) = a := ⟨_, rfl⟩
      rw [eacc] at hst hla
      have O_901 := Aside0.mk (show wo.heap[w.heap.size + 1]? = some (.cells (TV acc) 51 (0, 0)) from by rw [← eacc]; exact O_900.out)
      clear O_900 eacc
      have HST := Aside0.mk hst
      have HLY := Aside0.mk hly
      have HLA := Aside0.mk hla
      clear hst hla
      have L_C := Aside0.mk (show w.heap.size ≤ wo.heap.size from B900.out.size)
      have NE_X_C := Aside0.mk (show w.heap.size ≠ wo.heap.size by have := blk_lt X_900.out; omega)
      have NE_O_C := Aside0.mk (show w.heap.size + 1 ≠ wo.heap.size by have := blk_lt O_901.out; omega)
      have X_902 := Aside0.mk (blk_alloc X_900.out (.cells #[.int .i64 0, .int .i64 0, .int .i64 0, .int .i64 0, .int .i64 0, .int .i64 0, .int .i64 0, .int .i64 0, .int .i64 0, .int .i64 0, .int .i64 0, .int .i64 0, .int .i64 0, .int .i64 0, .int .i64 0, .int .i64 0, .int .i64 0, .int .i64 0, .int .i64 0, .int .i64 0, .int .i64 0, .int .i64 0, .int .i64 0, .int .i64 0, .int .i64 0, .int .i64 0, .int .i64 0, .int .i64 0, .int .i64 0, .int .i64 0, .int .i64 0, .int .i64 0, .int .i64 0, .int .i64 0, .int .i64 0, .int .i64 0, .int .i64 0, .int .i64 0, .int .i64 0, .int .i64 0, .int .i64 0, .int .i64 0, .int .i64 0, .int .i64 0, .int .i64 0, .int .i64 0, .int .i64 0, .int .i64 0, .int .i64 0, .int .i64 0, .int .i64 0, .int .i64 0, .int .i64 0, .int .i64 0, .int .i64 0, .int .i64 0, .int .i64 0, .int .i64 0, .int .i64 0, .int .i64 0, .int .i64 0, .int .i64 0, .int .i64 0, .int .i64 0] 51))
      have O_903 := Aside0.mk (blk_alloc O_901.out (.cells #[.int .i64 0, .int .i64 0, .int .i64 0, .int .i64 0, .int .i64 0, .int .i64 0, .int .i64 0, .int .i64 0, .int .i64 0, .int .i64 0, .int .i64 0, .int .i64 0, .int .i64 0, .int .i64 0, .int .i64 0, .int .i64 0, .int .i64 0, .int .i64 0, .int .i64 0, .int .i64 0, .int .i64 0, .int .i64 0, .int .i64 0, .int .i64 0, .int .i64 0, .int .i64 0, .int .i64 0, .int .i64 0, .int .i64 0, .int .i64 0, .int .i64 0, .int .i64 0, .int .i64 0, .int .i64 0, .int .i64 0, .int .i64 0, .int .i64 0, .int .i64 0, .int .i64 0, .int .i64 0, .int .i64 0, .int .i64 0, .int .i64 0, .int .i64 0, .int .i64 0, .int .i64 0, .int .i64 0, .int .i64 0, .int .i64 0, .int .i64 0, .int .i64 0, .int .i64 0, .int .i64 0, .int .i64 0, .int .i64 0, .int .i64 0, .int .i64 0, .int .i64 0, .int .i64 0, .int .i64 0, .int .i64 0, .int .i64 0, .int .i64 0, .int .i64 0] 51))
      have C_904 := Aside0.mk (blk_new (wo) (.cells #[.int .i64 0, .int .i64 0, .int .i64 0, .int .i64 0, .int .i64 0, .int .i64 0, .int .i64 0, .int .i64 0, .int .i64 0, .int .i64 0, .int .i64 0, .int .i64 0, .int .i64 0, .int .i64 0, .int .i64 0, .int .i64 0, .int .i64 0, .int .i64 0, .int .i64 0, .int .i64 0, .int .i64 0, .int .i64 0, .int .i64 0, .int .i64 0, .int .i64 0, .int .i64 0, .int .i64 0, .int .i64 0, .int .i64 0, .int .i64 0, .int .i64 0, .int .i64 0, .int .i64 0, .int .i64 0, .int .i64 0, .int .i64 0, .int .i64 0, .int .i64 0, .int .i64 0, .int .i64 0, .int .i64 0, .int .i64 0, .int .i64 0, .int .i64 0, .int .i64 0, .int .i64 0, .int .i64 0, .int .i64 0, .int .i64 0, .int .i64 0, .int .i64 0, .int .i64 0, .int .i64 0, .int .i64 0, .int .i64 0, .int .i64 0, .int .i64 0, .int .i64 0, .int .i64 0, .int .i64 0, .int .i64 0, .int .i64 0, .int .i64 0, .int .i64 0] 51))
      have B905 := Aside0.mk (below_alloc B900.out (.cells #[.int .i64 0, .int .i64 0, .int .i64 0, .int .i64 0, .int .i64 0, .int .i64 0, .int .i64 0, .int .i64 0, .int .i64 0, .int .i64 0, .int .i64 0, .int .i64 0, .int .i64 0, .int .i64 0, .int .i64 0, .int .i64 0, .int .i64 0, .int .i64 0, .int .i64 0, .int .i64 0, .int .i64 0, .int .i64 0, .int .i64 0, .int .i64 0, .int .i64 0, .int .i64 0, .int .i64 0, .int .i64 0, .int .i64 0, .int .i64 0, .int .i64 0, .int .i64 0, .int .i64 0, .int .i64 0, .int .i64 0, .int .i64 0, .int .i64 0, .int .i64 0, .int .i64 0, .int .i64 0, .int .i64 0, .int .i64 0, .int .i64 0, .int .i64 0, .int .i64 0, .int .i64 0, .int .i64 0, .int .i64 0, .int .i64 0, .int .i64 0, .int .i64 0, .int .i64 0, .int .i64 0, .int .i64 0, .int .i64 0, .int .i64 0, .int .i64 0, .int .i64 0, .int .i64 0, .int .i64 0, .int .i64 0, .int .i64 0, .int .i64 0, .int .i64 0] 51))
      clear X_900 O_901 B900
      have T_906 := Aside0.mk (Kd.R_alloc (T_900.out) (.cells #[.int .i64 0, .int .i64 0, .int .i64 0, .int .i64 0, .int .i64 0, .int .i64 0, .int .i64 0, .int .i64 0, .int .i64 0, .int .i64 0, .int .i64 0, .int .i64 0, .int .i64 0, .int .i64 0, .int .i64 0, .int .i64 0, .int .i64 0, .int .i64 0, .int .i64 0, .int .i64 0, .int .i64 0, .int .i64 0, .int .i64 0, .int .i64 0, .int .i64 0, .int .i64 0, .int .i64 0, .int .i64 0, .int .i64 0, .int .i64 0, .int .i64 0, .int .i64 0, .int .i64 0, .int .i64 0, .int .i64 0, .int .i64 0, .int .i64 0, .int .i64 0, .int .i64 0, .int .i64 0, .int .i64 0, .int .i64 0, .int .i64 0, .int .i64 0, .int .i64 0, .int .i64 0, .int .i64 0, .int .i64 0, .int .i64 0, .int .i64 0, .int .i64 0, .int .i64 0, .int .i64 0, .int .i64 0, .int .i64 0, .int .i64 0, .int .i64 0, .int .i64 0, .int .i64 0, .int .i64 0, .int .i64 0, .int .i64 0, .int .i64 0, .int .i64 0] 51))
      clear T_900
      go_wp2_with (first
        | ((with_reducible refine wpLd 51 (.tmp 14) ?_); refine wpList_load_mid rfl 51 (.tmp 14) rfl gL (k * 64) rfl (TV y).toList _ HRG.out Tryd.underlying51 rfl (tot51 _ hly) ?_)
        | ((with_reducible refine wpSt 51 (.tmp 6) (.tmp 15) ?_); refine store_whole (w := w) (B := w.heap.size) rfl rfl 51 (.tmp 6) (.tmp 15) rfl (g := wo.heap.size) (cs := TV y) rfl _ rfl rfl (tot51 _ (by first | assumption | (simp [zero64]; done))) (TV_one _) C_904.out (by first | (simp [TV_size, zero64]; done) | (simp [TV_size, zero64]; omega) | (rw [TV_size, TV_size]; simp [zero64]; omega)) L_C.out B905.out ?_; intro w_907 h1 h2 h3 h4; have T_908 := Aside0.mk (row_farp T_906.out C_904.out (by decide) h3); have X_909 := Aside0.mk ((h3 _ NE_X_C.out).trans X_902.out); have O_910 := Aside0.mk ((h3 _ NE_O_C.out).trans O_903.out); have C_911 := Aside0.mk (h1); have B912 := Aside0.mk (h2); clear h1 h2 h3 h4 T_906 X_902 O_903 C_904 B905))
      refine (all_T (wo.heap.size) _).mono ?_
      rintro e_ w5 ⟨vN, rfl, hR, hb⟩
      obtain ⟨AN, cN, eN, -, -⟩ := Kd.R_reads hR
      have eN : vN = .slice AN 64 cN := by simpa using eN
      subst eN
      have N_913 := Aside0.mk (Kd.R_lower hR B912.out.size)
      clear hR
      have X_914 := Aside0.mk (blk_below X_909.out hb)
      have O_915 := Aside0.mk (blk_below O_910.out hb)
      have C_916 := Aside0.mk (blk_below C_911.out hb)
      have T_917 := Aside0.mk (Kd.R_below T_908.out hb)
      have B918 := Aside0.mk (below_step B912.out hb)
      clear hb B912 X_909 O_910 C_911 T_908
      go_wp2_with fail
      go_loopg [18] 64 (fun kq v18 w' => ∃ (i : Int), v18 = .int .i64 i ∧ Aside0 (0 ≤ i ∧ i + kq = 64) ∧ Aside0 (Below w.heap.size w w') ∧ Aside0 (w'.heap[w.heap.size]? = some (.cells (TV zero64) 51 (0, 0))) ∧ Aside0 (w'.heap[w.heap.size + 1]? = some (.cells (TV (addN acc y i.toNat)) 51 (0, 0))) ∧ Aside0 (w'.heap[wo.heap.size]? = some (.cells (TV y) 51 (0, 0))) ∧ Aside0 (kp.R 87 w' w.heap.size (fun _ => True) (.slice AT 64 cT) ((List.range 64).map (fun i => (w.heap.size + 1, i)))) ∧ Aside0 (kp.R 87 w' w.heap.size (fun _ => True) (.slice AN 64 cN) ((List.range 64).map (fun i => (wo.heap.size, i)))))
      case atStart => exact ⟨0, rfl, ⟨by omega⟩, ⟨B918.out⟩, ⟨X_914.out⟩, ⟨by rw [show (0 : Int).toNat = 0 from rfl, addN_0]; exact O_915.out⟩, ⟨C_916.out⟩, ⟨T_917.out⟩, ⟨N_913.out⟩⟩
      case round =>
        clear B918 X_914 O_915 C_916 T_917 N_913
        obtain ⟨i, rfl, HI, B1900, X_1900, O_1900, C_1900, T_1900, N_1900⟩ := hrel
        by_cases hj : i < 64
        · have d2 : decide (i < 64) = true := decide_eq_true hj
          have r0 : (0 : Int) ≤ i := HI.out.1
          have q2 := Aside0.mk (show 0 ≤ i ∧ i < 64 from ⟨r0, hj⟩)
          obtain ⟨ki, rfl⟩ : ∃ m, gk = m + 1 := ⟨gk - 1, by have := HI.out; omega⟩
          obtain ⟨pT, eT_, xT⟩ := at_p T_1900.out i r0 hj
          subst eT_
          have CT := Aside0.mk xT
          clear xT
          obtain ⟨pN, eN_, xN⟩ := at_p N_1900.out i r0 hj
          subst eN_
          have CN := Aside0.mk xN
          clear xN
          have hst := addN_step HLA.out HLY.out i.toNat (by omega)
          have ga := TV_get (addN acc y i.toNat) i.toNat (by have := addN_len HLA.out HLY.out i.toNat (by omega); omega)
          rw [addN_at HLA.out HLY.out i.toNat (by omega)] at ga
          have gb := TV_get y i.toNat (by have := HLY.out; omega)
          generalize acc.getD i.toNat 0 = x at hst ga
          generalize y.getD i.toNat 0 = z at hst gb
          have HST2 := Aside0.mk hst
          have GA := Aside0.mk ga
          have GB := Aside0.mk gb
          clear hst ga gb
          have n0 : wr.cell? (pN.add i.toNat) = some (.pointer (some ⟨wo.heap.size, i.toNat, none⟩)) := CN.out
          have r0b : decide (0 ≤ i) = true := decide_eq_true r0
          have wj : wrap64 (i + 1) = i + 1 := by have := q2.out; unfold wrap64; omega
          replace r0 := eq_true r0
          replace hj := eq_true hj
          go_wp2_with fail
          refine start_ (n := 12) (S := fun w' => w'.cell? (pT.add i.toNat) = some (.pointer (some ⟨w.heap.size + 1, i.toNat, none⟩)) ∧ w'.cell? ⟨w.heap.size + 1, i.toNat, none⟩ = some (.int .i64 x) ∧ w'.cell? ⟨wo.heap.size, i.toNat, none⟩ = some (.int .i64 z)) (ds := [11]) #[false, false, false, false, false, false, false, false, false, false, false, false] (by kernel_rfl) rfl rfl ⟨CT.out, (blk_cell (blk_drew O_1900.out) i.toNat).trans GA.out, (blk_cell (blk_drew C_1900.out) i.toNat).trans GB.out⟩ (fun hHeld => ?_)
          refine pure_ (i := 0) (N := some 23) (v := ?_) (a' := ?_) #[true, false, false, false, false, false, false, false, false, false, false, false] rfl rfl (by kernel_rfl) (fun _ _ _ h => h) (Or.inl ⟨by rfl, ?_⟩) ?_ ?_
          rotate_left
          · intro w'
            go_simp
            with_reducible rfl
          rotate_left
          · simp only [Act.put, List.setIfInBounds_toArray, List.set_cons_zero, List.set_cons_succ, i64_w, i32_w]
            rfl
          refine pure_ (i := 1) (N := some 24) (v := ?_) (a' := ?_) #[true, true, false, false, false, false, false, false, false, false, false, false] rfl rfl (by kernel_rfl) (fun _ _ _ h => h) (Or.inl ⟨by rfl, ?_⟩) ?_ ?_
          rotate_left
          · intro w'
            go_simp
            with_reducible rfl
          rotate_left
          · simp only [Act.put, List.setIfInBounds_toArray, List.set_cons_zero, List.set_cons_succ, i64_w, i32_w]
            rfl
          refine pure_ (i := 2) (N := some 25) (v := ?_) (a' := ?_) #[true, true, true, false, false, false, false, false, false, false, false, false] rfl rfl (by kernel_rfl) (fun _ _ _ h => h) (Or.inl ⟨by rfl, ?_⟩) ?_ ?_
          rotate_left
          · intro w'
            go_simp
            with_reducible rfl
          rotate_left
          · simp only [Act.put, List.setIfInBounds_toArray, List.set_cons_zero, List.set_cons_succ, i64_w, i32_w]
            rfl
          refine pure_ (i := 6) (N := some 29) (v := ?_) (a' := ?_) #[true, true, true, false, false, false, true, false, false, false, false, false] rfl rfl (by kernel_rfl) (fun _ _ _ h => h) (Or.inl ⟨by rfl, ?_⟩) ?_ ?_
          rotate_left
          · intro w'
            go_simp
            with_reducible rfl
          rotate_left
          · simp only [Act.put, List.setIfInBounds_toArray, List.set_cons_zero, List.set_cons_succ, i64_w, i32_w]
            rfl
          refine pure_ (i := 7) (N := some 30) (v := ?_) (a' := ?_) #[true, true, true, false, false, false, true, true, false, false, false, false] rfl rfl (by kernel_rfl) (fun _ _ _ h => h) (Or.inl ⟨by rfl, ?_⟩) ?_ ?_
          rotate_left
          · intro w'
            go_simp
            with_reducible rfl
          rotate_left
          · simp only [Act.put, List.setIfInBounds_toArray, List.set_cons_zero, List.set_cons_succ, i64_w, i32_w]
            rfl
          refine take_ (i := 3) (N := some 26) (v := ?_) (a' := ?_) #[true, true, true, true, false, false, true, true, false, false, false, false] rfl rfl (by kernel_rfl) (fun _ _ _ h => h) (Or.inl ⟨by rfl, ?_⟩) hHeld ?_ ?_
          rotate_left
          · rintro w' ⟨s0, s1, s2⟩
            go_simp
            with_reducible rfl
          rotate_left
          · simp only [Act.put, List.setIfInBounds_toArray, List.set_cons_zero, List.set_cons_succ, i64_w, i32_w]
            rfl
          refine pure_ (i := 4) (N := some 27) (v := ?_) (a' := ?_) #[true, true, true, true, true, false, true, true, false, false, false, false] rfl rfl (by kernel_rfl) (fun _ _ _ h => h) (Or.inl ⟨by rfl, ?_⟩) ?_ ?_
          rotate_left
          · intro w'
            go_simp
            with_reducible rfl
          rotate_left
          · simp only [Act.put, List.setIfInBounds_toArray, List.set_cons_zero, List.set_cons_succ, i64_w, i32_w]
            rfl
          refine take_ (i := 5) (N := some 28) (v := ?_) (a' := ?_) #[true, true, true, true, true, true, true, true, false, false, false, false] rfl rfl (by kernel_rfl) (fun _ _ _ h => h) (Or.inl ⟨by rfl, ?_⟩) hHeld ?_ ?_
          rotate_left
          · rintro w' ⟨s0, s1, s2⟩
            go_simp
            with_reducible rfl
          rotate_left
          · simp only [Act.put, List.setIfInBounds_toArray, List.set_cons_zero, List.set_cons_succ, i64_w, i32_w]
            rfl
          refine take_ (i := 8) (N := some 31) (v := ?_) (a' := ?_) #[true, true, true, true, true, true, true, true, true, false, false, false] rfl rfl (by kernel_rfl) (fun _ _ _ h => h) (Or.inl ⟨by rfl, ?_⟩) hHeld ?_ ?_
          rotate_left
          · rintro w' ⟨s0, s1, s2⟩
            go_simp
            with_reducible rfl
          rotate_left
          · simp only [Act.put, List.setIfInBounds_toArray, List.set_cons_zero, List.set_cons_succ, i64_w, i32_w]
            rfl
          refine pure_ (i := 9) (N := some 32) (v := ?_) (a' := ?_) #[true, true, true, true, true, true, true, true, true, true, false, false] rfl rfl (by kernel_rfl) (fun _ _ _ h => h) (Or.inl ⟨by rfl, ?_⟩) ?_ ?_
          rotate_left
          · intro w'
            go_simp
            with_reducible rfl
          rotate_left
          · simp only [Act.put, List.setIfInBounds_toArray, List.set_cons_zero, List.set_cons_succ, i64_w, i32_w]
            rfl
          refine pure_ (i := 10) (N := some 33) (v := ?_) (a' := ?_) #[true, true, true, true, true, true, true, true, true, true, true, false] rfl rfl (by kernel_rfl) (fun _ _ _ h => h) (Or.inl ⟨by rfl, ?_⟩) ?_ ?_
          rotate_left
          · intro w'
            go_simp
            with_reducible rfl
          rotate_left
          · simp only [Act.put, List.setIfInBounds_toArray, List.set_cons_zero, List.set_cons_succ, i64_w, i32_w]
            rfl
          refine last_ (i := 11) (N := none) #[true, true, true, true, true, true, true, true, true, true, true, true] rfl rfl (by kernel_rfl) (by decide) (fun K hK => ?_)
          refine skip_cell (w := w) 3 (.tmp 33) (.tmp 32) (by rfl) rfl rfl (g := w.heap.size + 1) i.toNat ?_ (.int .i64 (wrap64 (x + z))) ?_ rfl (by kernel_rfl) rfl (blk_drew O_1900.out) (by rw [TV_size]; have := addN_len HLA.out HLY.out i.toNat (by have := q2.out; omega); have := q2.out; omega) L_O.out (below_drew B1900.out) ?_
          · rfl
          · rfl
          intro wz h1 h2 h3
          have T_1901 := Aside0.mk (row_farp (Kd.R_drew T_1900.out) (blk_drew O_1900.out) (by decide) h3)
          have N_1902 := Aside0.mk (row_farp (Kd.R_drew N_1900.out) (blk_drew O_1900.out) (by decide) h3)
          have X_1903 := Aside0.mk ((h3 _ NE_X_O.out).trans (blk_drew X_1900.out))
          have C_1904 := Aside0.mk ((h3 _ (Ne.symm NE_O_C.out)).trans (blk_drew C_1900.out))
          have O_1905 := Aside0.mk (show wz.heap[w.heap.size + 1]? = some (.cells (TV (addN acc y (i.toNat + 1))) 51 (0, 0)) from by rw [h1, TV_set, HST2.out])
          have B1906 := Aside0.mk h2
          clear h1 h2 h3 T_1900 N_1900 X_1900 C_1900 O_1900 B1900
          refine hK.out _ _ ?_
          clear hK K
          refine done_ (by kernel_rfl) ?_
          go_wp2_with fail
          go_roundg ki
          case rel => exact ⟨i + 1, by first | rfl | rw [wj], ⟨by have := HI.out; have := q2.out; omega⟩, ⟨B1906.out⟩, ⟨X_1903.out⟩, ⟨by rw [show (i + 1).toNat = i.toNat + 1 by have := q2.out; omega]; exact O_1905.out⟩, ⟨C_1904.out⟩, ⟨T_1901.out⟩, ⟨N_1902.out⟩⟩
          case measure => exact Nat.lt_succ_self _
        · have d2 : decide (i < 64) = false := decide_eq_false hj
          obtain rfl : i = 64 := by have := HI.out; omega
          have O_1901 := Aside0.mk (show wr.heap[w.heap.size + 1]? = some (.cells (TV (sumV (ls.take (k + 1)))) 51 (0, 0)) from by have := O_1900.out; rw [show ((64 : Int)).toNat = 64 from rfl, addN_64 HLA.out HLY.out] at this; rw [HST.out]; exact this)
          clear hj HI O_1900
          go_wp2_with fail
          go_roundg ko
          case rel => exact ⟨k + 1, by first | rfl | rw [wi], ⟨by have := HK.out; omega⟩, ⟨B1900.out⟩, ⟨X_1900.out⟩, ⟨O_1901.out⟩, ⟨T_1900.out⟩⟩
          case measure => exact Nat.lt_succ_self _
    · have d1 : decide ((k : Int) < (ls.length : Int)) = false := decide_eq_false (by omega)
      have p2 := eq_false hi
      obtain rfl : k = ls.length := by have := HK.out; omega
      have O_901 := Aside0.mk (show wo.heap[w.heap.size + 1]? = some (.cells (TV (sumV ls)) 51 (0, 0)) from by have := O_900.out; rw [List.take_length] at this; exact this)
      have HLN := sumV_len HLS.out
      clear hi HK O_900
      go_wp2_with (first
        | ((with_reducible refine wpLd 51 (.tmp 3) ?_); refine wpList_load_row_g (by rfl) 51 (.tmp 3) rfl (w.heap.size + 1) rfl 51 (TV (sumV ls)) (0, 0) _ O_901.out Tryd.underlying51 rfl (info51 _ (by first | assumption | (simp; done))) ?_)
        | ((with_reducible refine wpSt 51 (.tmp 2) (.tmp 36) ?_); refine store_whole (w := w) (B := w.heap.size) rfl rfl 51 (.tmp 2) (.tmp 36) rfl (g := w.heap.size) (cs := TV (sumV ls)) rfl _ rfl rfl (tot51 _ (by first | assumption | (simp [zero64]; done))) (TV_one _) X_900.out (by first | (simp [TV_size, zero64]; done) | (simp [TV_size, zero64]; omega) | (rw [TV_size, TV_size]; simp [zero64]; omega)) L_X.out B900.out ?_; intro w_902 h1 h2 h3 h4; have T_903 := Aside0.mk (row_farp T_900.out X_900.out (by decide) h3); have X_904 := Aside0.mk (h1); have O_905 := Aside0.mk ((h3 _ (Ne.symm NE_X_O.out)).trans O_901.out); have B906 := Aside0.mk (h2); clear h1 h2 h3 h4 T_900 X_900 O_901 B900))
      exact bodyPost_ret (results_cell_row (P := Tryd.prog) rfl _ _ (w.heap.size) 51 (TV (sumV ls)) (0, 0) _ rfl X_904.out Tryd.underlying51 rfl (info51 _ HLN)) rfl ⟨rfl, B906.out⟩
end Go.Proofs.YtcncndhoeiaoeaaDoor.PTallyExact

