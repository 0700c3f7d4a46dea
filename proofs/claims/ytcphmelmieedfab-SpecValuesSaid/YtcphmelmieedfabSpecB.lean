/-
A pair more, or another value.
-/
import Derived.Test.YtcphmelmieedfabSpecA
namespace Go.Proofs.Ytcphmelmieedfab.PSpecExact
open Go Go.RowKit Go.Proofs.YtcphmelmieedfabW.PrintWords Go.Proofs.YtcphmelmieedfabW.PrintLast Go.Proofs.YtcphmelmieedfabW.PrintMore
attribute [local go_sem] max2_int min2_int max_two min_two max_three min_three max_four min_four
set_option linter.unusedVariables false
set_option linter.unusedSimpArgs false
theorem SV_nil : SV [] = #[.int .i64 0, .int .u64 0, .int .u64 0, .int .u64 0, .int .u64 0, .int .u64 0, .int .u64 0, .int .u64 0, .int .u64 0, .int .u64 0, .int .u64 0, .int .u64 0, .int .u64 0, .int .u64 0, .int .u64 0, .int .u64 0, .int .u64 0, .int .u64 0, .int .u64 0, .int .u64 0, .int .u64 0, .int .u64 0, .int .u64 0, .int .u64 0, .int .u64 0, .int .u64 0, .int .u64 0, .int .u64 0, .int .u64 0, .int .u64 0, .int .u64 0, .int .u64 0, .int .u64 0] := by rfl
theorem stot (l : List S26) : (Try.prog.info? 29).map (·.size) = some (SV l).toList.length := by rw [Array.length_toList]; exact info29 l
def ins (l : List S26) (k : Nat) (p : S26) : List S26 := l.take k ++ p :: l.drop k
theorem ins_len (l : List S26) (k : Nat) (p : S26) (h : k ≤ l.length) : (ins l k p).length = l.length + 1 := by unfold ins; simp; omega
theorem ins_get (l : List S26) (k : Nat) (p : S26) (h : k ≤ l.length) (i : Nat) : (ins l k p).getD i ⟨0, 0⟩ = if i < k then l.getD i ⟨0, 0⟩ else if i = k then p else l.getD (i - 1) ⟨0, 0⟩ := by
  unfold ins
  rw [List.getD_eq_getElem?_getD, List.getD_eq_getElem?_getD, List.getD_eq_getElem?_getD]
  by_cases h1 : i < k
  · rw [if_pos h1, List.getElem?_append_left (by simp; omega), List.getElem?_take_of_lt h1]
  · rw [if_neg h1, List.getElem?_append_right (by simp; omega)]
    have e1 : (l.take k).length = k := by simp; omega
    rw [e1]
    by_cases h2 : i = k
    · rw [if_pos h2, h2]; simp
    · rw [if_neg h2]
      obtain ⟨d, rfl⟩ : ∃ d, i = k + (d + 1) := ⟨i - (k + 1), by omega⟩
      rw [show k + (d + 1) - k = d + 1 by omega, List.getElem?_cons_succ, List.getElem?_drop, show k + (d + 1) - 1 = k + d by omega]
theorem set_get (l : List S26) (k : Nat) (p : S26) (h : k < l.length) (i : Nat) : (l.set k p).getD i ⟨0, 0⟩ = if i = k then p else l.getD i ⟨0, 0⟩ := by
  rw [List.getD_eq_getElem?_getD, List.getD_eq_getElem?_getD, List.getElem?_set]
  by_cases e : i = k
  · subst e
    simp [h]
  · rw [if_neg (fun x => e x.symm), if_neg e]
theorem SV_set (l : List S26) {k : Nat} (p : S26) (h : k < l.length) (h16 : l.length ≤ 16) : ((SV l).setIfInBounds (1 + k * 2) (.int .u64 p.f0)).setIfInBounds (1 + k * 2 + 1) (.int .u64 p.f1) = SV (l.set k p) := by
  refine SV_ext (by simp [SV_size]) ?_ (fun i hi => ⟨?_, ?_⟩)
  · rw [Array.getElem?_setIfInBounds_ne (by omega), Array.getElem?_setIfInBounds_ne (by omega), SV_0, List.length_set]
  · rw [Array.getElem?_setIfInBounds_ne (by omega)]
    unfold kOf
    rw [set_get l k p h]
    by_cases e : i = k
    · subst e
      rw [if_pos rfl, show 1 + 2 * i = 1 + i * 2 by omega, Array.getElem?_setIfInBounds_self_of_lt (by rw [SV_size]; omega)]
    · rw [if_neg e, Array.getElem?_setIfInBounds_ne (by omega)]
      exact SV_k l hi
  · unfold vOf
    rw [set_get l k p h]
    by_cases e : i = k
    · subst e
      rw [if_pos rfl, show 1 + 2 * i + 1 = 1 + i * 2 + 1 by omega, Array.getElem?_setIfInBounds_self_of_lt (by simp [SV_size]; omega)]
    · rw [if_neg e, Array.getElem?_setIfInBounds_ne (by omega), Array.getElem?_setIfInBounds_ne (by omega)]
      exact SV_v l hi
theorem take_drop_get {l : List S26} {a m j : Nat} (hj : j < m) (h : a + j < 33) : (((SV l).toList.drop a).take m)[j]? = (SV l)[a + j]? := by
  rw [List.getElem?_take_of_lt hj, List.getElem?_drop, Array.getElem?_toList]
theorem SV_ins (l : List S26) (k : Nat) (p : S26) (hk : k ≤ l.length) (hl : l.length < 16) :
    (((spliceC (SV l) (1 + (k + 1) * 2) (((SV l).toList.drop (1 + k * 2)).take ((l.length - k) * 2))).setIfInBounds (1 + k * 2) (.int .u64 p.f0)).setIfInBounds (1 + k * 2 + 1) (.int .u64 p.f1)).setIfInBounds 0 (.int .i64 ((l.length + 1 : Nat) : Int)) = SV (ins l k p) := by
  have hlen : (((SV l).toList.drop (1 + k * 2)).take ((l.length - k) * 2)).length = (l.length - k) * 2 := by
    have h33 : (SV l).toList.length = 33 := by rw [Array.length_toList, SV_size]
    rw [List.length_take, List.length_drop, h33]; omega
  have hfit : 1 + (k + 1) * 2 + (((SV l).toList.drop (1 + k * 2)).take ((l.length - k) * 2)).length ≤ (SV l).size := by rw [hlen, SV_size]; omega
  have hsz := spliceC_size (SV l) (1 + (k + 1) * 2) _ hfit
  rw [SV_size] at hsz
  have key : ∀ i, i < 16 → i ≠ k → ∀ d, d < 2 → (spliceC (SV l) (1 + (k + 1) * 2) (((SV l).toList.drop (1 + k * 2)).take ((l.length - k) * 2)))[1 + 2 * i + d]? = if i < k then (SV l)[1 + 2 * i + d]? else if i ≤ l.length then (SV l)[1 + 2 * (i - 1) + d]? else (SV l)[1 + 2 * i + d]? := by
    intro i hi hik d hd
    rw [spliceC_get _ _ _ hfit, hlen]
    by_cases h1 : i < k
    · rw [if_pos h1, if_pos (by omega)]
    · rw [if_neg h1, if_neg (by omega)]
      by_cases h2 : i ≤ l.length
      · rw [if_pos h2, if_pos (by omega), take_drop_get (by omega) (by omega)]
        congr 1
        omega
      · rw [if_neg h2, if_neg (by omega)]
  refine SV_ext (by simp [hsz]) ?_ (fun i hi => ⟨?_, ?_⟩)
  · rw [Array.getElem?_setIfInBounds_self_of_lt (by simp [hsz]), ins_len l k p hk]
  · rw [Array.getElem?_setIfInBounds_ne (by omega), Array.getElem?_setIfInBounds_ne (by omega)]
    unfold kOf
    rw [ins_get l k p hk]
    by_cases e : i = k
    · subst e
      rw [if_neg (by omega), if_pos rfl, show 1 + 2 * i = 1 + i * 2 by omega, Array.getElem?_setIfInBounds_self_of_lt (by rw [hsz]; omega)]
    · rw [Array.getElem?_setIfInBounds_ne (by omega)]
      have q := key i hi e 0 (by omega)
      rw [show 1 + 2 * i + 0 = 1 + 2 * i by omega] at q
      rw [q]
      by_cases h1 : i < k
      · rw [if_pos h1, if_pos h1]; exact SV_k l hi
      · rw [if_neg h1, if_neg h1, if_neg e]
        by_cases h2 : i ≤ l.length
        · rw [if_pos h2]; exact SV_k l (by omega)
        · rw [if_neg h2]
          have z := SV_k l hi
          unfold kOf at z
          rw [z]
          simp only [List.getD_eq_getElem?_getD]
          rw [List.getElem?_eq_none (by omega), List.getElem?_eq_none (by omega)]
  · rw [Array.getElem?_setIfInBounds_ne (by omega)]
    unfold vOf
    rw [ins_get l k p hk]
    by_cases e : i = k
    · subst e
      rw [if_neg (by omega), if_pos rfl, show 1 + 2 * i + 1 = 1 + i * 2 + 1 by omega, Array.getElem?_setIfInBounds_self_of_lt (by simp [hsz]; omega)]
    · rw [Array.getElem?_setIfInBounds_ne (by omega), Array.getElem?_setIfInBounds_ne (by omega)]
      have q := key i hi e 1 (by omega)
      rw [q]
      by_cases h1 : i < k
      · rw [if_pos h1, if_pos h1]; exact SV_v l hi
      · rw [if_neg h1, if_neg h1, if_neg e]
        by_cases h2 : i ≤ l.length
        · rw [if_pos h2]; exact SV_v l (by omega)
        · rw [if_neg h2]
          have z := SV_v l hi
          unfold vOf at z
          rw [z]
          simp only [List.getD_eq_getElem?_getD]
          rw [List.getElem?_eq_none (by omega), List.getElem?_eq_none (by omega)]
/-- What a block of as many cells holds. -/
theorem cell_some {w : World} {g : Nat} {cs : Array Value} {t : TypeId} (h : w.heap[g]? = some (.cells cs t (0, 0))) {j : Nat} (hj : j < cs.size) : ∃ v, w.cell? ⟨g, j, none⟩ = some v := ⟨cs[j], (blk_cell h j).trans (Array.getElem?_eq_getElem hj)⟩
/-- One more pair, or another value. -/
def withV (l : List S26) (p : S26) : List S26 × Int :=
  if isF p.f0 l = true then (l.set (posF p.f0 l) p, 0) else if l.length = 16 then ([], 6) else (ins l (posF p.f0 l) p, 0)
set_option maxHeartbeats 8000000 in
set_option maxRecDepth 100000 in
theorem withIs_T (l : List S26) (p : S26) (w : World) (hl : l.length ≤ 16) (hf : isF p.f0 l = true) :
    Calls Try.prog 15 #[.agg (SV l), .agg #[.int .u64 p.f0, .int .u64 p.f1]] w fun e w' => e = .returned (.tuple #[.agg (SV (l.set (posF p.f0 l) p)), .int .i64 0]) ∧ Below w.heap.size w w' := by
  have hu29 := Try.underlying29
  have hu26 := Try.underlying26
  have hu27 := Try.underlying27
  have HL := Aside0.mk hl
  have HF := Aside0.mk hf
  clear hl hf
  have BK := Aside0.mk (blk_alloc (blk_alloc (blk_new w (.cells (SV l) 29)) (.cells #[.int .u64 p.f0, .int .u64 p.f1] 26)) (.cells #[.int .i64 0, .int .u64 0, .int .u64 0, .int .u64 0, .int .u64 0, .int .u64 0, .int .u64 0, .int .u64 0, .int .u64 0, .int .u64 0, .int .u64 0, .int .u64 0, .int .u64 0, .int .u64 0, .int .u64 0, .int .u64 0, .int .u64 0, .int .u64 0, .int .u64 0, .int .u64 0, .int .u64 0, .int .u64 0, .int .u64 0, .int .u64 0, .int .u64 0, .int .u64 0, .int .u64 0, .int .u64 0, .int .u64 0, .int .u64 0, .int .u64 0, .int .u64 0, .int .u64 0] 29))
  have BP := Aside0.mk (blk_alloc (blk_new2 w (.cells (SV l) 29) (.cells #[.int .u64 p.f0, .int .u64 p.f1] 26)) (.cells #[.int .i64 0, .int .u64 0, .int .u64 0, .int .u64 0, .int .u64 0, .int .u64 0, .int .u64 0, .int .u64 0, .int .u64 0, .int .u64 0, .int .u64 0, .int .u64 0, .int .u64 0, .int .u64 0, .int .u64 0, .int .u64 0, .int .u64 0, .int .u64 0, .int .u64 0, .int .u64 0, .int .u64 0, .int .u64 0, .int .u64 0, .int .u64 0, .int .u64 0, .int .u64 0, .int .u64 0, .int .u64 0, .int .u64 0, .int .u64 0, .int .u64 0, .int .u64 0, .int .u64 0] 29))
  have BZ := Aside0.mk (blk_new3 w (.cells (SV l) 29) (.cells #[.int .u64 p.f0, .int .u64 p.f1] 26) (.cells #[.int .i64 0, .int .u64 0, .int .u64 0, .int .u64 0, .int .u64 0, .int .u64 0, .int .u64 0, .int .u64 0, .int .u64 0, .int .u64 0, .int .u64 0, .int .u64 0, .int .u64 0, .int .u64 0, .int .u64 0, .int .u64 0, .int .u64 0, .int .u64 0, .int .u64 0, .int .u64 0, .int .u64 0, .int .u64 0, .int .u64 0, .int .u64 0, .int .u64 0, .int .u64 0, .int .u64 0, .int .u64 0, .int .u64 0, .int .u64 0, .int .u64 0, .int .u64 0, .int .u64 0] 29))
  have B1 := Aside0.mk (below_alloc (below_alloc (below_alloc (Below.refl w.heap.size w) (.cells (SV l) 29)) (.cells #[.int .u64 p.f0, .int .u64 p.f1] 26)) (.cells #[.int .i64 0, .int .u64 0, .int .u64 0, .int .u64 0, .int .u64 0, .int .u64 0, .int .u64 0, .int .u64 0, .int .u64 0, .int .u64 0, .int .u64 0, .int .u64 0, .int .u64 0, .int .u64 0, .int .u64 0, .int .u64 0, .int .u64 0, .int .u64 0, .int .u64 0, .int .u64 0, .int .u64 0, .int .u64 0, .int .u64 0, .int .u64 0, .int .u64 0, .int .u64 0, .int .u64 0, .int .u64 0, .int .u64 0, .int .u64 0, .int .u64 0, .int .u64 0, .int .u64 0] 29))
  go_enter Try.func15, Try.ntmps15
  go_wp2_with (refine wpList_load_row rfl 29 (.tmp 2) rfl w.heap.size rfl 29 (SV l) (0, 0) _ BK.out Try.underlying29 rfl (info29 l) ?_)
  generalize ((w.alloc (.cells (SV l) 29)).alloc (.cells #[.int .u64 p.f0, .int .u64 p.f1] 26)).alloc (.cells #[.int .i64 0, .int .u64 0, .int .u64 0, .int .u64 0, .int .u64 0, .int .u64 0, .int .u64 0, .int .u64 0, .int .u64 0, .int .u64 0, .int .u64 0, .int .u64 0, .int .u64 0, .int .u64 0, .int .u64 0, .int .u64 0, .int .u64 0, .int .u64 0, .int .u64 0, .int .u64 0, .int .u64 0, .int .u64 0, .int .u64 0, .int .u64 0, .int .u64 0, .int .u64 0, .int .u64 0, .int .u64 0, .int .u64 0, .int .u64 0, .int .u64 0, .int .u64 0, .int .u64 0] 29) = w1 at *
  refine (find_T l p.f0 _ HL.out).mono ?_
  rintro e w2 ⟨rfl, hb⟩
  have BK2 := Aside0.mk (blk_below BK.out hb)
  have BP2 := Aside0.mk (blk_below BP.out hb)
  have BZ2 := Aside0.mk (blk_below BZ.out hb)
  have B2 := Aside0.mk (below_step B1.out hb)
  clear hb BK BP BZ B1
  obtain ⟨k, hk⟩ : ∃ k, posF p.f0 l = k := ⟨_, rfl⟩
  have q1 := Aside0.mk (show k < l.length by rw [← hk]; exact isF_lt HF.out)
  rw [hk, HF.out]
  have EK := Aside0.mk hk
  clear hk
  have p0 : ((k : Int) < 16) = True := eq_true (by have := HL.out; have := q1.out; omega)
  have p1 : (k < 16) = True := eq_true (by have := HL.out; have := q1.out; omega)
  have ck : w2.cell? ⟨w.heap.size, 1 + k * 2, none⟩ = some (.int .u64 (kOf l k)) := (blk_cell BK2.out _).trans (by rw [Nat.mul_comm]; exact SV_k l (by have := HL.out; have := q1.out; omega))
  have cv : w2.cell? ⟨w.heap.size, 1 + k * 2 + 1, none⟩ = some (.int .u64 (vOf l k)) := (blk_cell BK2.out _).trans (by rw [Nat.mul_comm]; exact SV_v l (by have := HL.out; have := q1.out; omega))
  have f0 := blk_frozen BK2.out (1 + k * 2)
  have f1 := blk_frozen BK2.out (1 + k * 2 + 1)
  have d0 : w2.cell? ⟨w.heap.size + 1, 0, none⟩ = some (.int .u64 p.f0) := (blk_cell BP2.out 0).trans rfl
  have d1 : w2.cell? ⟨w.heap.size + 1, 1, none⟩ = some (.int .u64 p.f1) := (blk_cell BP2.out 1).trans rfl
  have BK3 := Aside0.mk (blk_put (blk_set BK2.out (1 + k * 2) (.int .u64 p.f0)) (1 + k * 2 + 1) (.int .u64 p.f1) (SV_set l p q1.out HL.out))
  have BZ3 := Aside0.mk (blk_far (blk_far BZ2.out (p := ⟨w.heap.size, 1 + k * 2, none⟩) (by show w.heap.size + 1 + 1 ≠ w.heap.size; omega) (.int .u64 p.f0)) (p := ⟨w.heap.size, 1 + k * 2 + 1, none⟩) (by show w.heap.size + 1 + 1 ≠ w.heap.size; omega) (.int .u64 p.f1))
  have B3 := Aside0.mk (below_set (below_set B2.out (g := w.heap.size) (j := 1 + k * 2) (v := .int .u64 p.f0) (Nat.le_refl _)) (g := w.heap.size) (j := 1 + k * 2 + 1) (v := .int .u64 p.f1) (Nat.le_refl _))
  go_wp2_with (first
    | (refine wpList_load_row rfl 29 (.tmp 2) rfl w.heap.size rfl 29 (SV (l.set k p)) (0, 0) _ BK3.out Try.underlying29 rfl (info29 _) ?_)
    | (refine store_whole (w := w) (B := w.heap.size) rfl rfl 29 (.tmp 4) (.tmp 21) rfl (g := w.heap.size + 1 + 1) (cs := SV (l.set k p)) rfl _ rfl rfl (stot _) (SV_one _) BZ3.out (by rw [SV_size]; rfl) (by omega) B3.out ?_; intro w4 h1 h2 h3 h4; have BZ4 := Aside0.mk h1; have B4 := Aside0.mk h2; clear h1 h2 h3 h4))
  rw [EK.out]
  exact bodyPost_ret (results_cell2 rfl _ _ (w.heap.size + 1 + 1) 29 (SV (l.set k p)) (0, 0) _ rfl BZ4.out Try.underlying29 rfl (info29 _) rfl) rfl ⟨rfl, B4.out⟩
set_option maxHeartbeats 8000000 in
set_option maxRecDepth 100000 in
theorem withNo_T (l : List S26) (p : S26) (w : World) (hl : l.length < 16) (hf : isF p.f0 l = false) :
    Calls Try.prog 15 #[.agg (SV l), .agg #[.int .u64 p.f0, .int .u64 p.f1]] w fun e w' => e = .returned (.tuple #[.agg (SV (ins l (posF p.f0 l) p)), .int .i64 0]) ∧ Below w.heap.size w w' := by
  have hu29 := Try.underlying29
  have hu26 := Try.underlying26
  have hu27 := Try.underlying27
  have HL := Aside0.mk hl
  have HF := Aside0.mk hf
  clear hl hf
  have BK := Aside0.mk (blk_alloc (blk_alloc (blk_new w (.cells (SV l) 29)) (.cells #[.int .u64 p.f0, .int .u64 p.f1] 26)) (.cells #[.int .i64 0, .int .u64 0, .int .u64 0, .int .u64 0, .int .u64 0, .int .u64 0, .int .u64 0, .int .u64 0, .int .u64 0, .int .u64 0, .int .u64 0, .int .u64 0, .int .u64 0, .int .u64 0, .int .u64 0, .int .u64 0, .int .u64 0, .int .u64 0, .int .u64 0, .int .u64 0, .int .u64 0, .int .u64 0, .int .u64 0, .int .u64 0, .int .u64 0, .int .u64 0, .int .u64 0, .int .u64 0, .int .u64 0, .int .u64 0, .int .u64 0, .int .u64 0, .int .u64 0] 29))
  have BP := Aside0.mk (blk_alloc (blk_new2 w (.cells (SV l) 29) (.cells #[.int .u64 p.f0, .int .u64 p.f1] 26)) (.cells #[.int .i64 0, .int .u64 0, .int .u64 0, .int .u64 0, .int .u64 0, .int .u64 0, .int .u64 0, .int .u64 0, .int .u64 0, .int .u64 0, .int .u64 0, .int .u64 0, .int .u64 0, .int .u64 0, .int .u64 0, .int .u64 0, .int .u64 0, .int .u64 0, .int .u64 0, .int .u64 0, .int .u64 0, .int .u64 0, .int .u64 0, .int .u64 0, .int .u64 0, .int .u64 0, .int .u64 0, .int .u64 0, .int .u64 0, .int .u64 0, .int .u64 0, .int .u64 0, .int .u64 0] 29))
  have BZ := Aside0.mk (blk_new3 w (.cells (SV l) 29) (.cells #[.int .u64 p.f0, .int .u64 p.f1] 26) (.cells #[.int .i64 0, .int .u64 0, .int .u64 0, .int .u64 0, .int .u64 0, .int .u64 0, .int .u64 0, .int .u64 0, .int .u64 0, .int .u64 0, .int .u64 0, .int .u64 0, .int .u64 0, .int .u64 0, .int .u64 0, .int .u64 0, .int .u64 0, .int .u64 0, .int .u64 0, .int .u64 0, .int .u64 0, .int .u64 0, .int .u64 0, .int .u64 0, .int .u64 0, .int .u64 0, .int .u64 0, .int .u64 0, .int .u64 0, .int .u64 0, .int .u64 0, .int .u64 0, .int .u64 0] 29))
  have B1 := Aside0.mk (below_alloc (below_alloc (below_alloc (Below.refl w.heap.size w) (.cells (SV l) 29)) (.cells #[.int .u64 p.f0, .int .u64 p.f1] 26)) (.cells #[.int .i64 0, .int .u64 0, .int .u64 0, .int .u64 0, .int .u64 0, .int .u64 0, .int .u64 0, .int .u64 0, .int .u64 0, .int .u64 0, .int .u64 0, .int .u64 0, .int .u64 0, .int .u64 0, .int .u64 0, .int .u64 0, .int .u64 0, .int .u64 0, .int .u64 0, .int .u64 0, .int .u64 0, .int .u64 0, .int .u64 0, .int .u64 0, .int .u64 0, .int .u64 0, .int .u64 0, .int .u64 0, .int .u64 0, .int .u64 0, .int .u64 0, .int .u64 0, .int .u64 0] 29))
  go_enter Try.func15, Try.ntmps15
  go_wp2_with (refine wpList_load_row rfl 29 (.tmp 2) rfl w.heap.size rfl 29 (SV l) (0, 0) _ BK.out Try.underlying29 rfl (info29 l) ?_)
  generalize ((w.alloc (.cells (SV l) 29)).alloc (.cells #[.int .u64 p.f0, .int .u64 p.f1] 26)).alloc (.cells #[.int .i64 0, .int .u64 0, .int .u64 0, .int .u64 0, .int .u64 0, .int .u64 0, .int .u64 0, .int .u64 0, .int .u64 0, .int .u64 0, .int .u64 0, .int .u64 0, .int .u64 0, .int .u64 0, .int .u64 0, .int .u64 0, .int .u64 0, .int .u64 0, .int .u64 0, .int .u64 0, .int .u64 0, .int .u64 0, .int .u64 0, .int .u64 0, .int .u64 0, .int .u64 0, .int .u64 0, .int .u64 0, .int .u64 0, .int .u64 0, .int .u64 0, .int .u64 0, .int .u64 0] 29) = w1 at *
  refine (find_T l p.f0 _ (Nat.le_of_lt HL.out)).mono ?_
  rintro e w2 ⟨rfl, hb⟩
  have BK2 := Aside0.mk (blk_below BK.out hb)
  have BP2 := Aside0.mk (blk_below BP.out hb)
  have BZ2 := Aside0.mk (blk_below BZ.out hb)
  have B2 := Aside0.mk (below_step B1.out hb)
  clear hb BK BP BZ B1
  obtain ⟨k, hk⟩ : ∃ k, posF p.f0 l = k := ⟨_, rfl⟩
  have q1 := Aside0.mk (show k ≤ l.length by rw [← hk]; exact posF_le _ _)
  rw [hk, HF.out]
  have EK := Aside0.mk hk
  clear hk
  obtain ⟨n, hn⟩ : ∃ n, l.length = n := ⟨_, rfl⟩
  have EN := Aside0.mk hn
  have q2 := Aside0.mk (show k ≤ n ∧ n < 16 by have := q1.out; have := HL.out; omega)
  clear q1 HL
  have c0 : w2.cell? ⟨w.heap.size, 0, none⟩ = some (.int .i64 n) := (blk_cell BK2.out 0).trans (by rw [← hn]; exact SV_0 l)
  clear hn
  have tn : ((n : Int) == 16) = false := beq_eq_false_iff_ne.2 (by have := q2.out; omega)
  have wk : wrap64 ((k : Int) + 1) = ((k + 1 : Nat) : Int) := by have := q2.out; unfold wrap64; omega
  have wn : wrap64 ((n : Int) + 1) = ((n + 1 : Nat) : Int) := by have := q2.out; unfold wrap64; omega
  have sa := fun W => sl_from w.heap.size (k + 1) (by have := q2.out; omega) W
  have sb := fun W => sl_to w.heap.size k n q2.out.1 (by have := q2.out; omega) W
  obtain ⟨w3, hcp, hW1, hW2, hW3⟩ := copy_state (W := w2.drew) (l := l) (g := w.heap.size) BK2.out (k + 1) k n (n - k) (by have := q2.out; omega) q2.out.1 (by have := q2.out; omega) (by have := q2.out; exact Nat.min_eq_left (by omega))
  have BK3 := Aside0.mk hW1
  have BZ3 := Aside0.mk ((hW2 (w.heap.size + 1 + 1) (by omega)).trans BZ2.out)
  have BP3 := Aside0.mk ((hW2 (w.heap.size + 1) (by omega)).trans BP2.out)
  have B3 := Aside0.mk (hW3 w.heap.size w (Nat.le_refl _) (below_drew B2.out))
  clear hW1 hW2 hW3
  obtain ⟨D, hD⟩ : ∃ D, slicedAt ⟨w.heap.size, 1, none⟩ (k + 1) 16 16 2 = D := ⟨_, rfl⟩
  obtain ⟨E, hE⟩ : ∃ E, slicedAt ⟨w.heap.size, 1, none⟩ k n 16 2 = E := ⟨_, rfl⟩
  rw [hD, hE] at hcp
  have sa' : ∀ W, (Instr.sliceAt 27 (.pointer (some ⟨w.heap.size, 1, none⟩)) (some (.int .i64 ((k : Int) + 1))) none none).run Try.prog W = .ok D W := fun W => by rw [← hD]; exact sa W
  have sa2 : ∀ W, (Instr.sliceAt 27 (.pointer (some ⟨w.heap.size, 1, none⟩)) (some (.int .i64 ((k + 1 : Nat) : Int))) none none).run Try.prog W = .ok D W := sa'
  have sb' : ∀ W, (Instr.sliceAt 27 (.pointer (some ⟨w.heap.size, 1, none⟩)) (some (.int .i64 (k : Int))) (some (.int .i64 (n : Int))) none).run Try.prog W = .ok E W := fun W => by rw [← hE]; exact sb W
  clear sa sb hD hE
  go_wp2_with fail
  refine start_ (n := 10) (S := fun w' => w'.cell? ⟨w.heap.size, 0, none⟩ = some (.int .i64 n)) (ds := [9]) (lb 10 0) (by kernel_rfl) rfl rfl (c0) (fun hHeld => ?_)
  refine pS (v := ?_) (a' := ?_) 0 (some 27) (lb 10 1) rfl rfl (by kernel_rfl) (fun _ _ _ h => h) (by rfl) ?_ ?_ ?_; rotate_left; (intro w'; go_simp; with_reducible rfl); rotate_left; (simp only [Act.put, List.setIfInBounds_toArray, List.set_cons_zero, List.set_cons_succ, i64_w, i32_w]; rfl)
  refine pS (v := ?_) (a' := ?_) 1 (some 28) (lb 10 3) rfl rfl (by kernel_rfl) (fun _ _ _ h => h) (by rfl) ?_ ?_ ?_; rotate_left; (intro w'; go_simp; with_reducible rfl); rotate_left; (simp only [Act.put, List.setIfInBounds_toArray, List.set_cons_zero, List.set_cons_succ, i64_w, i32_w]; rfl)
  refine pS (v := ?_) (a' := ?_) 2 (some 29) (lb 10 7) rfl rfl (by kernel_rfl) (fun _ _ _ h => h) (by rfl) ?_ ?_ ?_; rotate_left; (intro w'; go_simp; with_reducible rfl); rotate_left; (simp only [Act.put, List.setIfInBounds_toArray, List.set_cons_zero, List.set_cons_succ, i64_w, i32_w]; rfl)
  refine pS (v := ?_) (a' := ?_) 3 (some 30) (lb 10 15) rfl rfl (by kernel_rfl) (fun _ _ _ h => h) (by rfl) ?_ ?_ ?_; rotate_left; (intro w'; go_simp; with_reducible rfl); rotate_left; (simp only [Act.put, List.setIfInBounds_toArray, List.set_cons_zero, List.set_cons_succ, i64_w, i32_w]; rfl)
  refine pS (v := ?_) (a' := ?_) 4 (some 31) (lb 10 31) rfl rfl (by kernel_rfl) (fun _ _ _ h => h) (by rfl) ?_ ?_ ?_; rotate_left; (intro w'; go_simp; with_reducible rfl); rotate_left; (simp only [Act.put, List.setIfInBounds_toArray, List.set_cons_zero, List.set_cons_succ, i64_w, i32_w]; rfl)
  refine pS (v := ?_) (a' := ?_) 5 (some 32) (lb 10 63) rfl rfl (by kernel_rfl) (fun _ _ _ h => h) (by rfl) ?_ ?_ ?_; rotate_left; (intro w'; go_simp; with_reducible rfl); rotate_left; (simp only [Act.put, List.setIfInBounds_toArray, List.set_cons_zero, List.set_cons_succ, i64_w, i32_w]; rfl)
  refine pS (v := ?_) (a' := ?_) 6 (some 33) (lb 10 127) rfl rfl (by kernel_rfl) (fun _ _ _ h => h) (by rfl) ?_ ?_ ?_; rotate_left; (intro w'; go_simp; with_reducible rfl); rotate_left; (simp only [Act.put, List.setIfInBounds_toArray, List.set_cons_zero, List.set_cons_succ, i64_w, i32_w]; rfl)
  refine tS (v := ?_) (a' := ?_) 7 (some 34) (lb 10 255) rfl rfl (by kernel_rfl) (fun _ _ _ h => h) hHeld (by rfl) ?_ ?_ ?_; rotate_left; (rintro w' s0; go_simp; with_reducible rfl); rotate_left; (simp only [Act.put, List.setIfInBounds_toArray, List.set_cons_zero, List.set_cons_succ, i64_w, i32_w]; rfl)
  refine pS (v := ?_) (a' := ?_) 8 (some 35) (lb 10 511) rfl rfl (by kernel_rfl) (fun _ _ _ h => h) (by rfl) ?_ ?_ ?_; rotate_left; (intro w'; go_simp; with_reducible rfl); rotate_left; (simp only [Act.put, List.setIfInBounds_toArray, List.set_cons_zero, List.set_cons_succ, i64_w, i32_w]; rfl)
  refine last_ (i := 9) (N := some 36) (lb 10 1023) rfl rfl (by kernel_rfl) (by decide) (fun K hK => ?_)
  refine value_ (w1 := ?_) (v := ?_) (by rfl) rfl ?_ ?_
  rotate_left 2
  · go_simp
    constructor
    · rfl
    · rfl
  refine hK.out _ _ ?_
  clear hK K
  refine norm_ (a' := ?_) ?_ ?_
  rotate_left
  · show Act.put _ (some 36) _ = _
    simp only [Act.put, List.setIfInBounds_toArray, List.set_cons_zero, List.set_cons_succ, i64_w, i32_w]
    rfl
  refine done_ (by kernel_rfl) ?_
  clear hcp sa' sa2 sb' c0
  have hcs := SV_ins l k p (by have := EN.out; have := q2.out; omega) (by have := EN.out; have := q2.out; omega)
  rw [EN.out] at hcs
  have CS := Aside0.mk hcs
  have HZ := Aside0.mk (show (spliceC (SV l) (1 + (k + 1) * 2) (((SV l).toList.drop (1 + k * 2)).take ((n - k) * 2))).size = 33 by rw [spliceC_size _ _ _ (by rw [List.length_take, List.length_drop, Array.length_toList, SV_size]; have := q2.out; omega), SV_size])
  have Z0 := Aside0.mk (show (spliceC (SV l) (1 + (k + 1) * 2) (((SV l).toList.drop (1 + k * 2)).take ((n - k) * 2)))[0]? = some (.int .i64 (n : Int)) by rw [spliceC_get _ _ _ (by rw [List.length_take, List.length_drop, Array.length_toList, SV_size]; have := q2.out; omega), if_pos (by omega), SV_0, EN.out])
  clear hcs
  generalize spliceC (SV l) (1 + (k + 1) * 2) (((SV l).toList.drop (1 + k * 2)).take ((n - k) * 2)) = cs3 at *
  have c0 : w3.cell? ⟨w.heap.size, 0, none⟩ = some (.int .i64 n) := (blk_cell BK3.out 0).trans Z0.out
  obtain ⟨x0, ck⟩ := cell_some BK3.out (j := 1 + k * 2) (by rw [HZ.out]; have := q2.out; omega)
  obtain ⟨x1, cv⟩ := cell_some BK3.out (j := 1 + k * 2 + 1) (by rw [HZ.out]; have := q2.out; omega)
  have f0 := blk_frozen BK3.out (1 + k * 2)
  have f1 := blk_frozen BK3.out (1 + k * 2 + 1)
  have f2 := blk_frozen BK3.out 0
  have d0 : w3.cell? ⟨w.heap.size + 1, 0, none⟩ = some (.int .u64 p.f0) := (blk_cell BP3.out 0).trans rfl
  have d1 : w3.cell? ⟨w.heap.size + 1, 1, none⟩ = some (.int .u64 p.f1) := (blk_cell BP3.out 1).trans rfl
  have p0 : ((k : Int) < 16) = True := eq_true (by have := q2.out; omega)
  have p1 : (k < 16) = True := eq_true (by have := q2.out; omega)
  have n1 : ¬ (0 = 1 + k * 2) := by omega
  have n2 : ¬ (0 = 1 + k * 2 + 1) := by omega
  have BK5 := Aside0.mk (blk_put (blk_set (blk_set BK3.out (1 + k * 2) (.int .u64 p.f0)) (1 + k * 2 + 1) (.int .u64 p.f1)) 0 (.int .i64 ((n + 1 : Nat) : Int)) CS.out)
  have BZ5 := Aside0.mk (blk_far (blk_far (blk_far BZ3.out (p := ⟨w.heap.size, 1 + k * 2, none⟩) (by show w.heap.size + 1 + 1 ≠ w.heap.size; omega) (.int .u64 p.f0)) (p := ⟨w.heap.size, 1 + k * 2 + 1, none⟩) (by show w.heap.size + 1 + 1 ≠ w.heap.size; omega) (.int .u64 p.f1)) (p := ⟨w.heap.size, 0, none⟩) (by show w.heap.size + 1 + 1 ≠ w.heap.size; omega) (.int .i64 ((n + 1 : Nat) : Int)))
  have B5 := Aside0.mk (below_set (below_set (below_set B3.out (g := w.heap.size) (j := 1 + k * 2) (v := .int .u64 p.f0) (Nat.le_refl _)) (g := w.heap.size) (j := 1 + k * 2 + 1) (v := .int .u64 p.f1) (Nat.le_refl _)) (g := w.heap.size) (j := 0) (v := .int .i64 ((n + 1 : Nat) : Int)) (Nat.le_refl _))
  go_wp2_with (first
    | (refine wpList_load_row rfl 29 (.tmp 2) rfl w.heap.size rfl 29 (SV (ins l k p)) (0, 0) _ BK5.out Try.underlying29 rfl (info29 _) ?_)
    | (refine store_whole (w := w) (B := w.heap.size) rfl rfl 29 (.tmp 4) (.tmp 45) rfl (g := w.heap.size + 1 + 1) (cs := SV (ins l k p)) rfl _ rfl rfl (stot _) (SV_one _) BZ5.out (by rw [SV_size]; rfl) (by omega) B5.out ?_; intro w6 h1 h2 h3 h4; have BZ6 := Aside0.mk h1; have B6 := Aside0.mk h2; clear h1 h2 h3 h4))
  rw [EK.out]
  exact bodyPost_ret (results_cell2 rfl _ _ (w.heap.size + 1 + 1) 29 (SV (ins l k p)) (0, 0) _ rfl BZ6.out Try.underlying29 rfl (info29 _) rfl) rfl ⟨rfl, B6.out⟩
set_option maxHeartbeats 8000000 in
set_option maxRecDepth 100000 in
theorem withFull_T (l : List S26) (p : S26) (w : World) (hl : l.length = 16) (hf : isF p.f0 l = false) :
    Calls Try.prog 15 #[.agg (SV l), .agg #[.int .u64 p.f0, .int .u64 p.f1]] w fun e w' => e = .returned (.tuple #[.agg (SV []), .int .i64 6]) ∧ Below w.heap.size w w' := by
  have hu29 := Try.underlying29
  have hu26 := Try.underlying26
  have hu27 := Try.underlying27
  have HL := Aside0.mk hl
  have HF := Aside0.mk hf
  clear hl hf
  have BK := Aside0.mk (blk_alloc (blk_alloc (blk_new w (.cells (SV l) 29)) (.cells #[.int .u64 p.f0, .int .u64 p.f1] 26)) (.cells #[.int .i64 0, .int .u64 0, .int .u64 0, .int .u64 0, .int .u64 0, .int .u64 0, .int .u64 0, .int .u64 0, .int .u64 0, .int .u64 0, .int .u64 0, .int .u64 0, .int .u64 0, .int .u64 0, .int .u64 0, .int .u64 0, .int .u64 0, .int .u64 0, .int .u64 0, .int .u64 0, .int .u64 0, .int .u64 0, .int .u64 0, .int .u64 0, .int .u64 0, .int .u64 0, .int .u64 0, .int .u64 0, .int .u64 0, .int .u64 0, .int .u64 0, .int .u64 0, .int .u64 0] 29))
  have BZ := Aside0.mk (blk_new3 w (.cells (SV l) 29) (.cells #[.int .u64 p.f0, .int .u64 p.f1] 26) (.cells #[.int .i64 0, .int .u64 0, .int .u64 0, .int .u64 0, .int .u64 0, .int .u64 0, .int .u64 0, .int .u64 0, .int .u64 0, .int .u64 0, .int .u64 0, .int .u64 0, .int .u64 0, .int .u64 0, .int .u64 0, .int .u64 0, .int .u64 0, .int .u64 0, .int .u64 0, .int .u64 0, .int .u64 0, .int .u64 0, .int .u64 0, .int .u64 0, .int .u64 0, .int .u64 0, .int .u64 0, .int .u64 0, .int .u64 0, .int .u64 0, .int .u64 0, .int .u64 0, .int .u64 0] 29))
  have B1 := Aside0.mk (below_alloc (below_alloc (below_alloc (Below.refl w.heap.size w) (.cells (SV l) 29)) (.cells #[.int .u64 p.f0, .int .u64 p.f1] 26)) (.cells #[.int .i64 0, .int .u64 0, .int .u64 0, .int .u64 0, .int .u64 0, .int .u64 0, .int .u64 0, .int .u64 0, .int .u64 0, .int .u64 0, .int .u64 0, .int .u64 0, .int .u64 0, .int .u64 0, .int .u64 0, .int .u64 0, .int .u64 0, .int .u64 0, .int .u64 0, .int .u64 0, .int .u64 0, .int .u64 0, .int .u64 0, .int .u64 0, .int .u64 0, .int .u64 0, .int .u64 0, .int .u64 0, .int .u64 0, .int .u64 0, .int .u64 0, .int .u64 0, .int .u64 0] 29))
  go_enter Try.func15, Try.ntmps15
  go_wp2_with (refine wpList_load_row rfl 29 (.tmp 2) rfl w.heap.size rfl 29 (SV l) (0, 0) _ BK.out Try.underlying29 rfl (info29 l) ?_)
  generalize ((w.alloc (.cells (SV l) 29)).alloc (.cells #[.int .u64 p.f0, .int .u64 p.f1] 26)).alloc (.cells #[.int .i64 0, .int .u64 0, .int .u64 0, .int .u64 0, .int .u64 0, .int .u64 0, .int .u64 0, .int .u64 0, .int .u64 0, .int .u64 0, .int .u64 0, .int .u64 0, .int .u64 0, .int .u64 0, .int .u64 0, .int .u64 0, .int .u64 0, .int .u64 0, .int .u64 0, .int .u64 0, .int .u64 0, .int .u64 0, .int .u64 0, .int .u64 0, .int .u64 0, .int .u64 0, .int .u64 0, .int .u64 0, .int .u64 0, .int .u64 0, .int .u64 0, .int .u64 0, .int .u64 0] 29) = w1 at *
  refine (find_T l p.f0 _ (Nat.le_of_eq HL.out)).mono ?_
  rintro e w2 ⟨rfl, hb⟩
  have BK2 := Aside0.mk (blk_below BK.out hb)
  have BZ2 := Aside0.mk (blk_below BZ.out hb)
  have B2 := Aside0.mk (below_step B1.out hb)
  clear hb BK BZ B1
  rw [HF.out]
  generalize posF p.f0 l = k
  have c0 : w2.cell? ⟨w.heap.size, 0, none⟩ = some (.int .i64 16) := (blk_cell BK2.out 0).trans (by rw [SV_0, HL.out]; rfl)
  go_wp2_with (refine store_whole (w := w) (B := w.heap.size) rfl rfl 29 (.tmp 4) (.tmp 26) rfl (g := w.heap.size + 1 + 1) (cs := SV []) rfl _ rfl (by rw [SV_nil]; rfl) (stot _) (SV_one _) BZ2.out (by rw [SV_size]; rfl) (by omega) B2.out ?_; intro w4 h1 h2 h3 h4; have BZ4 := Aside0.mk h1; have B4 := Aside0.mk h2; clear h1 h2 h3 h4)
  exact bodyPost_ret (results_cell2 rfl _ _ (w.heap.size + 1 + 1) 29 (SV []) (0, 0) _ rfl BZ4.out Try.underlying29 rfl (info29 _) rfl) rfl ⟨rfl, B4.out⟩
theorem with_T (l : List S26) (p : S26) (w : World) (hl : l.length ≤ 16) :
    Calls Try.prog 15 #[.agg (SV l), .agg #[.int .u64 p.f0, .int .u64 p.f1]] w fun e w' => e = .returned (.tuple #[.agg (SV (withV l p).1), .int .i64 (withV l p).2]) ∧ Below w.heap.size w w' := by
  unfold withV
  by_cases hf : isF p.f0 l = true
  · rw [if_pos hf]; exact withIs_T l p w hl hf
  · rw [if_neg hf]
    by_cases h16 : l.length = 16
    · rw [if_pos h16]; exact withFull_T l p w h16 (Bool.eq_false_iff.2 hf)
    · rw [if_neg h16]; exact withNo_T l p w (by omega) (Bool.eq_false_iff.2 hf)
end Go.Proofs.Ytcphmelmieedfab.PSpecExact

