/-
A pair struck.
-/
import Derived.Test.YtcphmelmieedfabSpecB
namespace Go.Proofs.Ytcphmelmieedfab.PSpecExact
open Go Go.RowKit Go.Proofs.YtcphmelmieedfabW.PrintWords Go.Proofs.YtcphmelmieedfabW.PrintLast Go.Proofs.YtcphmelmieedfabW.PrintMore
attribute [local go_sem] max2_int min2_int max_two min_two max_three min_three max_four min_four
set_option linter.unusedVariables false
set_option linter.unusedSimpArgs false
def del (l : List S26) (k : Nat) : List S26 := l.take k ++ l.drop (k + 1)
theorem del_len (l : List S26) (k : Nat) (h : k < l.length) : (del l k).length + 1 = l.length := by unfold del; simp; omega
theorem del_get (l : List S26) (k : Nat) (h : k < l.length) (i : Nat) : (del l k).getD i ⟨0, 0⟩ = if i < k then l.getD i ⟨0, 0⟩ else l.getD (i + 1) ⟨0, 0⟩ := by
  unfold del
  rw [List.getD_eq_getElem?_getD, List.getD_eq_getElem?_getD, List.getD_eq_getElem?_getD]
  by_cases h1 : i < k
  · rw [if_pos h1, List.getElem?_append_left (by simp; omega), List.getElem?_take_of_lt h1]
  · rw [if_neg h1, List.getElem?_append_right (by simp; omega)]
    have e1 : (l.take k).length = k := by simp; omega
    rw [e1, List.getElem?_drop, show k + 1 + (i - k) = i + 1 by omega]
theorem SV_del (l : List S26) (k : Nat) (hk : k < l.length) (hl : l.length ≤ 16) :
    (((spliceC (SV l) (1 + k * 2) (((SV l).toList.drop (1 + (k + 1) * 2)).take ((l.length - (k + 1)) * 2))).setIfInBounds 0 (.int .i64 ((l.length - 1 : Nat) : Int))).setIfInBounds (1 + (l.length - 1) * 2) (.int .u64 0)).setIfInBounds (1 + (l.length - 1) * 2 + 1) (.int .u64 0) = SV (del l k) := by
  have hlen : (((SV l).toList.drop (1 + (k + 1) * 2)).take ((l.length - (k + 1)) * 2)).length = (l.length - (k + 1)) * 2 := by
    have h33 : (SV l).toList.length = 33 := by rw [Array.length_toList, SV_size]
    rw [List.length_take, List.length_drop, h33]; omega
  have hfit : 1 + k * 2 + (((SV l).toList.drop (1 + (k + 1) * 2)).take ((l.length - (k + 1)) * 2)).length ≤ (SV l).size := by rw [hlen, SV_size]; omega
  have hsz := spliceC_size (SV l) (1 + k * 2) _ hfit
  rw [SV_size] at hsz
  have dl := del_len l k hk
  have key : ∀ i, i < 16 → i ≠ l.length - 1 → ∀ d, d < 2 → (spliceC (SV l) (1 + k * 2) (((SV l).toList.drop (1 + (k + 1) * 2)).take ((l.length - (k + 1)) * 2)))[1 + 2 * i + d]? = if i < k then (SV l)[1 + 2 * i + d]? else if i < l.length - 1 then (SV l)[1 + 2 * (i + 1) + d]? else (SV l)[1 + 2 * i + d]? := by
    intro i hi hik d hd
    rw [spliceC_get _ _ _ hfit, hlen]
    by_cases h1 : i < k
    · rw [if_pos h1, if_pos (by omega)]
    · rw [if_neg h1, if_neg (by omega)]
      by_cases h2 : i < l.length - 1
      · rw [if_pos h2, if_pos (by omega), take_drop_get (by omega) (by omega)]
        congr 1
        omega
      · rw [if_neg h2, if_neg (by omega)]
  have far : ∀ i, ¬ i < k → ¬ i < l.length - 1 → (del l k).getD i ⟨0, 0⟩ = ⟨0, 0⟩ := by
    intro i h1 h2
    rw [del_get l k hk, if_neg h1, List.getD_eq_getElem?_getD, List.getElem?_eq_none (by omega)]
    rfl
  have far2 : ∀ i, l.length ≤ i → l.getD i ⟨0, 0⟩ = ⟨0, 0⟩ := by
    intro i h
    rw [List.getD_eq_getElem?_getD, List.getElem?_eq_none (by omega)]
    rfl
  refine SV_ext (by simp [hsz]) ?_ (fun i hi => ⟨?_, ?_⟩)
  · rw [Array.getElem?_setIfInBounds_ne (by omega), Array.getElem?_setIfInBounds_ne (by omega), Array.getElem?_setIfInBounds_self_of_lt (by rw [hsz]; omega), show (del l k).length = l.length - 1 by omega]
  · rw [Array.getElem?_setIfInBounds_ne (by omega)]
    unfold kOf
    by_cases e : i = l.length - 1
    · rw [far i (by omega) (by omega), show 1 + 2 * i = 1 + (l.length - 1) * 2 by omega, Array.getElem?_setIfInBounds_self_of_lt (by simp [hsz]; omega)]
    · rw [Array.getElem?_setIfInBounds_ne (by omega), Array.getElem?_setIfInBounds_ne (by omega)]
      have q := key i hi e 0 (by omega)
      rw [show 1 + 2 * i + 0 = 1 + 2 * i by omega] at q
      rw [q]
      by_cases h1 : i < k
      · rw [if_pos h1, del_get l k hk, if_pos h1]; exact SV_k l hi
      · rw [if_neg h1]
        by_cases h2 : i < l.length - 1
        · rw [if_pos h2, del_get l k hk, if_neg h1]; exact SV_k l (by omega)
        · rw [if_neg h2, far i h1 h2]
          have z := SV_k l hi
          unfold kOf at z
          rw [z, far2 i (by omega)]
  · unfold vOf
    by_cases e : i = l.length - 1
    · rw [far i (by omega) (by omega), show 1 + 2 * i + 1 = 1 + (l.length - 1) * 2 + 1 by omega, Array.getElem?_setIfInBounds_self_of_lt (by simp [hsz]; omega)]
    · rw [Array.getElem?_setIfInBounds_ne (by omega), Array.getElem?_setIfInBounds_ne (by omega), Array.getElem?_setIfInBounds_ne (by omega)]
      have q := key i hi e 1 (by omega)
      rw [q]
      by_cases h1 : i < k
      · rw [if_pos h1, del_get l k hk, if_pos h1]; exact SV_v l hi
      · rw [if_neg h1]
        by_cases h2 : i < l.length - 1
        · rw [if_pos h2, del_get l k hk, if_neg h1]; exact SV_v l (by omega)
        · rw [if_neg h2, far i h1 h2]
          have z := SV_v l hi
          unfold vOf at z
          rw [z, far2 i (by omega)]
/-- A key's pair struck. -/
def withoutV (l : List S26) (key : Int) : List S26 := if isF key l = true then del l (posF key l) else l
set_option maxHeartbeats 8000000 in
set_option maxRecDepth 100000 in
theorem withoutNo_T (l : List S26) (key : Int) (w : World) (hl : l.length ≤ 16) (hf : isF key l = false) :
    Calls Try.prog 16 #[.agg (SV l), .int .u64 key] w fun e w' => e = .returned (.agg (SV l)) ∧ Below w.heap.size w w' := by
  have hu29 := Try.underlying29
  have HL := Aside0.mk hl
  have HF := Aside0.mk hf
  clear hl hf
  have BK := Aside0.mk (blk_alloc (blk_new w (.cells (SV l) 29)) (.cells #[.int .i64 0, .int .u64 0, .int .u64 0, .int .u64 0, .int .u64 0, .int .u64 0, .int .u64 0, .int .u64 0, .int .u64 0, .int .u64 0, .int .u64 0, .int .u64 0, .int .u64 0, .int .u64 0, .int .u64 0, .int .u64 0, .int .u64 0, .int .u64 0, .int .u64 0, .int .u64 0, .int .u64 0, .int .u64 0, .int .u64 0, .int .u64 0, .int .u64 0, .int .u64 0, .int .u64 0, .int .u64 0, .int .u64 0, .int .u64 0, .int .u64 0, .int .u64 0, .int .u64 0] 29))
  have BZ := Aside0.mk (blk_new2 w (.cells (SV l) 29) (.cells #[.int .i64 0, .int .u64 0, .int .u64 0, .int .u64 0, .int .u64 0, .int .u64 0, .int .u64 0, .int .u64 0, .int .u64 0, .int .u64 0, .int .u64 0, .int .u64 0, .int .u64 0, .int .u64 0, .int .u64 0, .int .u64 0, .int .u64 0, .int .u64 0, .int .u64 0, .int .u64 0, .int .u64 0, .int .u64 0, .int .u64 0, .int .u64 0, .int .u64 0, .int .u64 0, .int .u64 0, .int .u64 0, .int .u64 0, .int .u64 0, .int .u64 0, .int .u64 0, .int .u64 0] 29))
  have B1 := Aside0.mk (below_alloc (below_alloc (Below.refl w.heap.size w) (.cells (SV l) 29)) (.cells #[.int .i64 0, .int .u64 0, .int .u64 0, .int .u64 0, .int .u64 0, .int .u64 0, .int .u64 0, .int .u64 0, .int .u64 0, .int .u64 0, .int .u64 0, .int .u64 0, .int .u64 0, .int .u64 0, .int .u64 0, .int .u64 0, .int .u64 0, .int .u64 0, .int .u64 0, .int .u64 0, .int .u64 0, .int .u64 0, .int .u64 0, .int .u64 0, .int .u64 0, .int .u64 0, .int .u64 0, .int .u64 0, .int .u64 0, .int .u64 0, .int .u64 0, .int .u64 0, .int .u64 0] 29))
  go_enter Try.func16, Try.ntmps16
  go_wp2_with (refine wpList_load_row rfl 29 (.tmp 2) rfl w.heap.size rfl 29 (SV l) (0, 0) _ BK.out Try.underlying29 rfl (info29 l) ?_)
  generalize (w.alloc (.cells (SV l) 29)).alloc (.cells #[.int .i64 0, .int .u64 0, .int .u64 0, .int .u64 0, .int .u64 0, .int .u64 0, .int .u64 0, .int .u64 0, .int .u64 0, .int .u64 0, .int .u64 0, .int .u64 0, .int .u64 0, .int .u64 0, .int .u64 0, .int .u64 0, .int .u64 0, .int .u64 0, .int .u64 0, .int .u64 0, .int .u64 0, .int .u64 0, .int .u64 0, .int .u64 0, .int .u64 0, .int .u64 0, .int .u64 0, .int .u64 0, .int .u64 0, .int .u64 0, .int .u64 0, .int .u64 0, .int .u64 0] 29) = w1 at *
  refine (find_T l key _ HL.out).mono ?_
  rintro e w2 ⟨rfl, hb⟩
  have BK2 := Aside0.mk (blk_below BK.out hb)
  have BZ2 := Aside0.mk (blk_below BZ.out hb)
  have B2 := Aside0.mk (below_step B1.out hb)
  clear hb BK BZ B1
  rw [HF.out]
  generalize posF key l = k
  go_wp2_with (first
    | (refine wpList_load_row rfl 29 (.tmp 2) rfl w.heap.size rfl 29 (SV l) (0, 0) _ BK2.out Try.underlying29 rfl (info29 _) ?_)
    | (refine store_whole (w := w) (B := w.heap.size) rfl rfl 29 (.tmp 4) (.tmp 15) rfl (g := w.heap.size + 1) (cs := SV l) rfl _ rfl rfl (stot _) (SV_one _) BZ2.out (by rw [SV_size]; rfl) (by omega) B2.out ?_; intro w4 h1 h2 h3 h4; have BZ4 := Aside0.mk h1; have B4 := Aside0.mk h2; clear h1 h2 h3 h4))
  exact bodyPost_ret (results_cell_row rfl _ _ (w.heap.size + 1) 29 (SV l) (0, 0) _ rfl BZ4.out Try.underlying29 rfl (info29 _)) rfl ⟨rfl, B4.out⟩
set_option maxHeartbeats 8000000 in
set_option maxRecDepth 100000 in
theorem withoutIs_T (l : List S26) (key : Int) (w : World) (hl : l.length ≤ 16) (hf : isF key l = true) :
    Calls Try.prog 16 #[.agg (SV l), .int .u64 key] w fun e w' => e = .returned (.agg (SV (del l (posF key l)))) ∧ Below w.heap.size w w' := by
  have hu29 := Try.underlying29
  have hu26 := Try.underlying26
  have hu27 := Try.underlying27
  have HL := Aside0.mk hl
  have HF := Aside0.mk hf
  clear hl hf
  have BK := Aside0.mk (blk_alloc (blk_new w (.cells (SV l) 29)) (.cells #[.int .i64 0, .int .u64 0, .int .u64 0, .int .u64 0, .int .u64 0, .int .u64 0, .int .u64 0, .int .u64 0, .int .u64 0, .int .u64 0, .int .u64 0, .int .u64 0, .int .u64 0, .int .u64 0, .int .u64 0, .int .u64 0, .int .u64 0, .int .u64 0, .int .u64 0, .int .u64 0, .int .u64 0, .int .u64 0, .int .u64 0, .int .u64 0, .int .u64 0, .int .u64 0, .int .u64 0, .int .u64 0, .int .u64 0, .int .u64 0, .int .u64 0, .int .u64 0, .int .u64 0] 29))
  have BZ := Aside0.mk (blk_new2 w (.cells (SV l) 29) (.cells #[.int .i64 0, .int .u64 0, .int .u64 0, .int .u64 0, .int .u64 0, .int .u64 0, .int .u64 0, .int .u64 0, .int .u64 0, .int .u64 0, .int .u64 0, .int .u64 0, .int .u64 0, .int .u64 0, .int .u64 0, .int .u64 0, .int .u64 0, .int .u64 0, .int .u64 0, .int .u64 0, .int .u64 0, .int .u64 0, .int .u64 0, .int .u64 0, .int .u64 0, .int .u64 0, .int .u64 0, .int .u64 0, .int .u64 0, .int .u64 0, .int .u64 0, .int .u64 0, .int .u64 0] 29))
  have B1 := Aside0.mk (below_alloc (below_alloc (Below.refl w.heap.size w) (.cells (SV l) 29)) (.cells #[.int .i64 0, .int .u64 0, .int .u64 0, .int .u64 0, .int .u64 0, .int .u64 0, .int .u64 0, .int .u64 0, .int .u64 0, .int .u64 0, .int .u64 0, .int .u64 0, .int .u64 0, .int .u64 0, .int .u64 0, .int .u64 0, .int .u64 0, .int .u64 0, .int .u64 0, .int .u64 0, .int .u64 0, .int .u64 0, .int .u64 0, .int .u64 0, .int .u64 0, .int .u64 0, .int .u64 0, .int .u64 0, .int .u64 0, .int .u64 0, .int .u64 0, .int .u64 0, .int .u64 0] 29))
  go_enter Try.func16, Try.ntmps16
  go_wp2_with (refine wpList_load_row rfl 29 (.tmp 2) rfl w.heap.size rfl 29 (SV l) (0, 0) _ BK.out Try.underlying29 rfl (info29 l) ?_)
  generalize (w.alloc (.cells (SV l) 29)).alloc (.cells #[.int .i64 0, .int .u64 0, .int .u64 0, .int .u64 0, .int .u64 0, .int .u64 0, .int .u64 0, .int .u64 0, .int .u64 0, .int .u64 0, .int .u64 0, .int .u64 0, .int .u64 0, .int .u64 0, .int .u64 0, .int .u64 0, .int .u64 0, .int .u64 0, .int .u64 0, .int .u64 0, .int .u64 0, .int .u64 0, .int .u64 0, .int .u64 0, .int .u64 0, .int .u64 0, .int .u64 0, .int .u64 0, .int .u64 0, .int .u64 0, .int .u64 0, .int .u64 0, .int .u64 0] 29) = w1 at *
  refine (find_T l key _ HL.out).mono ?_
  rintro e w2 ⟨rfl, hb⟩
  have BK2 := Aside0.mk (blk_below BK.out hb)
  have BZ2 := Aside0.mk (blk_below BZ.out hb)
  have B2 := Aside0.mk (below_step B1.out hb)
  clear hb BK BZ B1
  obtain ⟨k, hk⟩ : ∃ k, posF key l = k := ⟨_, rfl⟩
  have q1 := Aside0.mk (show k < l.length by rw [← hk]; exact isF_lt HF.out)
  rw [hk, HF.out]
  have EK := Aside0.mk hk
  clear hk
  obtain ⟨n, hn⟩ : ∃ n, l.length = n + 1 := ⟨l.length - 1, by have := q1.out; omega⟩
  have EN := Aside0.mk hn
  have q2 := Aside0.mk (show k ≤ n ∧ n + 1 ≤ 16 by have := q1.out; have := HL.out; omega)
  clear q1 HL
  have c0 : w2.cell? ⟨w.heap.size, 0, none⟩ = some (.int .i64 ((n + 1 : Nat) : Int)) := (blk_cell BK2.out 0).trans (by rw [← hn]; exact SV_0 l)
  clear hn
  have wk : wrap64 ((k : Int) + 1) = ((k + 1 : Nat) : Int) := by have := q2.out; unfold wrap64; omega
  have wn : wrap64 (((n + 1 : Nat) : Int) - 1) = (n : Int) := by have := q2.out; unfold wrap64; omega
  have wn2 : wrap64 (n : Int) = (n : Int) := by have := q2.out; unfold wrap64; omega
  have sa := fun W => sl_from w.heap.size k (by have := q2.out; omega) W
  have sb := fun W => sl_to w.heap.size (k + 1) (n + 1) (by have := q2.out; omega) (by have := q2.out; omega) W
  obtain ⟨w3, hcp, hW1, hW2, hW3⟩ := copy_state (W := w2.drew) (l := l) (g := w.heap.size) BK2.out k (k + 1) (n + 1) (n - k) (by have := q2.out; omega) (by have := q2.out; omega) (by have := q2.out; omega) (by have := q2.out; rw [show n + 1 - (k + 1) = n - k by omega]; exact Nat.min_eq_left (by omega))
  have BK3 := Aside0.mk hW1
  have BZ3 := Aside0.mk ((hW2 (w.heap.size + 1) (by omega)).trans BZ2.out)
  have B3 := Aside0.mk (hW3 w.heap.size w (Nat.le_refl _) (below_drew B2.out))
  clear hW1 hW2 hW3
  obtain ⟨D, hD⟩ : ∃ D, slicedAt ⟨w.heap.size, 1, none⟩ k 16 16 2 = D := ⟨_, rfl⟩
  obtain ⟨E, hE⟩ : ∃ E, slicedAt ⟨w.heap.size, 1, none⟩ (k + 1) (n + 1) 16 2 = E := ⟨_, rfl⟩
  rw [hD, hE] at hcp
  have sa' : ∀ W, (Instr.sliceAt 27 (.pointer (some ⟨w.heap.size, 1, none⟩)) (some (.int .i64 (k : Int))) none none).run Try.prog W = .ok D W := fun W => by rw [← hD]; exact sa W
  have sb' : ∀ W, (Instr.sliceAt 27 (.pointer (some ⟨w.heap.size, 1, none⟩)) (some (.int .i64 ((k : Int) + 1))) (some (.int .i64 ((n : Int) + 1))) none).run Try.prog W = .ok E W := fun W => by rw [← hE]; exact sb W
  have sb2 : ∀ W, (Instr.sliceAt 27 (.pointer (some ⟨w.heap.size, 1, none⟩)) (some (.int .i64 ((k + 1 : Nat) : Int))) (some (.int .i64 ((n + 1 : Nat) : Int))) none).run Try.prog W = .ok E W := sb'
  clear sa sb hD hE
  go_wp2_with fail
  refine start_ (n := 10) (S := fun w' => w'.cell? ⟨w.heap.size, 0, none⟩ = some (.int .i64 ((n + 1 : Nat) : Int))) (ds := [9]) (lb 10 0) (by kernel_rfl) rfl rfl (c0) (fun hHeld => ?_)
  refine pS (v := ?_) (a' := ?_) 0 (some 16) (lb 10 1) rfl rfl (by kernel_rfl) (fun _ _ _ h => h) (by rfl) ?_ ?_ ?_; rotate_left; (intro w'; go_simp; with_reducible rfl); rotate_left; (simp only [Act.put, List.setIfInBounds_toArray, List.set_cons_zero, List.set_cons_succ, i64_w, i32_w]; rfl)
  refine pS (v := ?_) (a' := ?_) 1 (some 17) (lb 10 3) rfl rfl (by kernel_rfl) (fun _ _ _ h => h) (by rfl) ?_ ?_ ?_; rotate_left; (intro w'; go_simp; with_reducible rfl); rotate_left; (simp only [Act.put, List.setIfInBounds_toArray, List.set_cons_zero, List.set_cons_succ, i64_w, i32_w]; rfl)
  refine pS (v := ?_) (a' := ?_) 2 (some 18) (lb 10 7) rfl rfl (by kernel_rfl) (fun _ _ _ h => h) (by rfl) ?_ ?_ ?_; rotate_left; (intro w'; go_simp; with_reducible rfl); rotate_left; (simp only [Act.put, List.setIfInBounds_toArray, List.set_cons_zero, List.set_cons_succ, i64_w, i32_w]; rfl)
  refine pS (v := ?_) (a' := ?_) 3 (some 19) (lb 10 15) rfl rfl (by kernel_rfl) (fun _ _ _ h => h) (by rfl) ?_ ?_ ?_; rotate_left; (intro w'; go_simp; with_reducible rfl); rotate_left; (simp only [Act.put, List.setIfInBounds_toArray, List.set_cons_zero, List.set_cons_succ, i64_w, i32_w]; rfl)
  refine pS (v := ?_) (a' := ?_) 4 (some 20) (lb 10 31) rfl rfl (by kernel_rfl) (fun _ _ _ h => h) (by rfl) ?_ ?_ ?_; rotate_left; (intro w'; go_simp; with_reducible rfl); rotate_left; (simp only [Act.put, List.setIfInBounds_toArray, List.set_cons_zero, List.set_cons_succ, i64_w, i32_w]; rfl)
  refine pS (v := ?_) (a' := ?_) 5 (some 21) (lb 10 63) rfl rfl (by kernel_rfl) (fun _ _ _ h => h) (by rfl) ?_ ?_ ?_; rotate_left; (intro w'; go_simp; with_reducible rfl); rotate_left; (simp only [Act.put, List.setIfInBounds_toArray, List.set_cons_zero, List.set_cons_succ, i64_w, i32_w]; rfl)
  refine pS (v := ?_) (a' := ?_) 6 (some 22) (lb 10 127) rfl rfl (by kernel_rfl) (fun _ _ _ h => h) (by rfl) ?_ ?_ ?_; rotate_left; (intro w'; go_simp; with_reducible rfl); rotate_left; (simp only [Act.put, List.setIfInBounds_toArray, List.set_cons_zero, List.set_cons_succ, i64_w, i32_w]; rfl)
  refine tS (v := ?_) (a' := ?_) 7 (some 23) (lb 10 255) rfl rfl (by kernel_rfl) (fun _ _ _ h => h) hHeld (by rfl) ?_ ?_ ?_; rotate_left; (rintro w' s0; go_simp; with_reducible rfl); rotate_left; (simp only [Act.put, List.setIfInBounds_toArray, List.set_cons_zero, List.set_cons_succ, i64_w, i32_w]; rfl)
  refine pS (v := ?_) (a' := ?_) 8 (some 24) (lb 10 511) rfl rfl (by kernel_rfl) (fun _ _ _ h => h) (by rfl) ?_ ?_ ?_; rotate_left; (intro w'; go_simp; with_reducible rfl); rotate_left; (simp only [Act.put, List.setIfInBounds_toArray, List.set_cons_zero, List.set_cons_succ, i64_w, i32_w]; rfl)
  refine last_ (i := 9) (N := some 25) (lb 10 1023) rfl rfl (by kernel_rfl) (by decide) (fun K hK => ?_)
  refine value_ (w1 := ?_) (v := ?_) (by rfl) rfl ?_ ?_
  rotate_left 2
  · go_simp
    constructor
    · rfl
    · rfl
  refine hK.out _ _ ?_
  clear hK K
  refine norm_ (a' := ?_) ?_ ?_
  rotate_left
  · show Act.put _ (some 25) _ = _
    simp only [Act.put, List.setIfInBounds_toArray, List.set_cons_zero, List.set_cons_succ, i64_w, i32_w]
    rfl
  refine done_ (by kernel_rfl) ?_
  clear hcp sa' sb2 sb' c0
  have hcs := SV_del l k (by have := EN.out; have := q2.out; omega) (by have := EN.out; have := q2.out; omega)
  rw [EN.out, show n + 1 - (k + 1) = n - k by omega, show n + 1 - 1 = n by omega] at hcs
  have CS := Aside0.mk hcs
  have h33 : (((SV l).toList.drop (1 + (k + 1) * 2)).take ((n - k) * 2)).length ≤ (n - k) * 2 := by rw [List.length_take]; exact Nat.min_le_left _ _
  have HZ := Aside0.mk (show (spliceC (SV l) (1 + k * 2) (((SV l).toList.drop (1 + (k + 1) * 2)).take ((n - k) * 2))).size = 33 by rw [spliceC_size _ _ _ (by rw [SV_size]; have := q2.out; omega), SV_size])
  have Z0 := Aside0.mk (show (spliceC (SV l) (1 + k * 2) (((SV l).toList.drop (1 + (k + 1) * 2)).take ((n - k) * 2)))[0]? = some (.int .i64 ((n + 1 : Nat) : Int)) by rw [spliceC_get _ _ _ (by rw [SV_size]; have := q2.out; omega), if_pos (by omega), SV_0, EN.out])
  clear hcs h33
  generalize spliceC (SV l) (1 + k * 2) (((SV l).toList.drop (1 + (k + 1) * 2)).take ((n - k) * 2)) = cs3 at *
  have c0 : w3.cell? ⟨w.heap.size, 0, none⟩ = some (.int .i64 ((n + 1 : Nat) : Int)) := (blk_cell BK3.out 0).trans Z0.out
  obtain ⟨x0, ck⟩ := cell_some BK3.out (j := 1 + n * 2) (by rw [HZ.out]; have := q2.out; omega)
  obtain ⟨x1, cv⟩ := cell_some BK3.out (j := 1 + n * 2 + 1) (by rw [HZ.out]; have := q2.out; omega)
  have f0 := blk_frozen BK3.out (1 + n * 2)
  have f1 := blk_frozen BK3.out (1 + n * 2 + 1)
  have f2 := blk_frozen BK3.out 0
  have p0 : ((n : Int) < 16) = True := eq_true (by have := q2.out; omega)
  have p1 : (n < 16) = True := eq_true (by have := q2.out; omega)
  have BK5 := Aside0.mk (blk_put (blk_set (blk_set BK3.out 0 (.int .i64 (n : Int))) (1 + n * 2) (.int .u64 0)) (1 + n * 2 + 1) (.int .u64 0) CS.out)
  have BZ5 := Aside0.mk (blk_far (blk_far (blk_far BZ3.out (p := ⟨w.heap.size, 0, none⟩) (by show w.heap.size + 1 ≠ w.heap.size; omega) (.int .i64 (n : Int))) (p := ⟨w.heap.size, 1 + n * 2, none⟩) (by show w.heap.size + 1 ≠ w.heap.size; omega) (.int .u64 0)) (p := ⟨w.heap.size, 1 + n * 2 + 1, none⟩) (by show w.heap.size + 1 ≠ w.heap.size; omega) (.int .u64 0))
  have B5 := Aside0.mk (below_set (below_set (below_set B3.out (g := w.heap.size) (j := 0) (v := .int .i64 (n : Int)) (Nat.le_refl _)) (g := w.heap.size) (j := 1 + n * 2) (v := .int .u64 0) (Nat.le_refl _)) (g := w.heap.size) (j := 1 + n * 2 + 1) (v := .int .u64 0) (Nat.le_refl _))
  go_wp2_with (first
    | (refine wpList_load_row rfl 29 (.tmp 2) rfl w.heap.size rfl 29 (SV (del l k)) (0, 0) _ BK5.out Try.underlying29 rfl (info29 _) ?_)
    | (refine store_whole (w := w) (B := w.heap.size) rfl rfl 29 (.tmp 4) (.tmp 35) rfl (g := w.heap.size + 1) (cs := SV (del l k)) rfl _ rfl rfl (stot _) (SV_one _) BZ5.out (by rw [SV_size]; rfl) (by omega) B5.out ?_; intro w6 h1 h2 h3 h4; have BZ6 := Aside0.mk h1; have B6 := Aside0.mk h2; clear h1 h2 h3 h4))
  rw [EK.out]
  exact bodyPost_ret (results_cell_row rfl _ _ (w.heap.size + 1) 29 (SV (del l k)) (0, 0) _ rfl BZ6.out Try.underlying29 rfl (info29 _)) rfl ⟨rfl, B6.out⟩
theorem without_T (l : List S26) (key : Int) (w : World) (hl : l.length ≤ 16) :
    Calls Try.prog 16 #[.agg (SV l), .int .u64 key] w fun e w' => e = .returned (.agg (SV (withoutV l key))) ∧ Below w.heap.size w w' := by
  unfold withoutV
  by_cases hf : isF key l = true
  · rw [if_pos hf]; exact withoutIs_T l key w hl hf
  · rw [if_neg hf]; exact withoutNo_T l key w hl (Bool.eq_false_iff.2 hf)
end Go.Proofs.Ytcphmelmieedfab.PSpecExact

