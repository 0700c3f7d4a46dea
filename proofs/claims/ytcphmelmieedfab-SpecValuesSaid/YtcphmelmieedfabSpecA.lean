/-
States of up to sixteen pairs: their cells; where a key is, its value; the laws of copies over themselves.
-/
import Derived.Laws.CopyOwn
import Derived.Test.YtcphmelmieedfabPSpecExactx1
import Derived.Test.YtcphmelmieedfabShort
namespace Go.Proofs.Ytcphmelmieedfab.PSpecExact
open Go Go.RowKit Go.Proofs.YtcphmelmieedfabW.PrintWords Go.Proofs.YtcphmelmieedfabW.PrintLast Go.Proofs.YtcphmelmieedfabW.PrintMore
theorem blk_new2 (w : World) (o1 o2 : Obj) : ((w.alloc o1).alloc o2).heap[w.heap.size + 1]? = some o2 := by have := blk_new (w.alloc o1) o2; simpa using this
theorem blk_new3 (w : World) (o1 o2 o3 : Obj) : (((w.alloc o1).alloc o2).alloc o3).heap[w.heap.size + 1 + 1]? = some o3 := by have := blk_new ((w.alloc o1).alloc o2) o3; simpa using this
end Go.Proofs.Ytcphmelmieedfab.PSpecExact

namespace Go.Proofs.Ytcphmelmieedfab.PSpecExact
open Go Go.RowKit Go.Proofs.YtcphmelmieedfabW.PrintWords Go.Proofs.YtcphmelmieedfabW.PrintLast Go.Proofs.YtcphmelmieedfabW.PrintMore
set_option linter.unusedVariables false
set_option linter.unusedSimpArgs false
structure S26 where
  f0 : Int
  f1 : Int
def k26 : Kd S26 := Kd.iso (Kd.pair (Kd.int .u64) (Kd.int .u64)) (fun x : S26 => (x.f0, x.f1))
instance : Inhabited S26 := ⟨⟨0, 0⟩⟩
/-- A pair's two cells, one behind the other. -/
def svL : List S26 → Nat → List Value
  | _, 0 => []
  | [], m + 1 => .int .u64 0 :: .int .u64 0 :: svL [] m
  | x :: r, m + 1 => .int .u64 x.f0 :: .int .u64 x.f1 :: svL r m
/-- A state's cells: how many, and sixteen pairs. -/
def SV (l : List S26) : Array Value := (.int .i64 l.length :: svL l 16).toArray
def kOf (l : List S26) (i : Nat) : Int := (l.getD i ⟨0, 0⟩).f0
def vOf (l : List S26) (i : Nat) : Int := (l.getD i ⟨0, 0⟩).f1
theorem svL_len : ∀ (l : List S26) (m : Nat), (svL l m).length = 2 * m
  | _, 0 => by simp [svL]
  | [], m + 1 => by have := svL_len [] m; simp [svL]; omega
  | x :: r, m + 1 => by have := svL_len r m; simp [svL]; omega
theorem SV_size (l : List S26) : (SV l).size = 33 := by
  show (Value.int .i64 l.length :: svL l 16).toArray.size = 33
  have := svL_len l 16
  simp; omega
theorem svL_get : ∀ (m : Nat) (l : List S26) (i : Nat), i < m → (svL l m)[2 * i]? = some (.int .u64 (kOf l i)) ∧ (svL l m)[2 * i + 1]? = some (.int .u64 (vOf l i))
  | 0, _, i, h => by omega
  | m + 1, [], 0, _ => by simp [svL, kOf, vOf]
  | m + 1, x :: r, 0, _ => by simp [svL, kOf, vOf]
  | m + 1, [], i + 1, h => by
    have := svL_get m [] i (by omega)
    rw [show 2 * (i + 1) = 2 * i + 1 + 1 by omega]
    simpa [svL, kOf, vOf] using this
  | m + 1, x :: r, i + 1, h => by
    have := svL_get m r i (by omega)
    rw [show 2 * (i + 1) = 2 * i + 1 + 1 by omega]
    simpa [svL, kOf, vOf] using this
theorem SV_0 (l : List S26) : (SV l)[0]? = some (.int .i64 l.length) := by simp [SV]
theorem SV_k (l : List S26) {i : Nat} (h : i < 16) : (SV l)[1 + 2 * i]? = some (.int .u64 (kOf l i)) := by
  have := (svL_get 16 l i h).1
  simp only [SV, List.getElem?_toArray]
  rw [show 1 + 2 * i = 2 * i + 1 by omega, List.getElem?_cons_succ]
  exact this
theorem SV_v (l : List S26) {i : Nat} (h : i < 16) : (SV l)[1 + 2 * i + 1]? = some (.int .u64 (vOf l i)) := by
  have := (svL_get 16 l i h).2
  simp only [SV, List.getElem?_toArray]
  rw [show 1 + 2 * i + 1 = (2 * i + 1) + 1 by omega, List.getElem?_cons_succ]
  exact this
/-- An array of thirty-three cells that tells of just these pairs. -/
theorem SV_ext {cs : Array Value} {l : List S26} (hs : cs.size = 33) (h0 : cs[0]? = some (.int .i64 l.length)) (h : ∀ i, i < 16 → cs[1 + 2 * i]? = some (.int .u64 (kOf l i)) ∧ cs[1 + 2 * i + 1]? = some (.int .u64 (vOf l i))) : cs = SV l := by
  apply Array.ext_getElem?
  intro j
  by_cases hj : j < 33
  · by_cases j0 : j = 0
    · rw [j0, h0, SV_0]
    · by_cases e : j % 2 = 1
      · obtain ⟨i, rfl⟩ : ∃ i, j = 1 + 2 * i := ⟨(j - 1) / 2, by omega⟩
        rw [(h i (by omega)).1, SV_k l (by omega)]
      · obtain ⟨i, rfl⟩ : ∃ i, j = 1 + 2 * i + 1 := ⟨(j - 2) / 2, by omega⟩
        rw [(h i (by omega)).2, SV_v l (by omega)]
  · rw [Array.getElem?_eq_none (by omega), Array.getElem?_eq_none (by rw [SV_size]; omega)]
theorem svL_one : ∀ (m : Nat) (l : List S26), ∀ q ∈ svL l m, q.oneCell' = true
  | 0, _, q, h => by simp [svL] at h
  | m + 1, [], q, h => by
    simp only [svL, List.mem_cons] at h
    rcases h with rfl | rfl | h
    · rfl
    · rfl
    · exact svL_one m [] q h
  | m + 1, x :: r, q, h => by
    simp only [svL, List.mem_cons] at h
    rcases h with rfl | rfl | h
    · rfl
    · rfl
    · exact svL_one m r q h
theorem SV_one (l : List S26) : ∀ q ∈ (SV l).toList, q.oneCell' = true := by
  intro q h
  simp only [SV, List.mem_cons] at h
  rcases h with rfl | h
  · rfl
  · exact svL_one 16 l q h
theorem svL_inj : ∀ (m : Nat) (l r : List S26), l.length = r.length → l.length ≤ m → svL l m = svL r m → l = r
  | _, [], [], _, _, _ => rfl
  | 0, x :: l, _, _, h, _ => by simp at h
  | m + 1, x :: l, y :: r, h1, h2, h => by
    simp only [svL, List.cons.injEq, Value.int.injEq, true_and] at h
    have := svL_inj m l r (by simpa using h1) (by simpa using h2) h.2.2
    obtain ⟨a, b⟩ := x
    obtain ⟨c, d⟩ := y
    simp only [] at h
    rw [h.1, h.2.1, this]
theorem SV_inj {l r : List S26} (hl : l.length ≤ 16) (h : SV l = SV r) : l = r := by
  have h := congrArg Array.toList h
  simp only [SV, List.cons.injEq, Value.int.injEq, true_and, Int.ofNat_inj] at h
  exact svL_inj 16 l r (by omega) hl h.2
/-- Where a key is, or would be. -/
def posF (key : Int) : List S26 → Nat
  | [] => 0
  | x :: r => if key ≤ x.f0 then 0 else posF key r + 1
def isF (key : Int) (l : List S26) : Bool := decide (posF key l < l.length) && (kOf l (posF key l) == key)
theorem posF_le (key : Int) : ∀ l : List S26, posF key l ≤ l.length
  | [] => Nat.le_refl _
  | x :: r => by
    have := posF_le key r
    simp only [posF, List.length_cons]
    split <;> omega
theorem posF_before (key : Int) : ∀ (l : List S26) (i : Nat), i < posF key l → kOf l i < key
  | [], i, h => by simp [posF] at h
  | x :: r, i, h => by
    simp only [posF] at h
    split at h
    · omega
    · rename_i hx
      cases i with
      | zero => simp [kOf]; omega
      | succ i =>
        have := posF_before key r i (by omega)
        simpa [kOf] using this
theorem posF_at (key : Int) : ∀ (l : List S26), posF key l < l.length → key ≤ kOf l (posF key l)
  | [], h => by simp at h
  | x :: r, h => by
    simp only [posF] at h ⊢
    split
    · rename_i hx
      simpa [kOf] using hx
    · rename_i hx
      rw [if_neg hx] at h
      have := posF_at key r (by simpa using h)
      simpa [kOf] using this
theorem posF_of {key : Int} {l : List S26} {i : Nat} (hi : i ≤ l.length) (hb : ∀ j, j < i → kOf l j < key) (ha : i = l.length ∨ key ≤ kOf l i) : posF key l = i := by
  have h1 := posF_le key l
  rcases Nat.lt_trichotomy (posF key l) i with h | h | h
  · have := hb _ h
    have := posF_at key l (by omega)
    omega
  · exact h
  · have := posF_before key l i h
    rcases ha with rfl | ha <;> omega
end Go.Proofs.Ytcphmelmieedfab.PSpecExact

namespace Go.Proofs.Ytcphmelmieedfab.PSpecExact
open Go Go.RowKit Go.Proofs.YtcphmelmieedfabW.PrintWords Go.Proofs.YtcphmelmieedfabW.PrintLast Go.Proofs.YtcphmelmieedfabW.PrintMore
attribute [local go_sem] max2_int min2_int max_two min_two max_three min_three max_four min_four
set_option linter.unusedVariables false
set_option linter.unusedSimpArgs false
set_option maxHeartbeats 4000000 in
set_option maxRecDepth 100000 in
/-- Where a key is. -/
theorem find_T (l : List S26) (key : Int) (w : World) (hl : l.length ≤ 16) :
    Calls Try.prog 22 #[.agg (SV l), .int .u64 key] w fun e w' => e = .returned (.tuple #[.int .i64 (posF key l), .bool (isF key l)]) ∧ Below w.heap.size w w' := by
  have hu29 := Try.underlying29
  have hu26 := Try.underlying26
  have hu27 := Try.underlying27
  have HL := Aside0.mk hl
  clear hl
  have BK := Aside0.mk (blk_new w (.cells (SV l) 29))
  have B1 := Aside0.mk (below_alloc (Below.refl w.heap.size w) (.cells (SV l) 29))
  have c0 : (w.alloc (.cells (SV l) 29)).cell? ⟨w.heap.size, 0, none⟩ = some (.int .i64 l.length) := (blk_cell BK.out 0).trans (SV_0 l)
  go_enter Try.func22, Try.ntmps22
  go_wp2_with fail
  generalize w.alloc (.cells (SV l) 29) = w1 at *
  go_loopg [9] l.length (fun kq v9 w' => ∃ (i : Int), v9 = .int .i64 i ∧ Aside0 (0 ≤ i ∧ i + kq = l.length) ∧ Aside0 (w'.heap[w.heap.size]? = some (.cells (SV l) 29 (0, 0))) ∧ Aside0 (Below w.heap.size w w') ∧ Aside0 (∀ j : Nat, (j : Int) < i → kOf l j < key))
  case atStart => exact ⟨0, rfl, ⟨by omega⟩, BK, B1, ⟨fun j h => by omega⟩⟩
  case round =>
    clear BK B1 c0
    obtain ⟨i, rfl, HK, BK, B1, HB⟩ := hrel
    have c0 : wr.cell? ⟨w.heap.size, 0, none⟩ = some (.int .i64 l.length) := (blk_cell BK.out 0).trans (SV_0 l)
    obtain ⟨k, rfl⟩ := Int.eq_ofNat_of_zero_le HK.out.1
    by_cases hi : (k : Int) < (l.length : Int)
    · have t1 : decide ((k : Int) < (l.length : Int)) = true := decide_eq_true hi
      have t1b : decide (k < l.length) = true := decide_eq_true (by omega)
      have q1 := Aside0.mk (show k < l.length by omega)
      clear hi
      have p0 : ((k : Int) < 16) = True := eq_true (by have := HL.out; have := q1.out; omega)
      have p1 : (k < 16) = True := eq_true (by have := HL.out; have := q1.out; omega)
      have ck : wr.cell? ⟨w.heap.size, 1 + k * 2, none⟩ = some (.int .u64 (kOf l k)) := (blk_cell BK.out _).trans (by rw [Nat.mul_comm]; exact SV_k l (by have := HL.out; have := q1.out; omega))
      have wi : wrap64 ((k : Int) + 1) = ((k + 1 : Nat) : Int) := by have := HL.out; have := q1.out; unfold wrap64; omega
      by_cases hk : key ≤ kOf l k
      · have t2 : decide (key ≤ kOf l k) = true := decide_eq_true hk
        have EP := Aside0.mk (posF_of (key := key) (l := l) (i := k) (by have := q1.out; omega) (fun j hj => HB.out j (by omega)) (.inr hk))
        have EF := Aside0.mk (show isF key l = (kOf l k == key) by unfold isF; rw [EP.out, decide_eq_true q1.out]; rfl)
        clear hk
        go_wp2_with fail
        refine start_ (n := 10) (S := fun w' => w'.cell? ⟨w.heap.size, 1 + k * 2, none⟩ = some (.int .u64 (kOf l k))) (ds := []) (lb 10 0) (by kernel_rfl) rfl rfl (ck) (fun hHeld => ?_)
        refine pS (v := ?_) (a' := ?_) 0 (some 19) (lb 10 1) rfl rfl (by kernel_rfl) (fun _ _ _ h => h) (by rfl) ?_ ?_ ?_; rotate_left; (intro w'; go_simp; with_reducible rfl); rotate_left; (simp only [Act.put, List.setIfInBounds_toArray, List.set_cons_zero, List.set_cons_succ, i64_w, i32_w]; rfl)
        refine pS (v := ?_) (a' := ?_) 1 (some 20) (lb 10 3) rfl rfl (by kernel_rfl) (fun _ _ _ h => h) (by rfl) ?_ ?_ ?_; rotate_left; (intro w'; go_simp; with_reducible rfl); rotate_left; (simp only [Act.put, List.setIfInBounds_toArray, List.set_cons_zero, List.set_cons_succ, i64_w, i32_w]; rfl)
        refine pS (v := ?_) (a' := ?_) 2 (some 21) (lb 10 7) rfl rfl (by kernel_rfl) (fun _ _ _ h => h) (by rfl) ?_ ?_ ?_; rotate_left; (intro w'; go_simp; with_reducible rfl); rotate_left; (simp only [Act.put, List.setIfInBounds_toArray, List.set_cons_zero, List.set_cons_succ, i64_w, i32_w]; rfl)
        refine pS (v := ?_) (a' := ?_) 3 (some 22) (lb 10 15) rfl rfl (by kernel_rfl) (fun _ _ _ h => h) (by rfl) ?_ ?_ ?_; rotate_left; (intro w'; go_simp; with_reducible rfl); rotate_left; (simp only [Act.put, List.setIfInBounds_toArray, List.set_cons_zero, List.set_cons_succ, i64_w, i32_w]; rfl)
        refine pS (v := ?_) (a' := ?_) 4 (some 23) (lb 10 31) rfl rfl (by kernel_rfl) (fun _ _ _ h => h) (by rfl) ?_ ?_ ?_; rotate_left; (intro w'; go_simp; with_reducible rfl); rotate_left; (simp only [Act.put, List.setIfInBounds_toArray, List.set_cons_zero, List.set_cons_succ, i64_w, i32_w]; rfl)
        refine pS (v := ?_) (a' := ?_) 6 (some 25) (lb 10 95) rfl rfl (by kernel_rfl) (fun _ _ _ h => h) (by rfl) ?_ ?_ ?_; rotate_left; (intro w'; go_simp; with_reducible rfl); rotate_left; (simp only [Act.put, List.setIfInBounds_toArray, List.set_cons_zero, List.set_cons_succ, i64_w, i32_w]; rfl)
        refine pS (v := ?_) (a' := ?_) 8 (some 4) (lb 10 351) rfl rfl (by kernel_rfl) (fun _ _ _ h => h) (by rfl) ?_ ?_ ?_; rotate_left; (intro w'; go_simp; with_reducible rfl); rotate_left; (simp only [Act.put, List.setIfInBounds_toArray, List.set_cons_zero, List.set_cons_succ, i64_w, i32_w]; rfl)
        refine tS (v := ?_) (a' := ?_) 5 (some 24) (lb 10 383) rfl rfl (by kernel_rfl) (fun _ _ _ h => h) hHeld (by rfl) ?_ ?_ ?_; rotate_left; (rintro w' s0; go_simp; with_reducible rfl); rotate_left; (simp only [Act.put, List.setIfInBounds_toArray, List.set_cons_zero, List.set_cons_succ, i64_w, i32_w]; rfl)
        refine pS (v := ?_) (a' := ?_) 7 (some 26) (lb 10 511) rfl rfl (by kernel_rfl) (fun _ _ _ h => h) (by rfl) ?_ ?_ ?_; rotate_left; (intro w'; go_simp; with_reducible rfl); rotate_left; (simp only [Act.put, List.setIfInBounds_toArray, List.set_cons_zero, List.set_cons_succ, i64_w, i32_w]; rfl)
        refine pS (v := ?_) (a' := ?_) 9 (some 5) (lb 10 1023) rfl rfl (by kernel_rfl) (fun _ _ _ h => h) (by rfl) ?_ ?_ ?_; rotate_left; (intro w'; go_simp; with_reducible rfl); rotate_left; (simp only [Act.put, List.setIfInBounds_toArray, List.set_cons_zero, List.set_cons_succ, i64_w, i32_w]; rfl)
        refine done_ (by kernel_rfl) ?_
        go_wp2_with fail
        go_ret2
        rw [EP.out, EF.out]
        exact ⟨rfl, below_drew B1.out⟩
      · have t2 : decide (key ≤ kOf l k) = false := decide_eq_false hk
        have HK2 := Aside0.mk hk
        clear hk
        obtain ⟨ko, rfl⟩ : ∃ m, gk = m + 1 := ⟨gk - 1, by have := HK.out; have := q1.out; omega⟩
        go_wp2_with fail
        go_roundg ko
        case rel => exact ⟨((k + 1 : Nat) : Int), by first | rfl | rw [wi], ⟨by have := HK.out; omega⟩, BK, B1, ⟨fun j h => by
          by_cases e : j = k
          · subst e; have := HK2.out; omega
          · exact HB.out j (by omega)⟩⟩
        case measure => exact Nat.lt_succ_self _
    · have t1 : decide ((k : Int) < (l.length : Int)) = false := decide_eq_false hi
      have t1b : decide (k < l.length) = false := decide_eq_false (by omega)
      have e : k = l.length := by have := HK.out; omega
      have EP := Aside0.mk (posF_of (key := key) (l := l) (i := l.length) (Nat.le_refl _) (fun j hj => HB.out j (by omega)) (.inl rfl))
      have EF := Aside0.mk (show isF key l = false by unfold isF; rw [EP.out]; simp)
      clear e hi
      go_wp2_with fail
      go_ret2
      rw [EP.out, EF.out]
      exact ⟨rfl, B1.out⟩
end Go.Proofs.Ytcphmelmieedfab.PSpecExact

namespace Go.Proofs.Ytcphmelmieedfab.PSpecExact
open Go Go.RowKit Go.Proofs.YtcphmelmieedfabW.PrintWords Go.Proofs.YtcphmelmieedfabW.PrintLast Go.Proofs.YtcphmelmieedfabW.PrintMore
attribute [local go_sem] max2_int min2_int max_two min_two max_three min_three max_four min_four
set_option linter.unusedVariables false
set_option linter.unusedSimpArgs false
theorem info29 (l : List S26) : (Try.prog.info? 29).map (·.size) = some (SV l).size := by rw [SV_size]; kernel_rfl
theorem isF_lt {key : Int} {l : List S26} (h : isF key l = true) : posF key l < l.length := by
  unfold isF at h
  rw [Bool.and_eq_true] at h
  exact of_decide_eq_true h.1
/-- A key's value. -/
def getV (l : List S26) (key : Int) : Int := if isF key l = true then vOf l (posF key l) else 0
set_option maxHeartbeats 4000000 in
set_option maxRecDepth 100000 in
theorem get_T (l : List S26) (key : Int) (w : World) (hl : l.length ≤ 16) :
    Calls Try.prog 11 #[.agg (SV l), .int .u64 key] w fun e w' => e = .returned (.tuple #[.int .u64 (getV l key), .bool (isF key l)]) ∧ Below w.heap.size w w' := by
  have hu29 := Try.underlying29
  have hu26 := Try.underlying26
  have hu27 := Try.underlying27
  have HL := Aside0.mk hl
  clear hl
  have BK := Aside0.mk (blk_new w (.cells (SV l) 29))
  have B1 := Aside0.mk (below_alloc (Below.refl w.heap.size w) (.cells (SV l) 29))
  go_enter Try.func11, Try.ntmps11
  go_wp2_with (refine wpList_load_row rfl 29 (.tmp 2) rfl w.heap.size rfl 29 (SV l) (0, 0) _ BK.out Try.underlying29 rfl (info29 l) ?_)
  refine (find_T l key _ HL.out).mono ?_
  rintro e w2 ⟨rfl, hb⟩
  have BK2 := Aside0.mk (blk_below BK.out hb)
  have B2 := Aside0.mk (below_step B1.out hb)
  clear hb BK B1
  obtain ⟨k, hk⟩ : ∃ k, posF key l = k := ⟨_, rfl⟩
  have EK := Aside0.mk hk
  rw [hk]
  by_cases hf : isF key l = true
  · have EG := Aside0.mk (show getV l key = vOf l k by unfold getV; rw [if_pos hf, hk])
    have q1 := Aside0.mk (show k < l.length by rw [← hk]; exact isF_lt hf)
    have EF := Aside0.mk hf
    rw [hf]
    clear hf hk
    have p0 : ((k : Int) < 16) = True := eq_true (by have := HL.out; have := q1.out; omega)
    have p1 : (k < 16) = True := eq_true (by have := HL.out; have := q1.out; omega)
    have cv : w2.cell? ⟨w.heap.size, 1 + k * 2 + 1, none⟩ = some (.int .u64 (vOf l k)) := (blk_cell BK2.out _).trans (by rw [Nat.mul_comm]; exact SV_v l (by have := HL.out; have := q1.out; omega))
    go_wp2_with fail
    go_ret2
    rw [EG.out, EF.out]
    exact ⟨rfl, B2.out⟩
  · have EG := Aside0.mk (show getV l key = 0 by unfold getV; rw [if_neg hf])
    have EF := Aside0.mk (Bool.eq_false_iff.2 hf)
    rw [Bool.eq_false_iff.2 hf]
    clear hf hk
    go_wp2_with fail
    go_ret2
    rw [EG.out, EF.out]
    exact ⟨rfl, B2.out⟩
end Go.Proofs.Ytcphmelmieedfab.PSpecExact

namespace Go.Proofs.Ytcphmelmieedfab.PSpecExact
open Go Go.RowKit Go.Proofs.YtcphmelmieedfabW.PrintWords Go.Proofs.YtcphmelmieedfabW.PrintLast Go.Proofs.YtcphmelmieedfabW.PrintMore
attribute [local go_sem] max2_int min2_int max_two min_two max_three min_three max_four min_four
set_option linter.unusedVariables false
set_option linter.unusedSimpArgs false
section
variable {P : Program} {ops : Array Oper} {rest : List Oper} {o : Oper} {a : Act} {Q : Exit → Act → World → Prop}
/-- A whole variable is written: what it holds then. -/
theorem store_whole {w W : World} {B : Nat} (hN : o.dst = none) (hgd : o.guard = none) (t : TypeId) (p x : Operand) (ho : o.op = .store t p x) {g e : Nat} {cur cs : Array Value} (haddr : a.eval p = .pointer (some ⟨g, 0, none⟩)) (u : Value) (hx : a.eval x = u)
    (hu : u.cells.toList = cs.toList) (ht : (P.info? t).map (·.size) = some cs.toList.length) (h1 : ∀ q ∈ cs.toList, q.oneCell' = true) (hh : W.heap[g]? = some (.cells cur e (0, 0))) (hs : cur.size = cs.size) (hg : B ≤ g) (HB : Below B w W)
    (h : ∀ w1, w1.heap[g]? = some (.cells cs e (0, 0)) → Below B w w1 → (∀ k, k ≠ g → w1.heap[k]? = W.heap[k]?) → w1.heap.size = W.heap.size → wpList P ops Q rest a w1) : wpList P ops Q (o :: rest) a W := by
  have hrun : (Instr.storeAt t (.pointer (some ⟨g, 0, none⟩)) u).run P W = .ok () (W.setCells g 0 cs.toList) := run_store_run t u cs.toList hh hu ht (by rw [Array.length_toList]; omega) h1
  obtain ⟨cur', hc1, hc2, hc3⟩ := setCells_row cs.toList 0 W cur hh (by rw [Array.length_toList]; omega)
  have hcc : cur' = cs := by
    apply Array.ext'
    rw [hc3]
    simp
    omega
  rw [hcc] at hc1
  obtain ⟨s1, s2, s3, s4⟩ := setCells_same g cs.toList 0 W
  have hB : Below B w (W.setCells g 0 cs.toList) := HB.trans ⟨s1, s2, s3, by omega, fun k hk => setCells_far cs.toList 0 k (by omega)⟩
  refine wpList_plain hgd fun K hK => ?_
  unfold Oper.wp execOp
  simp only [ho, haddr, hx, Sem.run_bind, Sem.run_pure, Result.andThen_ok, hrun]
  show K (a.put o.dst undef) _
  rw [hN]
  exact hK a _ (h _ hc1 hB (fun k hk => setCells_far cs.toList 0 k hk) s4)
/-- 'copy' at elements of two cells, the one row over itself or another. -/
theorem run_copy2 (w : World) (dT sT ty elem : TypeId) (g o dLen dCap : Nat) (ad : Addr) (sLen sCap n : Nat) (cur : Array Value) (t : TypeId) (cs : List Value)
    (hu : P.underlying dT = some (.slice elem)) (hs : (P.info? elem).map (·.size) = some 2)
    (hg : w.heap[g]? = some (.cells cur t (0, 0))) (hm : Nat.min sLen dLen = n) (hn : cs.length = n * 2)
    (hsrc : ∀ j v, cs[j]? = some v → w.cell? (ad.add j) = some v) (hfit : o + cs.length ≤ cur.size) (h1 : ∀ v ∈ cs, v.oneCell' = true) :
    (Builtin.copy_ #[dT, sT] ty #[.slice (some ⟨g, o, none⟩) dLen dCap, .slice (some ad) sLen sCap]).run P w =
      .ok (goInt n) (w.setRow g (cur.toList.take o ++ cs ++ cur.toList.drop (o + cs.length)).toArray) := by
  have hl := run_loadCells_list (P := P) w ad cs hsrc
  have hst := run_storeCells_at P g o t cs 0 cur w hg (by simpa using hfit) h1
  rw [hn] at hl
  cases hq : P.info? elem with
  | none => simp [hq] at hs
  | some i =>
    have hi : i.size = 2 := by simpa [hq] using hs
    simp [Builtin.copy_, run_underlying hu, Builtin.lenOf, Builtin.firstCells, sizeOf, typeInfo, hq, hi, hm, hl, hst]
theorem results_cell2 {fn : Func} {p q : Tmp} {ty : TypeId} (h : fn.results = #[.cell p ty, .tmp q]) (tmps : Array Value) (w : World) (g : Nat) (t : TypeId) (cs : Array Value) (fr : Nat × Nat) (d : TypeDesc)
    (hp : tmps.getD p undef = .pointer (some ⟨g, 0, none⟩)) (hg : w.heap[g]? = some (.cells cs t fr))
    (hu : P.underlying ty = some d) (hd : (match d with | .struct _ | .array _ _ => true | _ => false) = true) (hi : (P.info? ty).map (·.size) = some cs.size) {v : Value} (hq : tmps.getD q undef = v) :
    (results fn tmps).run P w = .ok (.tuple #[.agg cs, v]) w := by
  have hp' : tmps[p]?.getD undef = .pointer (some ⟨g, 0, none⟩) := by simpa using hp
  have hq' : tmps[q]?.getD undef = v := by simpa using hq
  simp [results, h, hp', hq', asAddr, run_loadVar_row w g t ty cs fr d hg hu hd hi]
theorem results_cell3 {fn : Func} {p q r : Tmp} {ty ty2 : TypeId} (h : fn.results = #[.cell p ty, .cell q ty2, .tmp r]) (tmps : Array Value) (w : World) (g g2 : Nat) (t t2 : TypeId) (cs cs2 : Array Value) (fr fr2 : Nat × Nat) (d d2 : TypeDesc)
    (hp : tmps.getD p undef = .pointer (some ⟨g, 0, none⟩)) (hg : w.heap[g]? = some (.cells cs t fr))
    (hu : P.underlying ty = some d) (hd : (match d with | .struct _ | .array _ _ => true | _ => false) = true) (hi : (P.info? ty).map (·.size) = some cs.size)
    (hp2 : tmps.getD q undef = .pointer (some ⟨g2, 0, none⟩)) (hg2 : w.heap[g2]? = some (.cells cs2 t2 fr2))
    (hu2 : P.underlying ty2 = some d2) (hd2 : (match d2 with | .struct _ | .array _ _ => true | _ => false) = true) (hi2 : (P.info? ty2).map (·.size) = some cs2.size) {v : Value} (hq : tmps.getD r undef = v) :
    (results fn tmps).run P w = .ok (.tuple #[.agg cs, .agg cs2, v]) w := by
  have hp' : tmps[p]?.getD undef = .pointer (some ⟨g, 0, none⟩) := by simpa using hp
  have hp2' : tmps[q]?.getD undef = .pointer (some ⟨g2, 0, none⟩) := by simpa using hp2
  have hq' : tmps[r]?.getD undef = v := by simpa using hq
  simp [results, h, hp', hp2', hq', asAddr, run_loadVar_row w g t ty cs fr d hg hu hd hi, run_loadVar_row w g2 t2 ty2 cs2 fr2 d2 hg2 hu2 hd2 hi2]
end
end Go.Proofs.Ytcphmelmieedfab.PSpecExact
namespace Go.Proofs.Ytcphmelmieedfab.PSpecExact
open Go Go.RowKit Go.Proofs.YtcphmelmieedfabW.PrintWords Go.Proofs.YtcphmelmieedfabW.PrintLast Go.Proofs.YtcphmelmieedfabW.PrintMore
attribute [local go_sem] max2_int min2_int max_two min_two max_three min_three max_four min_four
set_option linter.unusedVariables false
set_option linter.unusedSimpArgs false
/-- Cells laid over others. -/
def spliceC (cs : Array Value) (o : Nat) (xs : List Value) : Array Value := (cs.toList.take o ++ xs ++ cs.toList.drop (o + xs.length)).toArray
theorem spliceC_get (cs : Array Value) (o : Nat) (xs : List Value) (h : o + xs.length ≤ cs.size) (j : Nat) : (spliceC cs o xs)[j]? = if j < o then cs[j]? else if j < o + xs.length then xs[j - o]? else cs[j]? := by
  have hl : cs.toList.length = cs.size := Array.length_toList
  have e1 : (cs.toList.take o).length = o := by simp; omega
  unfold spliceC
  rw [List.getElem?_toArray, List.append_assoc]
  by_cases h1 : j < o
  · rw [if_pos h1, List.getElem?_append_left (by omega), List.getElem?_take_of_lt h1, Array.getElem?_toList]
  · rw [if_neg h1, List.getElem?_append_right (by omega), e1]
    by_cases h2 : j < o + xs.length
    · rw [if_pos h2, List.getElem?_append_left (by omega)]
    · rw [if_neg h2, List.getElem?_append_right (by omega), List.getElem?_drop, show o + xs.length + (j - o - xs.length) = j by omega, Array.getElem?_toList]
theorem spliceC_size (cs : Array Value) (o : Nat) (xs : List Value) (h : o + xs.length ≤ cs.size) : (spliceC cs o xs).size = cs.size := by
  have hl : cs.toList.length = cs.size := Array.length_toList
  unfold spliceC
  simp
  omega
theorem arr27 : Try.prog.underlying 27 = some (.array (Try.prog.arrayLen 27) (Try.prog.elem 27)) := by kernel_rfl
theorem len27 : Try.prog.arrayLen 27 = 16 := by kernel_rfl
theorem size27 (w : World) : (sizeOf (Try.prog.elem 27)).run Try.prog w = .ok 2 w := by kernel_rfl
theorem info26 : (Try.prog.info? 26).map (·.size) = some 2 := by kernel_rfl
theorem sl_from (g a : Nat) (ha : a ≤ 16) (W : World) : (Instr.sliceAt 27 (.pointer (some ⟨g, 1, none⟩)) (some (.int .i64 (a : Int))) none none).run Try.prog W = .ok (slicedAt ⟨g, 1, none⟩ a 16 16 2) W := by
  rw [run_sliceAt_array_l W 27 ⟨g, 1, none⟩ arr27 .i64 (a : Int) (by omega) (by rw [len27]; omega), size27, len27]
  rfl
theorem sl_to (g a b : Nat) (ha : a ≤ b) (hb : b ≤ 16) (W : World) : (Instr.sliceAt 27 (.pointer (some ⟨g, 1, none⟩)) (some (.int .i64 (a : Int))) (some (.int .i64 (b : Int))) none).run Try.prog W = .ok (slicedAt ⟨g, 1, none⟩ a b 16 2) W := by
  rw [run_sliceAt_array_lh W 27 ⟨g, 1, none⟩ arr27 .i64 .i64 (a : Int) (b : Int) (by omega) (by omega) (by rw [len27]; omega), size27, len27]
  rfl
/-- A state's pairs moved over themselves. -/
theorem copy_state {W : World} {g : Nat} {l : List S26} (hg : W.heap[g]? = some (.cells (SV l) 29 (0, 0))) (a b n m : Nat) (ha : a ≤ 16) (hb : b ≤ n) (hn : n ≤ 16) (hm : Nat.min (n - b) (16 - a) = m) :
    ∃ W', (Builtin.copy_ #[46, 46] 3 #[slicedAt ⟨g, 1, none⟩ a 16 16 2, slicedAt ⟨g, 1, none⟩ b n 16 2]).run Try.prog W = .ok (goInt m) W' ∧ W'.heap[g]? = some (.cells (spliceC (SV l) (1 + a * 2) (((SV l).toList.drop (1 + b * 2)).take (m * 2))) 29 (0, 0)) ∧ (∀ k, k ≠ g → W'.heap[k]? = W.heap[k]?) ∧ ∀ B w0, B ≤ g → Below B w0 W → Below B w0 W' := by
  have hl : (SV l).toList.length = 33 := by rw [Array.length_toList, SV_size]
  have hu : Try.prog.underlying 46 = some (.slice 26) := Try.underlying46
  by_cases h0 : m = 0
  · subst h0
    refine ⟨W, ?_, ?_, fun _ _ => rfl, fun _ _ _ h => h⟩
    · cases hq : Try.prog.info? 26 with
      | none => have := info26; simp [hq] at this
      | some i =>
        have hi : i.size = 2 := by have := info26; simpa [hq] using this
        simp [slicedAt, Builtin.copy_, run_underlying hu, Builtin.lenOf, Builtin.firstCells, sizeOf, typeInfo, hq, hi, hm, loadCells, loadCellsFrom, storeCells]
    · rw [hg, show ((SV l).toList.drop (1 + b * 2)).take (0 * 2) = [] by simp]
      congr 2
      apply Array.ext_getElem?
      intro j
      rw [spliceC_get _ _ _ (by rw [SV_size]; simp; omega)]
      simp
      intros
      omega
  · have h1 : b < n ∧ a < 16 ∧ m ≤ n - b ∧ m ≤ 16 - a := by
      have h2 : m ≤ n - b := by rw [← hm]; exact Nat.min_le_left _ _
      have h3 : m ≤ 16 - a := by rw [← hm]; exact Nat.min_le_right _ _
      omega
    have hlen : (((SV l).toList.drop (1 + b * 2)).take (m * 2)).length = m * 2 := by
      rw [List.length_take, List.length_drop, hl]; omega
    have ea : slicedAt ⟨g, 1, none⟩ a 16 16 2 = .slice (some ⟨g, 1 + a * 2, none⟩) (16 - a) (16 - a) := by
      unfold slicedAt
      rw [if_neg (by omega), show (⟨g, 1, none⟩ : Addr).add (a * 2) = ⟨g, 1 + a * 2, none⟩ by unfold Addr.add; split <;> simp_all]
    have eb : slicedAt ⟨g, 1, none⟩ b n 16 2 = .slice (some ⟨g, 1 + b * 2, none⟩) (n - b) (16 - b) := by
      unfold slicedAt
      rw [if_neg (by omega), show (⟨g, 1, none⟩ : Addr).add (b * 2) = ⟨g, 1 + b * 2, none⟩ by unfold Addr.add; split <;> simp_all]
    have hsrc : ∀ j v, (((SV l).toList.drop (1 + b * 2)).take (m * 2))[j]? = some v → W.cell? ((⟨g, 1 + b * 2, none⟩ : Addr).add j) = some v := by
      intro j v hv
      have hj : j < m * 2 := by
        rcases Nat.lt_or_ge j (m * 2) with h | h
        · exact h
        · rw [List.getElem?_eq_none (by omega)] at hv; cases hv
      rw [List.getElem?_take_of_lt hj, List.getElem?_drop, Array.getElem?_toList] at hv
      rw [show (⟨g, 1 + b * 2, none⟩ : Addr).add j = ⟨g, 1 + b * 2 + j, none⟩ by unfold Addr.add; split <;> simp_all, cell_of_row W g _ _ _ _ hg]
      exact hv
    have hrun := run_copy2 (P := Try.prog) W 46 46 3 26 g (1 + a * 2) (16 - a) (16 - a) ⟨g, 1 + b * 2, none⟩ (n - b) (16 - b) m (SV l) 29 (((SV l).toList.drop (1 + b * 2)).take (m * 2)) hu info26 hg hm hlen hsrc (by rw [hlen, SV_size]; omega) (fun v hv => SV_one l v (List.mem_of_mem_drop (List.mem_of_mem_take hv)))
    exact ⟨_, by rw [ea, eb]; exact hrun, setRow_heap W g _ _ 29 _ hg, fun k hk => setRow_other W g k _ hk, fun B w0 hB h => below_setRow h hB _⟩
end Go.Proofs.Ytcphmelmieedfab.PSpecExact
namespace Go.Proofs.Ytcphmelmieedfab.PSpecExact
open Go Go.RowKit Go.Proofs.YtcphmelmieedfabW.PrintWords Go.Proofs.YtcphmelmieedfabW.PrintLast Go.Proofs.YtcphmelmieedfabW.PrintMore
set_option linter.unusedVariables false
theorem exec_load_row {P : Program} {o : Oper} {a : Act} {w : World} (ty : TypeId) (x : Operand) (ho : o.op = .load ty x)
    (g : Nat) (hx : a.eval x = .pointer (some ⟨g, 0, none⟩)) (t : TypeId) (cs : Array Value) (fr : Nat × Nat) (d : TypeDesc) (hg : w.heap[g]? = some (.cells cs t fr))
    (hu : P.underlying ty = some d) (hd : (match d with | .struct _ | .array _ _ => true | _ => false) = true) (hi : (P.info? ty).map (·.size) = some cs.size) :
    (execOp a.eval o).run P w = .ok (.value (.agg cs)) w := by
  unfold execOp
  simp only [ho, hx, Instr.loadAt, Instr.sureAddr, Sem.run_bind, Sem.run_pure, Result.andThen_ok, run_loadVar_row w g t ty cs fr d hg hu hd hi]
/-- A whole variable is written, inside a region that draws its order. -/
theorem skip_whole {P : Program} {ops : Array Oper} {Q : Exit → Act → World → Prop} {oi : Oper} {a : Act} {w W : World} {B : Nat} {K : Act → World → Prop} (t : TypeId) (p x : Operand) (hw : Region.wanted oi (yielded ops a.tmps) = true) (hN : oi.dst = none) (ho : oi.op = .store t p x) {g e : Nat} {cur cs : Array Value} (haddr : a.eval p = .pointer (some ⟨g, 0, none⟩)) (u : Value) (hx : a.eval x = u)
    (hu : u.cells.toList = cs.toList) (ht : (P.info? t).map (·.size) = some cs.toList.length) (h1 : ∀ q ∈ cs.toList, q.oneCell' = true) (hh : W.heap[g]? = some (.cells cur e (0, 0))) (hs : cur.size = cs.size) (hg : B ≤ g) (HB : Below B w W)
    (h : ∀ w1, w1.heap[g]? = some (.cells cs e (0, 0)) → Below B w w1 → (∀ k, k ≠ g → w1.heap[k]? = W.heap[k]?) → w1.heap.size = W.heap.size → K a w1) : if Region.wanted oi (yielded ops a.tmps) = true then Oper.wp P oi a W K Q else K (a.put none undef) W := by
  have hrun : (Instr.storeAt t (.pointer (some ⟨g, 0, none⟩)) u).run P W = .ok () (W.setCells g 0 cs.toList) := run_store_run t u cs.toList hh hu ht (by rw [Array.length_toList]; omega) h1
  obtain ⟨cur', hc1, hc2, hc3⟩ := setCells_row cs.toList 0 W cur hh (by rw [Array.length_toList]; omega)
  have hcc : cur' = cs := by
    apply Array.ext'
    rw [hc3]
    simp
    omega
  rw [hcc] at hc1
  obtain ⟨s1, s2, s3, s4⟩ := setCells_same g cs.toList 0 W
  have hB : Below B w (W.setCells g 0 cs.toList) := HB.trans ⟨s1, s2, s3, by omega, fun k hk => setCells_far cs.toList 0 k (by omega)⟩
  refine skip_ (w1 := W.setCells g 0 cs.toList) hw hN ?_ (h _ hc1 hB (fun k hk => setCells_far cs.toList 0 k hk) s4)
  unfold execOp
  simp only [ho, haddr, hx, Sem.run_bind, Sem.run_pure, Result.andThen_ok, hrun]
end Go.Proofs.Ytcphmelmieedfab.PSpecExact

