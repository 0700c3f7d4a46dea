/-
Walks over whole variables; what is great; rounds, what is kept, what is checked.
-/
import Derived.Test.YtcphmelmieedfaaTurnsE
import Derived.Test.YtcphmelmieedfaaPScriptTurnsx6
import Derived.Test.YtcphmelmieedfaaPScriptTurnsx5
import Derived.Test.YtcphmelmieedfaaTurnsC
import Derived.Test.YtcphmelmieedfaaWords
namespace Go.Proofs.Ytcphmelmieedfaa.PScriptTurns
open Go Go.RowKit Go.Proofs.YtcphmelmieedfaaW.PrintWords Go.Proofs.YtcphmelmieedfaaW.PrintLast Go.Proofs.YtcphmelmieedfaaW.PrintMore
set_option linter.unusedVariables false
set_option linter.unusedSimpArgs false
theorem blk_new2 (w : World) (o1 o2 : Obj) : ((w.alloc o1).alloc o2).heap[w.heap.size + 1]? = some o2 := by have := blk_new (w.alloc o1) o2; simpa using this
theorem blk_new3 (w : World) (o1 o2 o3 : Obj) : (((w.alloc o1).alloc o2).alloc o3).heap[w.heap.size + 1 + 1]? = some o3 := by have := blk_new ((w.alloc o1).alloc o2) o3; simpa using this
theorem blk_new4 (w : World) (o1 o2 o3 o4 : Obj) : ((((w.alloc o1).alloc o2).alloc o3).alloc o4).heap[w.heap.size + 1 + 1 + 1]? = some o4 := by have := blk_new (((w.alloc o1).alloc o2).alloc o3) o4; simpa using this
section
variable {P : Program} {ops : Array Oper} {rest : List Oper} {o : Oper} {a : Act} {Q : Exit → Act → World → Prop}
theorem store_whole {w W : World} {B : Nat} (hN : o.dst = none) (hgd : o.guard = none) (t : TypeId) (p x : Operand) (ho : o.op = .store t p x) {g e : Nat} {cur cs : Array Value} (haddr : a.eval p = .pointer (some ⟨g, 0, none⟩)) (u : Value) (hx : a.eval x = u)
    (hu : u.cells.toList = cs.toList) (ht : (P.info? t).map (·.size) = some cs.toList.length) (h1 : ∀ q ∈ cs.toList, q.oneCell' = true) (hh : W.heap[g]? = some (.cells cur e (0, 0))) (hs : cur.size = cs.size) (hg : B ≤ g) (HB : Below B w W)
    (h : ∀ w1, w1.heap[g]? = some (.cells cs e (0, 0)) → Below B w w1 → (∀ k, k ≠ g → w1.heap[k]? = W.heap[k]?) → w1.heap.size = W.heap.size → wpList P ops Q rest a w1) : wpList P ops Q (o :: rest) a W := by
  have hrun : (Instr.storeAt t (.pointer (some ⟨g, 0, none⟩)) u).run P W = .ok () (W.setCells g 0 cs.toList) := run_store_run t u cs.toList hh hu ht (by rw [Array.length_toList]; omega) h1
  obtain ⟨cur', hc1, hc2, hc3⟩ := setCells_row cs.toList 0 W cur hh (by rw [Array.length_toList]; omega)
  have hcc : cur' = cs := by
    apply Array.ext'
    rw [hc3]
    simp
    omega
  rw [hcc] at hc1
  obtain ⟨s1, s2, s3, s4⟩ := setCells_same g cs.toList 0 W
  have hB : Below B w (W.setCells g 0 cs.toList) := HB.trans ⟨s1, s2, s3, by omega, fun k hk => setCells_far cs.toList 0 k (by omega)⟩
  refine wpList_plain hgd fun K hK => ?_
  unfold Oper.wp execOp
  simp only [ho, haddr, hx, Sem.run_bind, Sem.run_pure, Result.andThen_ok, hrun]
  show K (a.put o.dst undef) _
  rw [hN]
  exact hK a _ (h _ hc1 hB (fun k hk => setCells_far cs.toList 0 k hk) s4)
theorem exec_load_row {P : Program} {o : Oper} {a : Act} {w : World} (ty : TypeId) (x : Operand) (ho : o.op = .load ty x)
    (g : Nat) (hx : a.eval x = .pointer (some ⟨g, 0, none⟩)) (t : TypeId) (cs : Array Value) (fr : Nat × Nat) (d : TypeDesc) (hg : w.heap[g]? = some (.cells cs t fr))
    (hu : P.underlying ty = some d) (hd : (match d with | .struct _ | .array _ _ => true | _ => false) = true) (hi : (P.info? ty).map (·.size) = some cs.size) :
    (execOp a.eval o).run P w = .ok (.value (.agg cs)) w := by
  unfold execOp
  simp only [ho, hx, Instr.loadAt, Instr.sureAddr, Sem.run_bind, Sem.run_pure, Result.andThen_ok, run_loadVar_row w g t ty cs fr d hg hu hd hi]
theorem skip_whole {P : Program} {ops : Array Oper} {Q : Exit → Act → World → Prop} {oi : Oper} {a : Act} {w W : World} {B : Nat} {K : Act → World → Prop} (t : TypeId) (p x : Operand) (hw : Region.wanted oi (yielded ops a.tmps) = true) (hN : oi.dst = none) (ho : oi.op = .store t p x) {g e : Nat} {cur cs : Array Value} (haddr : a.eval p = .pointer (some ⟨g, 0, none⟩)) (u : Value) (hx : a.eval x = u)
    (hu : u.cells.toList = cs.toList) (ht : (P.info? t).map (·.size) = some cs.toList.length) (h1 : ∀ q ∈ cs.toList, q.oneCell' = true) (hh : W.heap[g]? = some (.cells cur e (0, 0))) (hs : cur.size = cs.size) (hg : B ≤ g) (HB : Below B w W)
    (h : ∀ w1, w1.heap[g]? = some (.cells cs e (0, 0)) → Below B w w1 → (∀ k, k ≠ g → w1.heap[k]? = W.heap[k]?) → w1.heap.size = W.heap.size → K a w1) : if Region.wanted oi (yielded ops a.tmps) = true then Oper.wp P oi a W K Q else K (a.put none undef) W := by
  have hrun : (Instr.storeAt t (.pointer (some ⟨g, 0, none⟩)) u).run P W = .ok () (W.setCells g 0 cs.toList) := run_store_run t u cs.toList hh hu ht (by rw [Array.length_toList]; omega) h1
  obtain ⟨cur', hc1, hc2, hc3⟩ := setCells_row cs.toList 0 W cur hh (by rw [Array.length_toList]; omega)
  have hcc : cur' = cs := by
    apply Array.ext'
    rw [hc3]
    simp
    omega
  rw [hcc] at hc1
  obtain ⟨s1, s2, s3, s4⟩ := setCells_same g cs.toList 0 W
  have hB : Below B w (W.setCells g 0 cs.toList) := HB.trans ⟨s1, s2, s3, by omega, fun k hk => setCells_far cs.toList 0 k (by omega)⟩
  refine skip_ (w1 := W.setCells g 0 cs.toList) hw hN ?_ (h _ hc1 hB (fun k hk => setCells_far cs.toList 0 k hk) s4)
  unfold execOp
  simp only [ho, haddr, hx, Sem.run_bind, Sem.run_pure, Result.andThen_ok, hrun]
theorem wpList_load_row_g {P : Program} {ops : Array Oper} {rest : List Oper} {o : Oper} {a : Act} {w : World} {Q : Exit → Act → World → Prop} (hw : Region.wanted o (yielded ops a.tmps) = true) (ty : TypeId) (x : Operand) (ho : o.op = .load ty x)
    (g : Nat) (hx : a.eval x = .pointer (some ⟨g, 0, none⟩)) (t : TypeId) (cs : Array Value) (fr : Nat × Nat) (d : TypeDesc) (hg : w.heap[g]? = some (.cells cs t fr))
    (hu : P.underlying ty = some d) (hd : (match d with | .struct _ | .array _ _ => true | _ => false) = true) (hi : (P.info? ty).map (·.size) = some cs.size) (h : wpList P ops Q rest (a.put o.dst (.agg cs)) w) : wpList P ops Q (o :: rest) a w :=
  wpList_step fun K hK => by
    rw [if_pos hw]
    unfold Oper.wp
    rw [exec_load_row ty x ho g hx t cs fr d hg hu hd hi]
    exact hK _ _ h
theorem wpList_value_g {P : Program} {ops : Array Oper} {rest : List Oper} {o : Oper} {a : Act} {w : World} {Q : Exit → Act → World → Prop} (hw : Region.wanted o (yielded ops a.tmps) = true) {v : Value} (hrun : (execOp a.eval o).run P w = .ok (.value v) w)
    (h : wpList P ops Q rest (a.put o.dst v) w) : wpList P ops Q (o :: rest) a w :=
  wpList_step fun K hK => by
    rw [if_pos hw]
    unfold Oper.wp
    rw [hrun]
    exact hK _ _ h
theorem wpLd {P : Program} {ops : Array Oper} {rest : List Oper} {d : Option Tmp} {t2 : TypeId} {ps : String} {af : Array Edge} {gd : Option (Nat × Bool)} {a : Act} {w : World} {Q : Exit → Act → World → Prop} (ty : TypeId) (x : Operand) (h : wpList P ops Q (⟨d, .load ty x, t2, ps, af, gd⟩ :: rest) a w) : wpList P ops Q (⟨d, .load ty x, t2, ps, af, gd⟩ :: rest) a w := h
theorem wpSt {P : Program} {ops : Array Oper} {rest : List Oper} {d : Option Tmp} {t2 : TypeId} {ps : String} {af : Array Edge} {gd : Option (Nat × Bool)} {a : Act} {w : World} {Q : Exit → Act → World → Prop} (ty : TypeId) (x y : Operand) (h : wpList P ops Q (⟨d, .store ty x y, t2, ps, af, gd⟩ :: rest) a w) : wpList P ops Q (⟨d, .store ty x y, t2, ps, af, gd⟩ :: rest) a w := h
theorem wpBi {P : Program} {ops : Array Oper} {rest : List Oper} {d : Option Tmp} {t2 : TypeId} {ps : String} {af : Array Edge} {gd : Option (Nat × Bool)} {a : Act} {w : World} {Q : Exit → Act → World → Prop} (bo : BinOp) (ty : TypeId) (x y : Operand) (ty2 : TypeId) (h : wpList P ops Q (⟨d, .binOp bo ty x y ty2, t2, ps, af, gd⟩ :: rest) a w) : wpList P ops Q (⟨d, .binOp bo ty x y ty2, t2, ps, af, gd⟩ :: rest) a w := h
end
end Go.Proofs.Ytcphmelmieedfaa.PScriptTurns

namespace Go.Proofs.Ytcphmelmieedfaa.PScriptTurns
open Go Go.RowKit Go.Proofs.YtcphmelmieedfaaW.PrintWords Go.Proofs.YtcphmelmieedfaaW.PrintLast Go.Proofs.YtcphmelmieedfaaW.PrintMore Go.Proofs.Ytcphmelmieedfaa.U
set_option linter.unusedVariables false
section
variable (c0 c1 c2 c3 c4 : Int)
theorem great_l (l5 : List (List S37)) (l6 : List Int) (hl : l5.length ≤ 100) : ∀ (d k : Nat) (i : Int), 0 ≤ i → i + d = l5.length → d < k → ∃ g, revenantlaw22_great.l0 k i c0 c1 c2 c3 c4 l5 l6 = some g ∧ (g = false → ∀ (q : Int), i ≤ q → q < l5.length → (rd_L3 l5 q).length ≤ 100) := by
  intro d
  induction d with
  | zero =>
    intro k i h0 hi hk
    obtain ⟨k, rfl⟩ : ∃ m, k = m + 1 := ⟨k - 1, by omega⟩
    simp only [revenantlaw22_great.l0]
    rw [if_neg (by omega)]
    exact ⟨false, rfl, fun _ q h1 h2 => by omega⟩
  | succ d ih =>
    intro k i h0 hi hk
    obtain ⟨k, rfl⟩ : ∃ m, k = m + 1 := ⟨k - 1, by omega⟩
    simp only [revenantlaw22_great.l0]
    rw [if_pos (by omega), if_pos h0]
    by_cases h : ((rd_L3 l5 i).length : Int) > 100
    · rw [if_pos h]
      exact ⟨true, rfl, fun e => by cases e⟩
    · rw [if_neg h, w64 (by omega) (by omega)]
      obtain ⟨g, hg, hq⟩ := ih k (i + 1) (by omega) (by omega) (by omega)
      refine ⟨g, hg, fun e q h1 h2 => ?_⟩
      rcases Int.lt_or_eq_of_le h1 with h3 | h3
      · exact hq e q (by omega) h2
      · subst h3; omega
theorem great_f (l5 : List (List S37)) (l6 : List Int) {k : Nat} (hk : 200 ≤ k) : ∃ g, revenantlaw22_great.f k c0 c1 c2 c3 c4 l5 l6 = some g ∧ (g = false → l5.length ≤ 100 ∧ l6.length ≤ 262154 ∧ ∀ (q : Int), 0 ≤ q → q < l5.length → (rd_L3 l5 q).length ≤ 100) := by
  obtain ⟨k, rfl⟩ : ∃ m, k = m + 1 := ⟨k - 1, by omega⟩
  unfold revenantlaw22_great.f
  by_cases h : (l5.length : Int) > 100
  · rw [if_pos h]
    simp only [revenantlaw22_great.j0, if_true]
    exact ⟨true, rfl, fun e => by cases e⟩
  · rw [if_neg h]
    by_cases h6 : (l6.length : Int) > 262154
    · rw [decide_eq_true h6]
      simp only [revenantlaw22_great.j0, if_true]
      exact ⟨true, rfl, fun e => by cases e⟩
    · rw [decide_eq_false h6]
      simp only [revenantlaw22_great.j0, Bool.false_eq_true, if_false]
      obtain ⟨g, hg, hq⟩ := great_l c0 c1 c2 c3 c4 l5 l6 (by omega) l5.length k 0 (by omega) (by omega) (by omega)
      exact ⟨g, hg, fun e => ⟨by omega, by omega, hq e⟩⟩
end

end Go.Proofs.Ytcphmelmieedfaa.PScriptTurns

namespace Go.Proofs.Ytcphmelmieedfaa.PScriptTurns
open Go Go.RowKit Go.Proofs.YtcphmelmieedfaaW.PrintWords
set_option linter.unusedVariables false
set_option linter.unusedSimpArgs false
theorem keep_at (t : Int) (l : List Int) (i : Nat) (h : i < l.length) : keep t (l.take (i + 1)) = keep t (l.take i) ++ (if l.getD i 0 = t then [] else [l.getD i 0]) := by
  have e : l.take (i + 1) = l.take i ++ [l.getD i 0] := by
    rw [List.take_succ_eq_append_getElem h, List.getD_eq_getElem?_getD, List.getElem?_eq_getElem h]; rfl
  unfold keep
  rw [e, List.filter_append]
  by_cases q : l.getD i 0 = t
  · rw [if_pos q, List.filter_cons_of_neg (by simpa using q)]; simp
  · rw [if_neg q, List.filter_cons_of_pos (by simpa using q)]; simp
theorem keep_hit (t : Int) (l : List Int) (i : Nat) (h : i < l.length) (hn : l.getD i 0 ≠ t) : (keep t (l.take i)).length < (keep t l).length ∧ (keep t l).getD (keep t (l.take i)).length 0 = l.getD i 0 := by
  have e : l = l.take i ++ l.getD i 0 :: l.drop (i + 1) := by
    rw [List.getD_eq_getElem?_getD, List.getElem?_eq_getElem h]; simp
  have e2 : keep t l = keep t (l.take i) ++ l.getD i 0 :: keep t (l.drop (i + 1)) := by
    conv => lhs; rw [e]
    unfold keep
    rw [List.filter_append, List.filter_cons_of_pos (by simpa using hn)]
  generalize l.getD i 0 = x at *
  rw [e2]
  exact ⟨by simp, by simp⟩
theorem keep_le (t : Int) (l : List Int) : (keep t l).length ≤ l.length := List.length_filter_le _ _
/-- One round, and k of them. -/
def row_ (m : Nat) : List Int := (List.range m).map (fun i : Nat => (i : Int))
def rnd (m : Nat) : Nat → List Int
  | 0 => []
  | k + 1 => rnd m k ++ row_ m
theorem row_len (m : Nat) : (row_ m).length = m := by simp [row_]
theorem rnd_len (m : Nat) : ∀ k, (rnd m k).length = k * m
  | 0 => by simp [rnd]
  | k + 1 => by rw [rnd, List.length_append, rnd_len m k, row_len, Nat.succ_mul]
theorem rnd_get (m : Nat) : ∀ k j, j < k * m → (rnd m k).getD j 0 = ((j % m : Nat) : Int)
  | 0, j, h => by omega
  | k + 1, j, h => by
    rw [rnd, List.getD_eq_getElem?_getD]
    by_cases q : j < k * m
    · rw [List.getElem?_append_left (by rw [rnd_len]; exact q)]
      have := rnd_get m k j q
      rwa [List.getD_eq_getElem?_getD] at this
    · have h2 : j < k * m + m := by rw [← Nat.succ_mul]; exact h
      have h3 : j - k * m < m := by omega
      rw [List.getElem?_append_right (by rw [rnd_len]; omega), rnd_len]
      have h4 : (row_ m)[j - k * m]? = some ((j - k * m : Nat) : Int) := by simp [row_, h3]
      rw [h4]
      have h5 : j % m = j - k * m := by
        have : j = (j - k * m) + m * k := by rw [Nat.mul_comm m k]; omega
        rw [this, Nat.add_mul_mod_self_left, Nat.mod_eq_of_lt (by omega)]
        rw [← this]
      rw [h5]; rfl
theorem row_take (m i : Nat) (h : i < m) : (row_ m).take (i + 1) = (row_ m).take i ++ [(i : Int)] := by
  rw [List.take_succ_eq_append_getElem (by rw [row_len]; exact h)]
  simp [row_]
theorem round_l (a b c d e : Int) (l5 : List (List S37)) (l6 : List Int) (K : Nat) (hm : l5.length ≤ 100) (hl : l6.length ≤ 4096) (hK : K ≤ 199) :
    ∀ (T k r i : Nat), k ≤ T → (K - r) * (l5.length + 2) - i + 1 < k → r < K → i ≤ l5.length →
    script_Round.l1 k (K : Int) (r : Int) (l5.length : Int) (i : Int) a b c d e l5 l6 a b c d e l5 (l6 ++ rnd l5.length r ++ (row_ l5.length).take i) = some (a, b, c, d, e, l5, l6 ++ rnd l5.length K) := by
  intro T
  induction T with
  | zero =>
    intro k r i hT hk hr hi
    omega
  | succ T ih =>
    intro k r i hT hk hr hi
    obtain ⟨k, rfl⟩ : ∃ m, k = m + 1 := ⟨k - 1, by omega⟩
    have hmul : l5.length + 2 ≤ (K - r) * (l5.length + 2) := Nat.le_mul_of_pos_left _ (by omega)
    have hlen : (l6 ++ rnd l5.length r ++ (row_ l5.length).take i).length ≤ 30000 := by
      rw [List.length_append, List.length_append, rnd_len, List.length_take, row_len]
      have : r * l5.length ≤ 199 * 100 := Nat.mul_le_mul (by omega) hm
      omega
    simp only [script_Round.l1]
    by_cases q : i < l5.length
    · rw [if_pos (by omega), if_neg (by omega), if_pos (by omega), show wrap64 ((i : Int) + 1) = ((i + 1 : Nat) : Int) by unfold wrap64; omega]
      have := ih k r (i + 1) (by omega) (by omega) hr (by omega)
      rw [row_take _ _ q, ← List.append_assoc] at this
      exact this
    · have hie : i = l5.length := by omega
      subst hie
      rw [if_neg (by omega), show wrap64 ((r : Int) + 1) = ((r + 1 : Nat) : Int) by unfold wrap64; omega]
      obtain ⟨k, rfl⟩ : ∃ m, k = m + 1 := ⟨k - 1, by omega⟩
      have e0 : l6 ++ rnd l5.length r ++ (row_ l5.length).take l5.length = l6 ++ rnd l5.length (r + 1) := by
        rw [List.take_of_length_le (by rw [row_len]; exact Nat.le_refl _), rnd, List.append_assoc]
      rw [e0]
      simp only [script_Round.l0]
      by_cases q2 : r + 1 < K
      · rw [if_pos (by omega)]
        have e1 : (K - r) * (l5.length + 2) = (K - (r + 1)) * (l5.length + 2) + (l5.length + 2) := by
          rw [show K - r = (K - (r + 1)) + 1 by omega, Nat.succ_mul]
        rw [e1] at hk
        have := ih k (r + 1) 0 (by omega) (by omega) q2 (by omega)
        rw [List.take_zero, List.append_nil] at this
        exact this
      · rw [if_neg (by omega)]
        rw [show r + 1 = K by omega]
theorem idx_app (n : Nat) : ∀ (l r : List Int) (i : Int), idxN n l i < 0 → (∀ x ∈ r, 0 ≤ x ∧ x < (n : Int)) → 0 ≤ i → idxN n (l ++ r) i < 0
  | [], [], i, h, _, _ => by simp [idxN]
  | [], x :: r, i, h, hr, h0 => by
    have hx := hr x (by simp)
    simp only [List.nil_append, idxN]
    rw [if_neg (by omega)]
    have := idx_app n [] r (i + 1) (by simp [idxN]) (fun y hy => hr y (by simp [hy])) (by omega)
    simpa using this
  | y :: l, r, i, h, hr, h0 => by
    simp only [idxN] at h
    simp only [List.cons_append, idxN]
    by_cases q : y < 0 ∨ (n : Int) ≤ y
    · rw [if_pos q] at h; omega
    · rw [if_neg q] at h ⊢
      exact idx_app n l r (i + 1) h hr (by omega)
theorem rnd_in (m : Nat) : ∀ k, ∀ x ∈ rnd m k, 0 ≤ x ∧ x < (m : Int)
  | 0, x, h => by simp [rnd] at h
  | k + 1, x, h => by
    rw [rnd, List.mem_append] at h
    rcases h with h | h
    · exact rnd_in m k x h
    · simp only [row_, List.mem_map, List.mem_range] at h
      obtain ⟨y, hy, rfl⟩ := h
      omega
theorem scV_more {a b c d e : Int} {l5 : List (List S37)} {l6 : List Int} (h : scV a b c d e l5 l6 = (0, 0, 0)) (k : Nat) (hk : k ≤ 199) (hm : l5.length ≤ 100) (hl : l6.length ≤ 4096) : scV a b c d e l5 (l6 ++ rnd l5.length k) = (0, 0, 0) := by
  unfold scV at h ⊢
  by_cases h1 : CheckV a b c d e ≠ 0
  · rw [if_pos h1] at h; exact absurd (congrArg Prod.fst h) h1
  rw [if_neg h1] at h ⊢
  by_cases h2 : l5.length < 1 ∨ 64 < l5.length
  · rw [if_pos h2] at h; cases h
  rw [if_neg h2] at h ⊢
  have h3 : ¬ 262144 < l6.length := by omega
  have h4 : ¬ 262144 < (l6 ++ rnd l5.length k).length := by
    rw [List.length_append, rnd_len]
    have : k * l5.length ≤ 199 * 100 := Nat.mul_le_mul hk hm
    omega
  rw [if_neg h3] at h
  rw [if_neg h4]
  by_cases h5 : opssV a d l5 0 ≠ (0, 0, 0)
  · rw [if_pos h5] at h ⊢; exact h
  rw [if_neg h5] at h ⊢
  by_cases h6 : 0 ≤ idxN l5.length l6 0
  · rw [if_pos h6] at h; cases h
  have := idx_app l5.length l6 (rnd l5.length k) 0 (by omega) (rnd_in _ _) (Int.le_refl 0)
  rw [if_neg (by omega)]
end Go.Proofs.Ytcphmelmieedfaa.PScriptTurns

namespace Go.Proofs.Ytcphmelmieedfaa.PScriptTurns
open Go Go.RowKit Go.Proofs.YtcphmelmieedfaaW.PrintWords
set_option linter.unusedVariables false
set_option linter.unusedSimpArgs false
theorem copy_l (a b c d e : Int) (l5 : List (List S37)) (l6 : List Int) (hl : l5.length ≤ 1000000) (hs : ∀ l ∈ l5, l.length ≤ 4398046511104) : ∀ (q k : Nat) (i : Int) (acc : List (List S37)), 0 ≤ i → i + q = l5.length → q < k → acc = l5.take i.toNat →
    script_Copy.l0 k l5 l5.length i a b c d e acc l6 = some (a, b, c, d, e, l5, l6) := by
  intro q
  induction q with
  | zero =>
    intro k i acc h0 hi hk ha
    obtain ⟨k, rfl⟩ : ∃ m, k = m + 1 := ⟨k - 1, by omega⟩
    simp only [script_Copy.l0]
    rw [if_neg (by omega), ha, List.take_of_length_le (by omega)]
  | succ q ih =>
    intro k i acc h0 hi hk ha
    obtain ⟨k, rfl⟩ : ∃ m, k = m + 1 := ⟨k - 1, by omega⟩
    have hlt : i.toNat < l5.length := by omega
    have hrd : rd_L3 l5 i = l5[i.toNat] := by simp [rd_L3, hlt]
    have hm : (rd_L3 l5 i).length ≤ 4398046511104 := by rw [hrd]; exact hs _ (List.getElem_mem hlt)
    have hal : acc.length ≤ 1000000 := by rw [ha, List.length_take]; omega
    have hw : wrap64 (i + 1) = i + 1 := by unfold wrap64; omega
    simp only [script_Copy.l0]
    unfold slices_Clone_Op.f
    rw [if_pos (by omega), if_pos h0, if_pos (by omega), if_pos hm, Option.bind_some, if_pos (by omega), hw]
    refine ih k (i + 1) _ (by omega) (by omega) (by omega) ?_
    rw [ha, hrd, show (i + 1).toNat = i.toNat + 1 by omega, List.take_succ_eq_append_getElem hlt]
theorem copy_f (a b c d e : Int) (l5 : List (List S37)) (l6 : List Int) (hl : l5.length ≤ 1000000) (hs : ∀ l ∈ l5, l.length ≤ 4398046511104) (h6 : l6.length ≤ 17592186044416) {k : Nat} (hk : l5.length < k) :
    script_Copy.f k a b c d e l5 l6 = some (a, b, c, d, e, l5, l6) := by
  unfold script_Copy.f slices_Clone_int.f
  rw [if_pos h6, Option.bind_some]
  exact copy_l a b c d e l5 l6 hl hs l5.length k 0 [] (by omega) (by omega) hk rfl
theorem copy_r (a b c d e : Int) (l5 : List (List S37)) (l6 : List Int) (hl : l5.length ≤ 1000000) (hs : ∀ l ∈ l5, l.length ≤ 4398046511104) (h6 : l6.length ≤ 17592186044416) : ∃ k0, ∀ k, k0 < k → script_Copy.f k a b c d e l5 l6 = some (a, b, c, d, e, l5, l6) := ⟨l5.length, fun k hk => copy_f a b c d e l5 l6 hl hs h6 hk⟩
theorem round_f (a b c d e : Int) (l5 : List (List S37)) (l6 : List Int) (n : Int) (hm : l5.length ≤ 100) (hs : ∀ l ∈ l5, l.length ≤ 100) (hl : l6.length ≤ 4096) (hn : n ≤ 199) : ∃ k, script_Round.f k a b c d e l5 l6 n = some (a, b, c, d, e, l5, l6 ++ rnd l5.length n.toNat) := by
  obtain ⟨k0, hc⟩ := copy_r a b c d e l5 l6 (by omega) (fun l h => by have := hs l h; omega) (by omega)
  refine ⟨k0 + n.toNat * (l5.length + 2) + 10, ?_⟩
  unfold script_Round.f
  rw [hc _ (by omega), Option.bind_some]
  have hkk : k0 + n.toNat * (l5.length + 2) + 10 = (k0 + n.toNat * (l5.length + 2) + 9) + 1 := rfl
  by_cases h1 : n < 1
  · rw [if_pos h1, hkk]
    simp only [script_Round.j0, if_true]
    rw [show n.toNat = 0 by omega, rnd, List.append_nil]
  rw [if_neg h1, hkk]
  simp only [script_Round.j0]
  by_cases h0 : l5.length = 0
  · have e0 : ((l5.length : Int) == 0) = true := by simp [h0]
    rw [if_pos e0]
    have : rnd l5.length n.toNat = [] := List.eq_nil_of_length_eq_zero (by rw [rnd_len, h0]; simp)
    rw [this, List.append_nil]
  · have e0 : ((l5.length : Int) == 0) = false := beq_eq_false_iff_ne.2 (by omega)
    rw [if_neg (by rw [e0]; decide)]
    rw [show k0 + n.toNat * (l5.length + 2) + 9 = (k0 + n.toNat * (l5.length + 2) + 8) + 1 from rfl]
    simp only [script_Round.l0]
    rw [if_pos (by omega)]
    have := round_l a b c d e l5 l6 n.toNat hm hl (by omega) (k0 + n.toNat * (l5.length + 2) + 8) (k0 + n.toNat * (l5.length + 2) + 8) 0 0 (Nat.le_refl _) (by rw [Nat.sub_zero, Nat.sub_zero]; omega) (by omega) (by omega)
    rw [List.take_zero, List.append_nil, rnd, List.append_nil, show ((n.toNat : Nat) : Int) = n by omega] at this
    exact this
end Go.Proofs.Ytcphmelmieedfaa.PScriptTurns

namespace Go.Proofs.Ytcphmelmieedfaa.PScriptTurns
open Go Go.RowKit Go.Proofs.YtcphmelmieedfaaW.PrintWords
set_option linter.unusedVariables false
set_option linter.unusedSimpArgs false
theorem k_lt (n : Int) : 0 ≤ wrap64 ((IntKind.u64.wrap n).tmod 200) ∧ wrap64 ((IntKind.u64.wrap n).tmod 200) ≤ 199 := by
  have h2 : 0 ≤ IntKind.u64.wrap n := by have := IntKind.wrap_u64 n; omega
  have h3 := Int.tmod_nonneg (200 : Int) h2
  have h4 := Int.tmod_lt_of_pos (IntKind.u64.wrap n) (show (0 : Int) < 200 by omega)
  unfold wrap64
  omega
theorem round_facts (a b c d e : Int) (l5 : List (List S37)) (l6 : List Int) (k : Int) (hm : l5.length ≤ 100) (hs : ∀ l ∈ l5, l.length ≤ 100) (hl : l6.length ≤ 4096) (h0 : 0 ≤ k) (hn : k ≤ 199) :
    ∃ rr : List Int, (∃ K, script_Round.f K a b c d e l5 l6 k = some (a, b, c, d, e, l5, rr)) ∧ (∃ K, script_Round.f K a b c d e l5 l6 (-k) = some (a, b, c, d, e, l5, l6)) ∧ (rr.length : Int) = l6.length + k * l5.length ∧ rr.length ≤ 24000 ∧ (∀ j, j < l6.length → rr.getD j 0 = l6.getD j 0) ∧ (∀ j, l6.length ≤ j → j < rr.length → rr.getD j 0 = (((j - l6.length) % l5.length : Nat) : Int)) ∧ (scV a b c d e l5 l6 = (0, 0, 0) → scV a b c d e l5 rr = (0, 0, 0)) := by
  have hp : k.toNat * l5.length ≤ 199 * 100 := Nat.mul_le_mul (by omega) hm
  refine ⟨l6 ++ rnd l5.length k.toNat, round_f a b c d e l5 l6 k hm hs hl hn, ?_, ?_, ?_, fun j hj => ?_, fun j hj hj2 => ?_, fun h => scV_more h k.toNat (by omega) hm hl⟩
  · have := round_f a b c d e l5 l6 (-k) hm hs hl (by omega)
    rw [show (-k).toNat = 0 by omega, rnd, List.append_nil] at this
    exact this
  · rw [List.length_append, rnd_len]
    have : ((k.toNat * l5.length : Nat) : Int) = k * l5.length := by rw [Int.natCast_mul, show ((k.toNat : Nat) : Int) = k by omega]
    omega
  · rw [List.length_append, rnd_len]; omega
  · rw [List.getD_eq_getElem?_getD, List.getElem?_append_left hj, ← List.getD_eq_getElem?_getD]
  · rw [List.length_append, rnd_len] at hj2
    rw [List.getD_eq_getElem?_getD, List.getElem?_append_right hj, ← List.getD_eq_getElem?_getD]
    exact rnd_get l5.length k.toNat (j - l6.length) (by omega)
theorem tmod_nat (x y : Int) (hx : 0 ≤ x) (hy : 0 ≤ y) : Int.tmod x y = ((x.toNat % y.toNat : Nat) : Int) := by
  have h : Int.tmod ((x.toNat : Nat) : Int) ((y.toNat : Nat) : Int) = ((x.toNat % y.toNat : Nat) : Int) := (Int.ofNat_tmod _ _).symm
  rwa [show ((x.toNat : Nat) : Int) = x by omega, show ((y.toNat : Nat) : Int) = y by omega] at h
end Go.Proofs.Ytcphmelmieedfaa.PScriptTurns

namespace Go.Proofs.Ytcphmelmieedfaa.PScriptTurns
open Go Go.RowKit Go.Proofs.YtcphmelmieedfaaW.PrintWords Go.Proofs.YtcphmelmieedfaaW.PrintLast Go.Proofs.YtcphmelmieedfaaW.PrintMore
set_option linter.unusedVariables false
set_option linter.unusedSimpArgs false
def four (y : S37) : List Value := [.int .i64 y.f0, .int .u64 y.f1, .int .u64 y.f2, .int .i64 y.f3]
theorem add_0 (ad : Addr) : ad.add 0 = ad := by unfold Addr.add; simp
theorem lend0 {W : World} {B gd cp : Nat} {l5 : List (List S37)} (hS : Kd.S (Kd.slice 37 k37) 55 W B (fun _ => True) (.slice (some ⟨gd, 0, none⟩) l5.length cp) l5) (x : S37) (xs : List S37) (ls : List (List S37)) (hl : l5 = (x :: xs) :: ls) :
    ∃ gx cx cur, W.cell? ⟨gd, 0, none⟩ = some (.slice (some ⟨gx, 0, none⟩) (x :: xs).length cx) ∧ B ≤ gx ∧ gx < W.heap.size ∧ gd ≠ gx ∧ W.heap[gx]? = some (.cells cur 37 (0, 0)) ∧ 4 ≤ cur.size ∧ (∀ y : S37, Kd.C (Kd.slice 37 k37) (W.setCells gx 0 (four y)) (some ⟨gd, 0, none⟩) l5.length ((y :: xs) :: ls)) := by
  subst hl
  obtain ⟨oki, c, hc1, hM, hcell, hok, hH⟩ := Kd.S_lend hS [] 0 (Int.le_refl 0) (by first | (simp; done) | (simp; omega))
  obtain ⟨v, rfl, hR⟩ := hM
  have hR : k37.R 37 W B oki v (x :: xs) := hR
  obtain ⟨gx, cx, rfl, hb, hlt, cur, hcur⟩ := Kd.R_form hR (by simp)
  have hc0 : W.cell? ⟨gd, 0, none⟩ = some (.slice (some ⟨gx, 0, none⟩) (x :: xs).length cx) := hcell 0 _ rfl
  obtain ⟨c4, h4, hM4, hcc, hfz⟩ := Kd.R_elem hR ⟨0, 0, 0, 0⟩ 0 (Int.le_refl 0) (by first | (simp; done) | (simp; omega))
  have hok1 : oki gx := hR.1 gx (by simp [Value.ownBlock])
  have hM4 : k37.M W B _ x c4 := hM4
  obtain rfl := k37_openM hM4
  have hc3 := hcc 3 _ rfl
  have hs4 : 4 ≤ cur.size := by
    have h5 : W.cell? ⟨gx, 3, none⟩ = some (.int .i64 x.f3) := hc3
    rw [cell_of_row W gx 3 cur 37 (0, 0) hcur] at h5
    have := (Array.getElem?_eq_some_iff.1 h5).1
    omega
  refine ⟨gx, cx, cur, hc0, hb, hlt, fun e => (hok gx hok1).2 e.symm, hcur, hs4, fun y => ?_⟩
  obtain ⟨hR2, hg⟩ := Kd.R_seg hR 0 (Int.le_refl 0) (by first | (simp; done) | (simp; omega)) (seg := four y) (j := 0) h4 hcc (by show 0 + 4 ≤ 4; omega) (x' := y) (okp := fun _ => False) (show k37.M W B (fun _ => False) y (four y) from ⟨[.int .i64 y.f0], [.int .u64 y.f1, .int .u64 y.f2, .int .i64 y.f3], rfl, rfl, [.int .u64 y.f1], [.int .u64 y.f2, .int .i64 y.f3], rfl, rfl, [.int .u64 y.f2], [.int .i64 y.f3], rfl, rfl, rfl⟩) (fun _ h => h.elim)
  have hH2 := Kd.H_grown hH hg (fun k hk => by injection hk with hk; subst hk; exact hok1)
  have hS2 := Kd.H_back hH2 (x' := y :: xs) (okp := oki) ⟨_, rfl, hR2⟩ (fun _ h => h)
  exact (Kd.S_reads' hS2).2.2
theorem lend1 {W : World} {B gd cp : Nat} {l5 : List (List S37)} (hS : Kd.S (Kd.slice 37 k37) 55 W B (fun _ => True) (.slice (some ⟨gd, 0, none⟩) l5.length cp) l5) (x : S37) (xs : List S37) (ls : List (List S37)) (hl : l5 = (x :: xs) :: ls) (m0 : Nat) (hm : (x :: xs).length = m0) :
    ∃ gx cx, W.cell? ⟨gd, 0, none⟩ = some (.slice (some ⟨gx, 0, none⟩) m0 cx) ∧ B ≤ gx ∧ gx < W.heap.size ∧ (∃ cur, W.heap[gx]? = some (.cells cur 37 (0, 0)) ∧ 4 ≤ cur.size) ∧ (∀ W2, Below W.heap.size W W2 → ∀ y : S37, Kd.C (Kd.slice 37 k37) (W2.setCells gx 0 (four y)) (some ⟨gd, 0, none⟩) l5.length ((y :: xs) :: ls)) := by
  subst hm
  obtain ⟨gx, cx, cur, h1, h2, h3, h4, h5, h6, h7⟩ := lend0 hS x xs ls hl
  refine ⟨gx, cx, h1, h2, h3, ⟨cur, h5, h6⟩, fun W2 hb y => ?_⟩
  obtain ⟨gx2, cx2, cur2, g1, g2, g3, g4, g5, g6, g7⟩ := lend0 (Kd.S_below hS hb) x xs ls hl
  have h8 := (hb.cell (World.block_lt_of_cell? W _ h1)).trans h1
  rw [g1] at h8
  injection h8 with h8
  injection h8 with h9
  injection h9 with h9
  injection h9 with h9
  subst h9
  exact g7 y
theorem first_empty {W : World} {A : Option Addr} {l5 : List (List S37)} (h : Kd.C (Kd.slice 37 k37) W A l5.length l5) (ls : List (List S37)) (hl : l5 = [] :: ls) : ∃ ad bv cx, A = some ad ∧ W.cell? ad = some (.slice bv 0 cx) := by
  subst hl
  obtain ⟨ad, c, e, _, hK, hc0⟩ := Kd.C_get h [] 0 (Int.le_refl 0) (by first | (simp; done) | (simp; omega))
  obtain ⟨B, cx, rfl, hlc, hC⟩ := hK
  have h0 : W.cell? (ad.add 0) = some (.slice B 0 cx) := hc0 0 _ rfl
  rw [add_0] at h0
  exact ⟨ad, B, cx, e, h0⟩
theorem same_L (a0 a1 a2 a3 a4 : Int) (A5 : Option Addr) (c5 n5 : Nat) (l5 : List (List S37)) (A6 : Option Addr) (c6 : Nat) (l6 : List Int) (b0 b1 b2 b3 b4 : Int) (B5 : Option Addr) (d5 : Nat) (m5 : List (List S37)) (B6 : Option Addr) (d6 : Nat) (m6 : List Int) (w : World) (hn : l5.length = n5)
    (ha5 : Kd.C (Kd.slice 37 k37) w A5 n5 l5) (ha6 : Kd.C (Kd.int .i64) w A6 l6.length l6) (hc6 : l6.length ≤ c6) (hb5 : Kd.C (Kd.slice 37 k37) w B5 m5.length m5) (hb6 : Kd.C (Kd.int .i64) w B6 m6.length m6) (hd6 : m6.length ≤ d6) (hne : l5 ≠ m5) :
    Calls Try.prog 22 #[.agg #[.int .i64 a0, .int .i64 a1, .int .i64 a2, .int .i64 a3, .int .i64 a4, .slice A5 n5 c5, .slice A6 l6.length c6], .agg #[.int .i64 b0, .int .i64 b1, .int .i64 b2, .int .i64 b3, .int .i64 b4, .slice B5 m5.length d5, .slice B6 m6.length d6]] w
      fun e w' => e = .returned (.bool false) ∧ Below w.heap.size w w' := by
  subst hn
  have h := same_T a0 a1 a2 a3 a4 A5 c5 l5 A6 c6 l6 b0 b1 b2 b3 b4 B5 d5 m5 B6 d6 m6 w ha5 ha6 hc6 hb5 hb6 hd6
  rw [show decide (((a0, a1, a2, a3, a4) = (b0, b1, b2, b3, b4) ∧ l5 = m5) ∧ l6 = m6) = false from decide_eq_false (fun h => hne h.1.2)] at h
  exact h
theorem first_cells {W : World} {A : Option Addr} {l5 : List (List S37)} (h : Kd.C (Kd.slice 37 k37) W A l5.length l5) (x : S37) (xs : List S37) (ls : List (List S37)) (hl : l5 = (x :: xs) :: ls) (m0 : Nat) (hm : (x :: xs).length = m0) :
    ∃ ad bd cx, A = some ad ∧ W.cell? ad = some (.slice (some bd) m0 cx) ∧ W.cell? bd = some (.int .i64 x.f0) ∧ W.cell? ⟨bd.block, bd.off + 1, none⟩ = some (.int .u64 x.f1) ∧ W.cell? ⟨bd.block, bd.off + 2, none⟩ = some (.int .u64 x.f2) ∧ W.cell? ⟨bd.block, bd.off + 3, none⟩ = some (.int .i64 x.f3) := by
  subst hl hm
  obtain ⟨ad, c, e, _, hK, hc0⟩ := Kd.C_get h [] 0 (Int.le_refl 0) (by first | (simp; done) | (simp; omega))
  obtain ⟨B, cx, rfl, hlc, hC⟩ := hK
  have hC : Kd.C k37 W B (x :: xs).length (x :: xs) := hC
  obtain ⟨bd, c2, e2, _, hK2, hc2⟩ := Kd.C_get hC ⟨0, 0, 0, 0⟩ 0 (Int.le_refl 0) (by first | (simp; done) | (simp; omega))
  have hK2 : k37.K W x c2 := hK2
  obtain rfl := k37_open hK2
  have h0 : W.cell? (ad.add 0) = some (.slice B (x :: xs).length cx) := hc0 0 _ rfl
  have g0 : W.cell? (bd.add 0) = some (.int .i64 x.f0) := hc2 0 _ rfl
  have hh : ∀ j u, [Value.int .i64 x.f0, Value.int .u64 x.f1, Value.int .u64 x.f2, Value.int .i64 x.f3][j]? = some u → W.cell? (bd.add (0 + j)) = some u := fun j u hu => by have := hc2 j u hu; simpa using this
  rw [add_0] at h0 g0
  have e3 : ∀ j, 0 < j → bd.add (0 + j) = ⟨bd.block, bd.off + j, none⟩ := fun j hj => by rw [add_field _ _ j hj, add_0]
  exact ⟨ad, bd, cx, e, by rw [← e2]; exact h0, g0, by rw [← e3 1 (by omega)]; exact hh 1 _ rfl, by rw [← e3 2 (by omega)]; exact hh 2 _ rfl, by rw [← e3 3 (by omega)]; exact hh 3 _ rfl⟩
theorem skip_part {P : Program} {ops : Array Oper} {Q : Exit → Act → World → Prop} {oi : Oper} {a : Act} {W : World} {K : Act → World → Prop} (t : TypeId) (p x : Operand) (hw : Region.wanted oi (yielded ops a.tmps) = true) (hN : oi.dst = none) (ho : oi.op = .store t p x) {g e : Nat} {cur : Array Value} (seg : List Value)
    (haddr : a.eval p = .pointer (some ⟨g, 0, none⟩)) (u : Value) (hx : a.eval x = u) (hu : u.cells.toList = seg) (ht : (P.info? t).map (·.size) = some seg.length) (h1 : ∀ q ∈ seg, q.oneCell' = true) (hh : W.heap[g]? = some (.cells cur e (0, 0))) (hs : seg.length ≤ cur.size)
    (h : K a (W.setCells g 0 seg)) : if Region.wanted oi (yielded ops a.tmps) = true then Oper.wp P oi a W K Q else K (a.put none undef) W := by
  have hrun : (Instr.storeAt t (.pointer (some ⟨g, 0, none⟩)) u).run P W = .ok () (W.setCells g 0 seg) := run_store_run t u seg hh hu ht (by omega) h1
  rw [if_pos hw]
  unfold Oper.wp execOp
  simp only [ho, haddr, hx, Sem.run_bind, Sem.run_pure, Result.andThen_ok, hrun]
  show K (a.put oi.dst undef) _
  rw [hN]
  exact h
theorem blk_part {W : World} {g k : Nat} {o : Obj} {seg : List Value} (h : W.heap[k]? = some o) (hne : k ≠ g) : (W.setCells g 0 seg).heap[k]? = some o := (setCells_far seg 0 k hne).trans h
theorem below_part {w W : World} {B g : Nat} {seg : List Value} (h : Below B w W) (hg : B ≤ g) : Below B w (W.setCells g 0 seg) := by
  obtain ⟨s1, s2, s3, s4⟩ := setCells_same g seg 0 W
  exact h.trans ⟨s1, s2, s3, by omega, fun k hk => setCells_far seg 0 k (by omega)⟩
theorem int_part {W : World} {B g : Nat} {cur : Array Value} {ok : Nat → Prop} {v : Value} {xs : List Int} {seg : List Value} (h : (Kd.int .i64).R 3 W B ok v xs) (hb : W.heap[g]? = some (.cells cur 37 (0, 0))) : (Kd.int .i64).R 3 (W.setCells g 0 seg) B (fun k => ok k ∧ k ≠ g) v xs :=
  Kd.R_step (Kd.R_types h hb (fun q hq => by have : q = 3 := by simpa [Kd.int, Kd.scalar] using hq
                                             omega)) (fun k ho _ => setCells_far seg 0 k ho.2)
open Go.Proofs.Ytcphmelmieedfaa.U in
theorem xor_ne (x : Int) : bits .xor .i64 x 1 ≠ x := by
  intro h
  have e : bits .xor .i64 x 1 = IntKind.i64.wrap ((B x ^^^ B 1).toNat : Int) := rfl
  have h2 : B (bits .xor .i64 x 1) = B x ^^^ B 1 := by
    rw [e]
    generalize B x ^^^ B 1 = b
    apply BitVec.eq_of_toNat_eq
    rw [toNat_B]
    have hb := b.isLt
    have hw : IntKind.i64.wrap ((b.toNat : Nat) : Int) = wrap64 ((b.toNat : Nat) : Int) := by rw [i64_w]
    rw [hw]
    unfold wrap64
    omega
  rw [h] at h2
  have h3 : (B x).getLsbD 0 = (B x ^^^ B 1).getLsbD 0 := congrArg (fun t => t.getLsbD 0) h2
  rw [BitVec.getLsbD_xor, show (B 1).getLsbD 0 = true by decide] at h3
  cases hq : (B x).getLsbD 0 <;> rw [hq] at h3 <;> cases h3
end Go.Proofs.Ytcphmelmieedfaa.PScriptTurns

