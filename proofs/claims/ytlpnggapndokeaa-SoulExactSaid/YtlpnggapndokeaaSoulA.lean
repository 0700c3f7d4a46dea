/-
Who slots are: what its functions compute, and the plain laws of births in a row.
-/
import Derived.Test.YtlpnggapndokeaaRefA
import Derived.Test.YtlpnggapndokeaaShort
namespace Go.Proofs.Ytlpnggapndokeaa.PIdealKeeps
open Go Go.RowKit Go.Proofs.YtlpnggapndokeaaW.PrintWords Go.Proofs.YtlpnggapndokeaaW.PrintLast Go.Proofs.YtlpnggapndokeaaW.PrintMore Go.Proofs.Ytlpnggapndokeaa.M
attribute [local go_sem] max2_int min2_int max_two min_two max_three min_three max_four min_four
set_option linter.unusedVariables false
set_option linter.unusedSimpArgs false
/-- Where one was born. -/
def slotR (row : List Int) (id : Int) : Int := if id < 1 ∨ (row.length : Int) < id then 0 else row.getD (id - 1).toNat 0
set_option maxHeartbeats 4000000 in
set_option maxRecDepth 100000 in
theorem slotOf_T (gs g3 : Nat) (v : Value) (now : List (Int × Int)) (row : List Int) (id : Int) (w0 w : World) (hI : SoulIs w0 w gs g3 v now row) (hl : row.length ≤ 100000) :
    Calls Try.prog 73 #[.pointer (some ⟨gs, 0, none⟩), .int .i64 id] w fun e w' => e = .returned (.int .i64 (slotR row id)) ∧ Below w.heap.size w w' := by
  have hu114 := Try.underlying114
  obtain ⟨A, c, rfl, hcc, hC⟩ := Kd.R_reads hI.row
  have c1 : w.cell? ⟨gs, 1, none⟩ = some (.slice A row.length c) := (blk_cell hI.blk 1).trans rfl
  clear hI
  by_cases h1 : id < 1
  · have t1 : decide (id < 1) = true := decide_eq_true h1
    have E := Aside0.mk (show slotR row id = 0 from if_pos (.inl h1))
    clear hC hcc h1 hl
    go_enter Try.func73, Try.ntmps73
    go_wp2_with fail
    go_ret
    rw [E.out]
    exact ⟨rfl, Below.refl _ _⟩
  · have t1 : decide (id < 1) = false := decide_eq_false h1
    by_cases h2 : (row.length : Int) < id
    · have t2 : decide (id > (row.length : Int)) = true := decide_eq_true h2
      have E := Aside0.mk (show slotR row id = 0 from if_pos (.inr h2))
      clear hC hcc h1 h2 hl
      go_enter Try.func73, Try.ntmps73
      go_wp2_with fail
      go_ret
      rw [E.out]
      exact ⟨rfl, Below.refl _ _⟩
    · have t2 : decide (id > (row.length : Int)) = false := decide_eq_false h2
      obtain ⟨L, hL⟩ : ∃ L : Int, L = id - 1 := ⟨_, rfl⟩
      have p0 : (0 : Int) ≤ L := by omega
      have q0 : L < (row.length : Int) := by omega
      obtain ⟨ad, cs, e0, _, hKx, hc0⟩ := Kd.C_get hC 0 L p0 q0
      cases e0
      have hcs : cs = [.int .i64 (row.getD L.toNat 0)] := hKx
      subst hcs
      have hx0 : w.cell? (ad.add (L.toNat * 1)) = some (.int .i64 (row.getD L.toNat 0)) := hc0 0 _ rfl
      rw [Nat.mul_one] at hx0
      have wi : wrap64 (id - 1) = L := by rw [hL]; unfold wrap64; omega
      have p0b : decide (0 ≤ L) = true := decide_eq_true p0
      have E := Aside0.mk (show slotR row id = row.getD L.toNat 0 by unfold slotR; rw [if_neg (by omega), hL])
      replace p0 := eq_true p0
      replace q0 := eq_true q0
      clear hKx hc0 hC hcc h1 h2 hL hl
      generalize row.getD L.toNat 0 = y at *
      go_enter Try.func73, Try.ntmps73
      go_wp2_with fail
      go_ret
      rw [E.out]
      exact ⟨rfl, Below.refl _ _⟩
theorem slotOfNil_T (id : Int) (w : World) : Calls Try.prog 73 #[.pointer none, .int .i64 id] w fun e w' => e = .returned (.int .i64 0) ∧ Below w.heap.size w w' := by
  go_enter Try.func73, Try.ntmps73
  go_wp2_with fail
  go_ret
  exact ⟨rfl, Below.refl _ _⟩
theorem soulCountNil_T (w : World) : Calls Try.prog 29 #[.pointer none] w fun e w' => e = .returned (.int .i64 0) ∧ Below w.heap.size w w' := by
  go_enter Try.func29, Try.ntmps29
  go_wp2_with fail
  go_ret
  exact ⟨rfl, Below.refl _ _⟩
theorem soulAllNil_T (slot : Int) (w : World) : Calls Try.prog 75 #[.pointer none, .int .i64 slot] w fun e w' => e = .returned (.slice none 0 0) ∧ Below w.heap.size w w' := by
  go_enter Try.func75, Try.ntmps75
  go_wp2_with fail
  go_ret
  exact ⟨rfl, Below.refl _ _⟩
theorem soulSlotsNil_T (w : World) : Calls Try.prog 77 #[.pointer none] w fun e w' => e = .returned (.slice none 0 0) ∧ Below w.heap.size w w' := by
  go_enter Try.func77, Try.ntmps77
  go_wp2_with fail
  go_ret
  exact ⟨rfl, Below.refl _ _⟩
set_option maxHeartbeats 4000000 in
set_option maxRecDepth 100000 in
theorem soulAll_T (gs g3 : Nat) (v : Value) (now : List (Int × Int)) (row : List Int) (slot : Int) (w0 w : World) (hI : SoulIs w0 w gs g3 v now row) (hl : row.length ≤ 100000) :
    Calls Try.prog 75 #[.pointer (some ⟨gs, 0, none⟩), .int .i64 slot] w fun e w' => ∃ u, e = .returned u ∧ (Kd.int .i64).R 3 w' w.heap.size (fun _ => True) u (allF row slot row.length) ∧ Below w.heap.size w w' := by
  have hu114 := Try.underlying114
  obtain ⟨A, c, rfl, hcc, hC⟩ := Kd.R_reads hI.row
  have c1 : w.cell? ⟨gs, 1, none⟩ = some (.slice A row.length c) := (blk_cell hI.blk 1).trans rfl
  have HC := Aside0.mk hC
  have HL := Aside0.mk hl
  have R0 := Aside0.mk (Kd.R_nil (Kd.int .i64) 3 w w.heap.size (fun _ => True))
  clear hI hC hcc hl
  go_enter Try.func75, Try.ntmps75
  go_wp2_with fail
  clear c1
  go_loopg [5, 16] row.length (fun kq v5 v16 w' => ∃ (i : Int) (u : Value), u = v5 ∧ v16 = .int .i64 i ∧ Aside0 (0 ≤ i ∧ i + kq = row.length) ∧ Aside0 (Below w.heap.size w w') ∧ Aside0 ((Kd.int .i64).R 3 w' w.heap.size (fun _ => True) u (allF row slot i.toNat)))
  case atStart => exact ⟨0, _, rfl, rfl, ⟨by omega⟩, ⟨Below.refl _ _⟩, R0⟩
  case round =>
    obtain ⟨i, u, rfl, rfl, HK, HB, HR⟩ := hrel
    by_cases hi : i < (row.length : Int)
    · have t1 : decide (i < (row.length : Int)) = true := decide_eq_true hi
      have p0 : (0 : Int) ≤ i := HK.out.1
      have q0 : i < (row.length : Int) := hi
      have q1 := Aside0.mk (show 0 ≤ i ∧ i < (row.length : Int) from ⟨p0, hi⟩)
      clear hi
      obtain ⟨ko, rfl⟩ : ∃ m, gk = m + 1 := ⟨gk - 1, by have := HK.out; omega⟩
      obtain ⟨ad, cs, e0, _, hKx, hc0⟩ := Kd.C_get HC.out 0 i p0 q0
      cases e0
      have hcs : cs = [.int .i64 (row.getD i.toNat 0)] := hKx
      subst hcs
      have hx0 : w.cell? (ad.add (i.toNat * 1)) = some (.int .i64 (row.getD i.toNat 0)) := hc0 0 _ rfl
      replace hx0 := (HB.out.cell (World.block_lt_of_cell? w _ hx0)).trans hx0
      rw [Nat.mul_one] at hx0
      have AF := Aside0.mk (show allF row slot (i + 1).toNat = if row.getD i.toNat 0 = slot then allF row slot i.toNat ++ [i + 1] else allF row slot i.toNat by
        rw [show (i + 1).toNat = i.toNat + 1 by omega]
        simp only [allF]
        rw [show ((i.toNat : Int)) = i by omega])
      clear hKx hc0
      have p0b : decide (0 ≤ i) = true := decide_eq_true p0
      have wi : wrap64 (i + 1) = i + 1 := by have := q1.out; have := HL.out; unfold wrap64; omega
      replace p0 := eq_true p0
      replace q0 := eq_true q0
      generalize row.getD i.toNat 0 = y at *
      by_cases he : y = slot
      · subst he
        have t2 : (y == y) = true := beq_self_eq_true y
        have E := Aside0.mk (AF.out.trans (if_pos rfl))
        go_wp2_with (first | ((with_reducible refine gate_builtin (b := .append) (xs := #[.tmp 24, .tmp 27]) rfl ?_); at_builtin; refine Kd.R_append (Kd.int .i64) w.heap.size rfl (.tmp 24) (.tmp 27) 56 3 (.int .i64 0) 8 rfl Try.underlying56 info3' rfl (by decide) (by omega) u (allF row y i.toNat) (i + 1) [.int .i64 (i + 1)] (fun _ => True) (fun _ => False) rfl rfl ?aP (fun _ hk => hk.elim) (fun _ _ => trivial) HR.out HB.out ?aS ?aL ?_; (case aP => rfl); (case aS => exact HB.out.size); (case aL => have := HL.out; have := q1.out; have := allF_len row y i.toNat; omega); intro v1 w2 ho hb hg hat; have HO := Aside0.mk ho; have HB1 := Aside0.mk hb; clear ho hb hg hat))
        go_roundg ko
        case rel => exact ⟨i + 1, _, rfl, by first | rfl | rw [wi], ⟨by have := HK.out; have := q1.out; omega⟩, HB1, ⟨by rw [E.out]; exact HO.out⟩⟩
        case measure => exact Nat.lt_succ_self _
      · have t2 : (y == slot) = false := beq_eq_false_iff_ne.2 he
        have E := Aside0.mk (AF.out.trans (if_neg he))
        clear he
        go_wp2_with fail
        go_roundg ko
        case rel => exact ⟨i + 1, _, rfl, by first | rfl | rw [wi], ⟨by have := HK.out; have := q1.out; omega⟩, HB, ⟨by rw [E.out]; exact HR.out⟩⟩
        case measure => exact Nat.lt_succ_self _
    · have t1 : decide (i < (row.length : Int)) = false := decide_eq_false hi
      have E := Aside0.mk (show i.toNat = row.length by have := HK.out; omega)
      clear hi
      go_wp2_with fail
      go_ret
      refine ⟨u, rfl, ?_, HB.out⟩
      rw [← E.out]
      exact HR.out
end Go.Proofs.Ytlpnggapndokeaa.PIdealKeeps

namespace Go.Proofs.Ytlpnggapndokeaa.PIdealKeeps
open Go Go.RowKit Go.Proofs.YtlpnggapndokeaaW.PrintWords Go.Proofs.YtlpnggapndokeaaW.PrintLast Go.Proofs.YtlpnggapndokeaaW.PrintMore Go.Proofs.Ytlpnggapndokeaa.M
set_option linter.unusedVariables false
set_option linter.unusedSimpArgs false
abbrev leZ : Int → Int → Bool := fun x y => decide (x ≤ y)
/-- The slots in which some were, by their first birth. -/
def firsts (row : List Int) : Nat → List Int
  | 0 => []
  | n + 1 => if nowN row (row.getD n 0) n = 0 then firsts row n ++ [row.getD n 0] else firsts row n
theorem nowN_nonneg (row : List Int) (s : Int) : ∀ n, 0 ≤ nowN row s n ∧ nowN row s n ≤ n
  | 0 => ⟨Int.le_refl _, Int.le_refl _⟩
  | n + 1 => by
    have := nowN_nonneg row s n
    simp only [nowN]
    split <;> omega
theorem mem_firsts (row : List Int) (y : Int) : ∀ n, y ∈ firsts row n ↔ nowN row y n ≠ 0
  | 0 => by simp [firsts, nowN]
  | n + 1 => by
    have ih := mem_firsts row y n
    simp only [firsts, nowN]
    by_cases h : nowN row (row.getD n 0) n = 0
    · rw [if_pos h, List.mem_append, List.mem_singleton, ih]
      by_cases e : row.getD n 0 = y
      · rw [if_pos e]
        constructor
        · intro _; omega
        · intro _; exact .inr e.symm
      · rw [if_neg e]
        constructor
        · rintro (x | x)
          · exact x
          · exact absurd x.symm e
        · exact .inl
    · rw [if_neg h, ih]
      by_cases e : row.getD n 0 = y
      · rw [if_pos e]
        subst e
        constructor
        · intro _; omega
        · intro _; exact h
      · rw [if_neg e]
theorem firsts_len (row : List Int) : ∀ n, (firsts row n).length ≤ n
  | 0 => Nat.le_refl _
  | n + 1 => by
    have := firsts_len row n
    simp only [firsts]
    split
    · simp; omega
    · omega
theorem firsts_app (row ys : List Int) : ∀ n, n ≤ row.length → firsts (row ++ ys) n = firsts row n
  | 0, _ => rfl
  | n + 1, h => by
    have ih := firsts_app row ys n (by omega)
    simp only [firsts]
    have e : (row ++ ys).getD n 0 = row.getD n 0 := by
      simp only [List.getD_eq_getElem?_getD, List.getElem?_append_left (show n < row.length by omega)]
    rw [e, ih, nowN_app _ _ _ _ (by omega)]
theorem firsts_snoc (row : List Int) (s : Int) : firsts (row ++ [s]) (row.length + 1) = if nowR row s = 0 then firsts row row.length ++ [s] else firsts row row.length := by
  simp only [firsts]
  have e : (row ++ [s]).getD row.length 0 = s := by simp [List.getD_eq_getElem?_getD]
  rw [e, nowN_app _ _ _ _ (Nat.le_refl _), firsts_app _ _ _ (Nat.le_refl _)]
  rfl
/-- The head of who a slot ever was. -/
theorem allF_nil (row : List Int) (y : Int) : ∀ n, allF row y n = [] ↔ nowN row y n = 0
  | 0 => by simp [allF, nowN]
  | n + 1 => by
    have ih := allF_nil row y n
    simp only [allF, nowN]
    split
    · constructor
      · intro h; simp at h
      · intro h; omega
    · exact ih
theorem allF_head_keep (row : List Int) (y : Int) {n : Nat} (h : allF row y n ≠ []) : ∀ m, allF row y (n + m) ≠ [] ∧ (allF row y (n + m)).getD 0 0 = (allF row y n).getD 0 0
  | 0 => ⟨h, rfl⟩
  | m + 1 => by
    obtain ⟨h1, h2⟩ := allF_head_keep row y h m
    rw [show n + (m + 1) = (n + m) + 1 by omega]
    simp only [allF]
    split
    · refine ⟨by simp, ?_⟩
      rw [← h2]
      cases hc : allF row y (n + m) with
      | nil => exact absurd hc h1
      | cons a r => simp
    · exact ⟨h1, h2⟩
theorem allF_le (row : List Int) (y : Int) : ∀ n, ∀ x ∈ allF row y n, x ≤ n
  | 0 => by simp [allF]
  | n + 1 => by
    intro x hx
    simp only [allF] at hx
    split at hx
    · rw [List.mem_append, List.mem_singleton] at hx
      rcases hx with hx | hx
      · have := allF_le row y n x hx; omega
      · omega
    · have := allF_le row y n x hx; omega
theorem allF_first (row : List Int) {n L : Nat} (h : n < L) : allF row (row.getD n 0) L ≠ [] ∧ ((allF row (row.getD n 0) L).getD 0 0 = (n : Int) + 1 ↔ nowN row (row.getD n 0) n = 0) := by
  obtain ⟨m, rfl⟩ : ∃ m, L = (n + 1) + m := ⟨L - (n + 1), by omega⟩
  have h1 : allF row (row.getD n 0) (n + 1) ≠ [] := by
    simp only [allF, if_true]
    simp
  obtain ⟨h2, h3⟩ := allF_head_keep row (row.getD n 0) h1 m
  refine ⟨h2, ?_⟩
  rw [h3]
  simp only [allF, if_true]
  constructor
  · intro e
    refine (allF_nil row _ n).1 ?_
    cases hc : allF row (row.getD n 0) n with
    | nil => rfl
    | cons a r =>
      rw [hc] at e
      have e2 : a = (n : Int) + 1 := by simpa using e
      have := allF_le row (row.getD n 0) n a (by rw [hc]; exact List.mem_cons_self)
      omega
  · intro e
    rw [(allF_nil row _ n).2 e]
    simp
/-- A number on its way down a row that rises. -/
def insAt (S : List Int) (x : Int) (k : Nat) : List Int := S.take k ++ x :: S.drop k
theorem insAt_len (S : List Int) (x : Int) (k : Nat) (h : k ≤ S.length) : (insAt S x k).length = S.length + 1 := by
  unfold insAt
  simp
  omega
theorem insAt_end (S : List Int) (x : Int) : insAt S x S.length = S ++ [x] := by simp [insAt]
theorem insAt_at (S : List Int) (x : Int) (k : Nat) (h : k ≤ S.length) : (insAt S x k).getD k 0 = x := by
  unfold insAt
  rw [List.getD_eq_getElem?_getD, List.getElem?_append_right (by simp; omega)]
  simp [Nat.min_eq_left h]
theorem insAt_prev (S : List Int) (x : Int) (k : Nat) (h : k + 1 ≤ S.length) : (insAt S x (k + 1)).getD k 0 = S.getD k 0 := by
  unfold insAt
  rw [List.getD_eq_getElem?_getD, List.getElem?_append_left (by simp; omega), List.getElem?_take_of_lt (by omega), List.getD_eq_getElem?_getD]
theorem insAt_swap (S : List Int) (x : Int) (k : Nat) (h : k + 1 ≤ S.length) : ((insAt S x (k + 1)).set (k + 1) (S.getD k 0)).set k x = insAt S x k := by
  apply List.ext_getElem?
  intro j
  have hk : k < S.length := by omega
  rw [List.getElem?_set, List.getElem?_set]
  have l1 : (insAt S x (k + 1)).length = S.length + 1 := insAt_len S x (k + 1) h
  simp only [List.length_set, l1]
  have aj : (insAt S x (k + 1))[j]? = if j < k + 1 then S[j]? else if j = k + 1 then some x else S[j - 1]? := by
    unfold insAt
    by_cases h1 : j < k + 1
    · rw [if_pos h1, List.getElem?_append_left (by simp; omega), List.getElem?_take_of_lt h1]
    · rw [if_neg h1, List.getElem?_append_right (by simp; omega)]
      have e1 : (S.take (k + 1)).length = k + 1 := by simp; omega
      rw [e1]
      by_cases h2 : j = k + 1
      · rw [if_pos h2, h2]; simp
      · rw [if_neg h2]
        obtain ⟨d, rfl⟩ : ∃ d, j = k + 1 + (d + 1) := ⟨j - (k + 2), by omega⟩
        rw [show k + 1 + (d + 1) - (k + 1) = d + 1 by omega, List.getElem?_cons_succ, List.getElem?_drop]
        congr 1
  have bj : (insAt S x k)[j]? = if j < k then S[j]? else if j = k then some x else S[j - 1]? := by
    unfold insAt
    by_cases h1 : j < k
    · rw [if_pos h1, List.getElem?_append_left (by simp; omega), List.getElem?_take_of_lt h1]
    · rw [if_neg h1, List.getElem?_append_right (by simp; omega)]
      have e1 : (S.take k).length = k := by simp; omega
      rw [e1]
      by_cases h2 : j = k
      · rw [if_pos h2, h2]; simp
      · rw [if_neg h2]
        obtain ⟨d, rfl⟩ : ∃ d, j = k + (d + 1) := ⟨j - (k + 1), by omega⟩
        rw [show k + (d + 1) - k = d + 1 by omega, List.getElem?_cons_succ, List.getElem?_drop]
        congr 1
  rw [aj, bj]
  by_cases h1 : k = j
  · subst h1
    rw [if_pos rfl, if_pos (by omega), if_neg (by omega), if_pos rfl]
  · rw [if_neg h1]
    by_cases h2 : k + 1 = j
    · subst h2
      rw [if_pos rfl, if_pos (by omega), if_neg (by omega), if_neg (by omega)]
      rw [show k + 1 - 1 = k by omega, List.getD_eq_getElem?_getD, List.getElem?_eq_getElem hk]
      rfl
    · rw [if_neg h2]
      by_cases h3 : j < k
      · rw [if_pos (by omega), if_pos h3]
      · rw [if_neg (by omega), if_neg (by omega), if_neg h3, if_neg (by omega)]
theorem sorted_eq {a b : List Int} (ha : a.Pairwise (fun x y => x ≤ y)) (hp : a.Perm b) : a = b.mergeSort leZ := by
  have tr : ∀ a b c : Int, leZ a b = true → leZ b c = true → leZ a c = true := fun a b c h1 h2 => by simp only [leZ, decide_eq_true_eq] at *; exact Int.le_trans h1 h2
  have tot : ∀ a b : Int, (leZ a b || leZ b a) = true := fun a b => by simp only [leZ, Bool.or_eq_true, decide_eq_true_eq]; exact Int.le_total a b
  refine List.Perm.eq_of_pairwise (le := fun a b => leZ a b = true) (fun a b _ _ h1 h2 => ?_) (ha.imp (fun h => decide_eq_true h)) (List.pairwise_mergeSort tr tot b) (hp.trans (List.mergeSort_perm b leZ).symm)
  simp only [leZ, decide_eq_true_eq] at h1 h2
  exact Int.le_antisymm h1 h2
theorem mergeSort_sorted (b : List Int) : (b.mergeSort leZ).Pairwise (fun x y => x ≤ y) := by
  have tr : ∀ a b c : Int, leZ a b = true → leZ b c = true → leZ a c = true := fun a b c h1 h2 => by simp only [leZ, decide_eq_true_eq] at *; exact Int.le_trans h1 h2
  have tot : ∀ a b : Int, (leZ a b || leZ b a) = true := fun a b => by simp only [leZ, Bool.or_eq_true, decide_eq_true_eq]; exact Int.le_total a b
  exact (List.pairwise_mergeSort tr tot b).imp (fun h => by simpa [leZ] using h)
/-- Where it stops, the row rises again. -/
theorem insAt_sorted {S : List Int} {x : Int} {k : Nat} (hS : S.Pairwise (fun x y => x ≤ y)) (hk : k ≤ S.length) (h1 : k = 0 ∨ S.getD (k - 1) 0 ≤ x) (h2 : ∀ j, k ≤ j → j < S.length → x ≤ S.getD j 0) : (insAt S x k).Pairwise (fun x y => x ≤ y) := by
  have hget : ∀ i j, i < j → j < S.length → S.getD i 0 ≤ S.getD j 0 := by
    intro i j hij hj
    rw [List.pairwise_iff_getElem] at hS
    have := hS i j (by omega) hj hij
    rw [List.getD_eq_getElem?_getD, List.getD_eq_getElem?_getD, List.getElem?_eq_getElem hj, List.getElem?_eq_getElem (show i < S.length by omega)]
    exact this
  unfold insAt
  rw [List.pairwise_append]
  refine ⟨hS.sublist (List.take_sublist k S), ?_, ?_⟩
  · rw [List.pairwise_cons]
    refine ⟨fun y hy => ?_, hS.sublist (List.drop_sublist k S)⟩
    obtain ⟨j, hj, rfl⟩ := List.mem_iff_getElem.1 hy
    rw [List.length_drop] at hj
    have := h2 (k + j) (by omega) (by omega)
    rw [List.getElem_drop]
    rw [List.getD_eq_getElem?_getD, List.getElem?_eq_getElem (show k + j < S.length by omega)] at this
    exact this
  · intro a ha b hb
    obtain ⟨i, hi, rfl⟩ := List.mem_iff_getElem.1 ha
    rw [List.length_take] at hi
    rw [List.getElem_take]
    have hi2 : i < S.length := by omega
    have hik : i < k := by omega
    have gi : S[i] = S.getD i 0 := by rw [List.getD_eq_getElem?_getD, List.getElem?_eq_getElem hi2]; rfl
    rw [List.mem_cons] at hb
    rcases hb with rfl | hb
    · rcases h1 with h1 | h1
      · omega
      · rw [gi]
        by_cases e : i = k - 1
        · rw [e]; exact h1
        · exact Int.le_trans (hget i (k - 1) (by omega) (by omega)) h1
    · obtain ⟨j, hj, rfl⟩ := List.mem_iff_getElem.1 hb
      rw [List.length_drop] at hj
      rw [List.getElem_drop]
      have hkj : k + j < S.length := by omega
      have gj : S[k + j] = S.getD (k + j) 0 := by rw [List.getD_eq_getElem?_getD, List.getElem?_eq_getElem hkj]; rfl
      rw [gi, gj]
      exact hget i (k + j) (by omega) hkj
theorem insAt_perm (S : List Int) (x : Int) (k : Nat) : (insAt S x k).Perm (S ++ [x]) := by
  unfold insAt
  refine List.perm_middle.trans ?_
  rw [List.take_append_drop]
  exact (List.perm_append_singleton x S).symm
theorem insAt_done {l : List Int} {x : Int} {k : Nat} (hk : k ≤ (l.mergeSort leZ).length) (h1 : k = 0 ∨ (l.mergeSort leZ).getD (k - 1) 0 ≤ x) (h2 : ∀ j, k ≤ j → j < (l.mergeSort leZ).length → x ≤ (l.mergeSort leZ).getD j 0) : insAt (l.mergeSort leZ) x k = (l ++ [x]).mergeSort leZ :=
  sorted_eq (insAt_sorted (mergeSort_sorted l) hk h1 h2) ((insAt_perm _ x k).trans ((List.mergeSort_perm l leZ).append_right [x]))
end Go.Proofs.Ytlpnggapndokeaa.PIdealKeeps

namespace Go.Proofs.Ytlpnggapndokeaa.PIdealKeeps
open Go Go.RowKit Go.Proofs.YtlpnggapndokeaaW.PrintWords Go.Proofs.YtlpnggapndokeaaW.PrintLast Go.Proofs.YtlpnggapndokeaaW.PrintMore Go.Proofs.Ytlpnggapndokeaa.M
attribute [local go_sem] max2_int min2_int max_two min_two max_three min_three max_four min_four
set_option linter.unusedVariables false
set_option linter.unusedSimpArgs false
set_option maxHeartbeats 4000000 in
set_option maxRecDepth 100000 in
theorem soulCount_T (gs g3 : Nat) (v : Value) (now : List (Int × Int)) (row : List Int) (w0 w : World) (hI : SoulIs w0 w gs g3 v now row) :
    Calls Try.prog 29 #[.pointer (some ⟨gs, 0, none⟩)] w fun e w' => e = .returned (.int .i64 row.length) ∧ Below w.heap.size w w' := by
  have hu114 := Try.underlying114
  have c1 : w.cell? ⟨gs, 1, none⟩ = some v := (blk_cell hI.blk 1).trans rfl
  obtain ⟨A, c, e, _, _⟩ := Kd.R_reads hI.row
  subst e
  clear hI
  go_enter Try.func29, Try.ntmps29
  go_wp2_with fail
  go_ret
  exact ⟨rfl, Below.refl _ _⟩
end Go.Proofs.Ytlpnggapndokeaa.PIdealKeeps

namespace Go.Proofs.Ytlpnggapndokeaa.PIdealKeeps
open Go Go.RowKit Go.Proofs.YtlpnggapndokeaaW.PrintWords Go.Proofs.YtlpnggapndokeaaW.PrintLast Go.Proofs.YtlpnggapndokeaaW.PrintMore Go.Proofs.Ytlpnggapndokeaa.M
set_option linter.unusedVariables false
set_option linter.unusedSimpArgs false
theorem nowN_at (row : List Int) (s : Int) : ∀ n, nowN row s n ≠ 0 → row.getD ((nowN row s n).toNat - 1) 0 = s
  | 0, h => absurd rfl h
  | n + 1, h => by
    simp only [nowN] at h ⊢
    by_cases e : row.getD n 0 = s
    · rw [if_pos e, show (((n : Int) + 1).toNat - 1) = n by omega]; exact e
    · rw [if_neg e] at h ⊢
      exact nowN_at row s n h
theorem nowR_inj (row : List Int) {a b : Int} (ha : nowR row a ≠ 0) (h : nowR row a = nowR row b) : a = b := by
  have e1 := nowN_at row a _ ha
  have e2 := nowN_at row b row.length (by show nowR row b ≠ 0; rw [← h]; exact ha)
  have e3 : nowN row a row.length = nowN row b row.length := h
  rw [e3] at e1
  exact e1.symm.trans e2
theorem nowN_ext (row ext : List Int) (a : Int) : ∀ m, nowN (row ++ ext) a (row.length + m) = nowR row a ∨ (row.length : Int) < nowN (row ++ ext) a (row.length + m)
  | 0 => .inl (nowN_app row ext a _ (Nat.le_refl _))
  | m + 1 => by
    rw [show row.length + (m + 1) = (row.length + m) + 1 by omega]
    simp only [nowN]
    split
    · right; omega
    · exact nowN_ext row ext a m
theorem nowR_ext (row ext : List Int) (a : Int) : nowR (row ++ ext) a = nowR row a ∨ (row.length : Int) < nowR (row ++ ext) a := by
  unfold nowR
  rw [List.length_append]
  exact nowN_ext row ext a ext.length
theorem slotR_ext (row ext : List Int) {id : Int} (h1 : 1 ≤ id) (h2 : id ≤ row.length) : slotR (row ++ ext) id = slotR row id := by
  unfold slotR
  rw [List.length_append, if_neg (by omega), if_neg (by omega), List.getD_eq_getElem?_getD, List.getD_eq_getElem?_getD, List.getElem?_append_left (by omega)]
theorem firsts_nodup (row : List Int) : ∀ n, (firsts row n).Nodup
  | 0 => List.Pairwise.nil
  | n + 1 => by
    have ih := firsts_nodup row n
    simp only [firsts]
    split
    · rename_i h
      refine List.pairwise_append.2 ⟨ih, List.pairwise_singleton _ _, fun x hx y hy => ?_⟩
      rw [List.mem_singleton] at hy
      subst hy
      rintro rfl
      exact (mem_firsts row _ n).1 hx h
    · exact ih
theorem sum_bump (f g : Int → Nat) (x : Int) (hx : g x = f x + 1) (ho : ∀ s, s ≠ x → g s = f s) : ∀ l : List Int, l.Nodup → (l.map g).sum = (l.map f).sum + if x ∈ l then 1 else 0
  | [], _ => by simp
  | a :: r, h => by
    have h' := List.pairwise_cons.1 h
    have ih := sum_bump f g x hx ho r h'.2
    simp only [List.map_cons, List.sum_cons, ih, List.mem_cons]
    by_cases e : a = x
    · subst e
      have q : a ∉ r := fun q => h'.1 a q rfl
      rw [if_neg q, if_pos (.inl rfl), hx]; omega
    · rw [ho a e]
      by_cases q : x ∈ r
      · rw [if_pos q, if_pos (.inr q)]; omega
      · rw [if_neg q, if_neg (by rintro (z | z); exact e z.symm; exact q z)]; omega
theorem firsts_sum (row : List Int) : ∀ n, ((firsts row n).map (fun s => (allF row s n).length)).sum = n
  | 0 => rfl
  | n + 1 => by
    have ih := firsts_sum row n
    obtain ⟨x, hx⟩ : ∃ x, row.getD n 0 = x := ⟨_, rfl⟩
    have hb := sum_bump (fun s => (allF row s n).length) (fun s => (allF row s (n + 1)).length) x (by simp only [allF, hx, if_true, List.length_append, List.length_singleton]) (fun s hs => by simp only [allF, hx]; rw [if_neg (fun e => hs e.symm)])
    simp only [firsts, hx]
    by_cases h : nowN row x n = 0
    · rw [if_pos h, List.map_append, List.sum_append, hb _ (firsts_nodup row n), ih, if_neg (fun q => (mem_firsts row x n).1 q h)]
      have z : allF row x n = [] := (allF_nil row x n).2 h
      have z2 : ([x].map (fun s => (allF row s (n + 1)).length)).sum = 1 := by
        simp only [List.map_cons, List.map_nil, List.sum_cons, List.sum_nil, allF]
        rw [if_pos hx, z]
        rfl
      rw [z2]
    · rw [if_neg h, hb _ (firsts_nodup row n), ih, if_pos ((mem_firsts row x n).2 h)]
theorem perm_sum {a b : List Nat} (h : a.Perm b) : a.sum = b.sum := by
  induction h with
  | nil => rfl
  | cons x _ ih => simp [ih]
  | swap x y l => simp; omega
  | trans _ _ h1 h2 => exact h1.trans h2
theorem sorted_sum (row : List Int) : (((firsts row row.length).mergeSort leZ).map (fun s => (allF row s row.length).length)).sum = row.length := by
  rw [perm_sum ((List.mergeSort_perm (firsts row row.length) leZ).map _)]
  exact firsts_sum row row.length
theorem take_sum_le (f : Int → Nat) : ∀ (l : List Int) (i : Nat), ((l.take i).map f).sum ≤ (l.map f).sum
  | [], i => by simp
  | a :: r, 0 => by simp
  | a :: r, i + 1 => by
    have := take_sum_le f r i
    simp only [List.take_succ_cons, List.map_cons, List.sum_cons]
    omega
theorem take_sum_succ (f : Int → Nat) (l : List Int) (i : Nat) (h : i < l.length) : ((l.take (i + 1)).map f).sum = ((l.take i).map f).sum + f (l.getD i 0) := by
  rw [List.take_succ_eq_append_getElem h, List.map_append, List.sum_append, List.getD_eq_getElem?_getD, List.getElem?_eq_getElem h]
  simp
theorem getD_mem' {l : List Int} {i : Nat} (h : i < l.length) : l.getD i 0 ∈ l := by
  rw [List.getD_eq_getElem?_getD, List.getElem?_eq_getElem h]
  exact List.getElem_mem _
theorem sorted_nodup (row : List Int) : ((firsts row row.length).mergeSort leZ).Nodup :=
  (List.mergeSort_perm (firsts row row.length) leZ).nodup_iff.2 (firsts_nodup row row.length)
theorem nodup_ne {l : List Int} (h : l.Nodup) {i j : Nat} (hij : i < j) (hj : j < l.length) : l.getD i 0 ≠ l.getD j 0 := by
  have := List.pairwise_iff_getElem.1 h i j (by omega) hj hij
  rw [List.getD_eq_getElem?_getD, List.getD_eq_getElem?_getD, List.getElem?_eq_getElem hj, List.getElem?_eq_getElem (show i < l.length by omega)]
  exact this
theorem sorted_now (row : List Int) {i : Nat} (h : i < ((firsts row row.length).mergeSort leZ).length) : nowR row (((firsts row row.length).mergeSort leZ).getD i 0) ≠ 0 :=
  (mem_firsts row _ row.length).1 (List.mem_mergeSort.1 (getD_mem' h))
/-- Whether each of the first is there. -/
def wasF (r : List Int) : Nat → List Int
  | 0 => []
  | k + 1 => wasF r k ++ [if nowR r (slotR r ((k : Int) + 1)) = (k : Int) + 1 then 1 else 0]
theorem wasF_len (r : List Int) : ∀ k, (wasF r k).length = k
  | 0 => rfl
  | k + 1 => by simp [wasF, wasF_len r k]
theorem wasF_get (r : List Int) {i : Nat} : ∀ k, i < k → (wasF r k).getD i 0 = if nowR r (slotR r ((i : Int) + 1)) = (i : Int) + 1 then 1 else 0
  | k + 1, h => by
    simp only [wasF]
    by_cases e : i = k
    · subst e
      rw [List.getD_eq_getElem?_getD, List.getElem?_append_right (by rw [wasF_len]; exact Nat.le_refl _), wasF_len]
      simp
    · have ih := wasF_get r k (i := i) (by omega)
      rw [List.getD_eq_getElem?_getD, List.getElem?_append_left (by rw [wasF_len]; omega), ← List.getD_eq_getElem?_getD]
      exact ih
theorem never_again (r ext : List Int) {id : Int} (h1 : 1 ≤ id) (h2 : id ≤ r.length) (h : ¬ nowR r (slotR r id) = id) : (nowR (r ++ ext) (slotR (r ++ ext) id) == id) = false := by
  rw [slotR_ext r ext h1 h2]
  refine beq_eq_false_iff_ne.2 ?_
  rcases nowR_ext r ext (slotR r id) with e | e
  · rw [e]; exact h
  · omega
end Go.Proofs.Ytlpnggapndokeaa.PIdealKeeps

