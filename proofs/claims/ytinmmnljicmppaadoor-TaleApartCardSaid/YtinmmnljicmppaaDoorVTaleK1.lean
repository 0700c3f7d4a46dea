import Derived.Test.YtinmmnljicmppaaDoorVTaleG
import Derived.Test.YtinmmnljicmppaaDoorVTalePe
import Derived.Test.YtinmmnljicmppaaDoorVTaleE
import Derived.Test.YtinmmnljicmppaaDoorVWords
/-
Where a pick is of no thread; runs of picks in words.
-/
namespace Go.Proofs.YtinmmnljicmppaaDoor.PTaleApart
open Go Go.RowKit Go.Proofs.YtinmmnljicmppaaDoorW.PrintWords Go.Proofs.YtinmmnljicmppaaDoorW.PrintLast Go.Proofs.YtinmmnljicmppaaDoorW.PrintMore Go.Proofs.YtinmmnljicmppaaDoor.Str
attribute [local go_sem] max2_int min2_int max_two min_two max_three min_three max_four min_four
set_option linter.unusedVariables false
set_option linter.unusedSimpArgs false
theorem drop_rd (xs : List Int) (i : Int) (h0 : 0 ≤ i) (h1 : i < xs.length) : xs.drop i.toNat = rd xs i :: xs.drop (i + 1).toNat := by
 have h : i.toNat < xs.length := by omega
 rw [List.drop_eq_getElem_cons h]
 congr 1
 ·simp [rd, h]
 ·congr 1; omega
def idxN (m : Int) : List Int → Int → Int
 | [], _ => -1
 | p :: ps, i => if p < 0 ∨ m ≤ p then i else idxN m ps (i + 1)
set_option maxHeartbeats 8000000 in
set_option maxRecDepth 100000 in
theorem isNone_T (a b c d e : Int) (A5 : Option Addr) (m c5 : Nat) (A6 : Option Addr) (m6 c6 : Nat) (p : Int) (w : World) (hm : m ≤ 9223372036854775807) :
  Calls Tryd.prog 49 #[.agg #[.int .i64 a, .int .i64 b, .int .i64 c, .int .i64 d, .int .i64 e, .slice A5 m c5, .slice A6 m6 c6], .int .i64 p] w
   fun e_ w' => e_ = .returned (.bool (decide (p < 0 ∨ (m : Int) ≤ p))) ∧ Below w.heap.size w w' := by
 have hu := Tryd.underlying47
 by_cases h0 : p < 0
 ·have t1 : decide (p < 0) = true := decide_eq_true h0
  have HE := Aside0.mk (show decide (p < 0 ∨ (m : Int) ≤ p) = true from decide_eq_true (.inl h0))
  rw [HE.out]
  clear h0
  go_enter Tryd.func49, Tryd.ntmps49
  go_wp2_with fail
  go_ret
  exact ⟨rfl, below_alloc (Below.refl _ _) _⟩
 ·have t1 : decide (p < 0) = false := decide_eq_false h0
  obtain ⟨q, hq⟩ : ∃ q, decide ((m : Int) ≤ p) = q := ⟨_, rfl⟩
  have hq2 : decide (p ≥ (m : Int)) = q := hq
  have HE := Aside0.mk (show decide (p < 0 ∨ (m : Int) ≤ p) = q by rw [← hq]; simp [h0])
  rw [HE.out]
  clear h0
  go_enter Tryd.func49, Tryd.ntmps49
  go_wp2_with fail
  go_ret
  exact ⟨rfl, below_alloc (Below.refl _ _) _⟩
set_option maxHeartbeats 8000000 in
set_option maxRecDepth 100000 in
theorem indexFunc_T (a b c d e : Int) (A5 : Option Addr) (m c5 : Nat) (A6 : Option Addr) (m6 c6 : Nat) (A0 : Option Addr) (c0 : Nat) (l0 : List Int) (w : World) (hm : m ≤ 9223372036854775807) (hr0 : Kd.C (Kd.int .i64) w A0 l0.length l0) :
  Calls Tryd.prog 40 #[.slice A0 l0.length c0, .func (.func 49) #[.agg #[.int .i64 a, .int .i64 b, .int .i64 c, .int .i64 d, .int .i64 e, .slice A5 m c5, .slice A6 m6 c6]] #[]] w
   fun e_ w' => e_ = .returned (.int .i64 (idxN m l0 0)) ∧ Below w.heap.size w w' := by
 have HR0 := Aside0.mk hr0
 have HL := Aside0.mk hr0.2.1
 have HM := Aside0.mk hm
 clear hr0 hm
 have HA := Aside0.mk (show idxN m (l0.drop (0 : Int).toNat) 0 = idxN m l0 0 from rfl)
 generalize idxN m l0 0 = r at *
 go_enter Tryd.func40, Tryd.ntmps40
 go_wp2_with fail
 go_loopg [4, 8] l0.length (fun kq v4 v8 w' => ∃ (i : Int), v4 = .int .i64 0 ∧ v8 = .int .i64 i ∧ Aside0 (0 ≤ i ∧ i + kq = l0.length) ∧ Aside0 (idxN m (l0.drop i.toNat) i = r) ∧ Aside0 (Below w.heap.size w w'))
 case atStart => exact ⟨0, rfl, rfl, ⟨by omega⟩, HA, ⟨Below.refl _ _⟩⟩
 case round =>
  clear HA
  obtain ⟨i, rfl, rfl, HK, HA, HB⟩ := hrel
  by_cases hi : i < (l0.length : Int)
  ·have t1 : decide (i < (l0.length : Int)) = true := decide_eq_true hi
   have p0 : (0 : Int) ≤ i := HK.out.1
   have q0 : i < (l0.length : Int) := hi
   clear hi
   obtain ⟨ko, rfl⟩ : ∃ m, gk = m + 1 := ⟨gk - 1, by have := HK.out; omega⟩
   obtain ⟨ad, e0, hx0⟩ := Kd.at_int HR0.out i p0 q0
   cases e0
   have hd := HA.out
   rw [drop_rd l0 i p0 q0] at hd
   simp only [idxN] at hd
   have HD := Aside0.mk hd
   replace hx0 := (HB.out.cell (World.block_lt_of_cell? w _ hx0)).trans hx0
   clear hd HA
   have p0b : decide (0 ≤ i) = true := decide_eq_true p0
   have p0c := Aside0.mk p0
   have q0c := Aside0.mk q0
   replace p0 := eq_true p0
   replace q0 := eq_true q0
   go_wp2_with fail
   refine (isNone_T a b c d e A5 m c5 A6 m6 c6 (rd l0 i) wr HM.out).mono ?_
   rintro e_ w5 ⟨rfl, hb⟩
   have HB2 := Aside0.mk (below_step HB.out hb)
   clear hb HB
   have b3 : i < 9223372036854775807 := by have := q0c.out; have := HL.out; omega
   have b4 : 0 ≤ i := p0c.out
   by_cases he : rd l0 i < 0 ∨ (m : Int) ≤ rd l0 i
   ·rw [decide_eq_true he]
    obtain rfl : r = i := by
     have := HD.out
     rw [if_pos he] at this
     exact this.symm
    clear he HD
    go_wp2_with fail
    go_ret
    exact ⟨rfl, HB2.out⟩
   ·rw [decide_eq_false he]
    have HE := Aside0.mk (show idxN m (l0.drop (i + 1).toNat) (i + 1) = r by have := HD.out; rw [if_neg he] at this; exact this)
    clear he HD
    go_wp2_with fail
    go_roundg ko
    case rel => exact ⟨i + 1, rfl, rfl, ⟨by have := HK.out; omega⟩, HE, HB2⟩
    case measure => exact Nat.lt_succ_self _
  ·have t1 : decide (i < (l0.length : Int)) = false := decide_eq_false hi
   obtain rfl : r = -1 := by
    have := HA.out
    rw [List.drop_of_length_le (by omega)] at this
    exact this.symm
   clear hi HA
   go_wp2_with fail
   go_ret
   exact ⟨rfl, HB.out⟩
set_option maxHeartbeats 8000000 in
set_option maxRecDepth 100000 in
theorem pickNone_T (p : Int) (w : World) : Calls Tryd.prog 25 #[.int .i64 p] w fun e_ w' => e_ = .returned (.bool (decide (p < 0 ∨ (64 : Int) ≤ p))) ∧ Below w.heap.size w w' := by
 have his : tale_isThread.f p = some (decide (0 ≤ p ∧ p < 64)) := by
  unfold tale_isThread.f
  by_cases h1 : 0 ≤ p
  ·rw [if_pos h1]; congr 1; by_cases h2 : p < 64 <;> simp [h1, h2]
  ·rw [if_neg h1]; congr 1; simp [h1]
 have HC := isT_T p (decide (0 ≤ p ∧ p < 64)) w his
 have hn : decide (p < 0 ∨ (64 : Int) ≤ p) = !(decide (0 ≤ p ∧ p < 64)) := by
  by_cases h1 : 0 ≤ p <;> by_cases h2 : p < 64 <;> simp [h1, h2] <;> omega
 rw [hn]
 generalize decide (0 ≤ p ∧ p < 64) = z at HC
 clear his hn
 go_enter Tryd.func25, Tryd.ntmps25
 go_wp2_with fail
 refine HC.mono ?_
 rintro e w1 ⟨rfl, hb⟩
 have HB := Aside0.mk hb
 clear hb HC
 go_wp2_with fail
 go_ret
 exact ⟨rfl, HB.out⟩
set_option maxHeartbeats 8000000 in
set_option maxRecDepth 100000 in
theorem indexPick_T (A0 : Option Addr) (c0 : Nat) (l0 : List Int) (w : World) (hr0 : Kd.C (Kd.int .i64) w A0 l0.length l0) :
  Calls Tryd.prog 40 #[.slice A0 l0.length c0, .func (.func 25) #[] #[]] w
   fun e_ w' => e_ = .returned (.int .i64 (idxN 64 l0 0)) ∧ Below w.heap.size w w' := by
 have HR0 := Aside0.mk hr0
 have HL := Aside0.mk hr0.2.1
 clear hr0
 have HA := Aside0.mk (show idxN 64 (l0.drop (0 : Int).toNat) 0 = idxN 64 l0 0 from rfl)
 generalize idxN 64 l0 0 = r at *
 go_enter Tryd.func40, Tryd.ntmps40
 go_wp2_with fail
 go_loopg [4, 8] l0.length (fun kq v4 v8 w' => ∃ (i : Int), v4 = .int .i64 0 ∧ v8 = .int .i64 i ∧ Aside0 (0 ≤ i ∧ i + kq = l0.length) ∧ Aside0 (idxN 64 (l0.drop i.toNat) i = r) ∧ Aside0 (Below w.heap.size w w'))
 case atStart => exact ⟨0, rfl, rfl, ⟨by omega⟩, HA, ⟨Below.refl _ _⟩⟩
 case round =>
  clear HA
  obtain ⟨i, rfl, rfl, HK, HA, HB⟩ := hrel
  by_cases hi : i < (l0.length : Int)
  ·have t1 : decide (i < (l0.length : Int)) = true := decide_eq_true hi
   have p0 : (0 : Int) ≤ i := HK.out.1
   have q0 : i < (l0.length : Int) := hi
   clear hi
   obtain ⟨ko, rfl⟩ : ∃ m, gk = m + 1 := ⟨gk - 1, by have := HK.out; omega⟩
   obtain ⟨ad, e0, hx0⟩ := Kd.at_int HR0.out i p0 q0
   cases e0
   have hd := HA.out
   rw [drop_rd l0 i p0 q0] at hd
   simp only [idxN] at hd
   have HD := Aside0.mk hd
   replace hx0 := (HB.out.cell (World.block_lt_of_cell? w _ hx0)).trans hx0
   clear hd HA
   have p0b : decide (0 ≤ i) = true := decide_eq_true p0
   have p0c := Aside0.mk p0
   have q0c := Aside0.mk q0
   replace p0 := eq_true p0
   replace q0 := eq_true q0
   go_wp2_with fail
   refine (pickNone_T (rd l0 i) wr).mono ?_
   rintro e_ w5 ⟨rfl, hb⟩
   have HB2 := Aside0.mk (below_step HB.out hb)
   clear hb HB
   have b3 : i < 9223372036854775807 := by have := q0c.out; have := HL.out; omega
   have b4 : 0 ≤ i := p0c.out
   by_cases he : rd l0 i < 0 ∨ (64 : Int) ≤ rd l0 i
   ·rw [decide_eq_true he]
    obtain rfl : r = i := by
     have := HD.out
     rw [if_pos he] at this
     exact this.symm
    clear he HD
    go_wp2_with fail
    go_ret
    exact ⟨rfl, HB2.out⟩
   ·rw [decide_eq_false he]
    have HE := Aside0.mk (show idxN 64 (l0.drop (i + 1).toNat) (i + 1) = r by have := HD.out; rw [if_neg he] at this; exact this)
    clear he HD
    go_wp2_with fail
    go_roundg ko
    case rel => exact ⟨i + 1, rfl, rfl, ⟨by have := HK.out; omega⟩, HE, HB2⟩
    case measure => exact Nat.lt_succ_self _
  ·have t1 : decide (i < (l0.length : Int)) = false := decide_eq_false hi
   obtain rfl : r = -1 := by
    have := HA.out
    rw [List.drop_of_length_le (by omega)] at this
    exact this.symm
   clear hi HA
   go_wp2_with fail
   go_ret
   exact ⟨rfl, HB.out⟩
set_option maxHeartbeats 8000000 in
set_option maxRecDepth 100000 in
theorem contains_T (A0 : Option Addr) (c0 : Nat) (l0 : List Int) (w : World) (hr0 : Kd.C (Kd.int .i64) w A0 l0.length l0) :
  Calls Tryd.prog 24 #[.slice A0 l0.length c0, .func (.func 25) #[] #[]] w
   fun e_ w' => e_ = .returned (.bool (decide (0 ≤ idxN 64 l0 0))) ∧ Below w.heap.size w w' := by
 have HC := indexPick_T A0 c0 l0 w hr0
 have hd : decide (idxN 64 l0 0 ≥ 0) = decide (0 ≤ idxN 64 l0 0) := rfl
 generalize idxN 64 l0 0 = r at *
 clear hr0
 obtain ⟨q, hq⟩ : ∃ q, decide (0 ≤ r) = q := ⟨_, rfl⟩
 rw [hq] at hd ⊢
 go_enter Tryd.func24, Tryd.ntmps24
 go_wp2_with fail
 refine HC.mono ?_
 rintro e w1 ⟨rfl, hb⟩
 have HB := Aside0.mk hb
 clear hb HC
 go_wp2_with fail
 go_ret
 exact ⟨rfl, HB.out⟩
end Go.Proofs.YtinmmnljicmppaaDoor.PTaleApart
namespace Go.Proofs.YtinmmnljicmppaaDoor.PTaleApart
open Go Go.RowKit Go.Proofs.YtinmmnljicmppaaDoorW.PrintWords Go.Proofs.YtinmmnljicmppaaDoorW.PrintLast Go.Proofs.YtinmmnljicmppaaDoorW.PrintMore Go.Proofs.YtinmmnljicmppaaDoor.Str
set_option linter.unusedVariables false
set_option linter.unusedSimpArgs false
def picksV (l : List Int) : ByteArray × Int := if 0 ≤ idxN 64 l 0 then (⟨#[]⟩, 3) else if 262144 < l.length then (⟨#[]⟩, 9) else (⟨(picksLine l).toArray⟩, 0)
theorem idxN_none : ∀ (l : List Int) (i : Int), 0 ≤ i → ¬ 0 ≤ idxN 64 l i → ∀ x ∈ l, 0 ≤ x ∧ x < 64
 | [], _, _, _ => fun x hx => by cases hx
 | y :: r, i, hi, h => by
  unfold idxN at h
  split at h
  ·omega
  ·rename_i hy
   intro x hx
   rcases List.mem_cons.1 hx with rfl | hx
   ·omega
   ·exact idxN_none r (i + 1) (by omega) h x hx
theorem idxN_some : ∀ (l : List Int) (i : Int), (∀ x ∈ l, 0 ≤ x ∧ x < 64) → idxN 64 l i = -1
 | [], _, _ => rfl
 | y :: r, i, h => by
  unfold idxN
  have := h y (by simp)
  rw [if_neg (by omega), idxN_some r (i + 1) (fun x hx => h x (by simp [hx]))]
theorem tw_step (x : Int) : ∀ (r : List Int) (m : Nat), m ≤ (r.takeWhile (fun y => y == x)).length → (r[m]? = some x → m + 1 ≤ (r.takeWhile (fun y => y == x)).length) ∧ ((∀ y, r[m]? = some y → y ≠ x) → (r.takeWhile (fun y => y == x)).length = m)
 | [], m, h => by
  simp only [List.takeWhile_nil, List.length_nil] at h ⊢
  exact ⟨fun h2 => by simp at h2, fun _ => by omega⟩
 | z :: r, m, h => by
  by_cases hz : z = x
  ·subst hz
   rw [List.takeWhile_cons_of_pos (by simp)] at h ⊢
   rcases m with _ | m
   ·exact ⟨fun _ => by simp, fun h2 => absurd rfl (h2 z rfl)⟩
   ·simp only [List.length_cons] at h ⊢
    obtain ⟨h1, h2⟩ := tw_step z r m (by omega)
    refine ⟨fun h3 => ?_, fun h3 => ?_⟩
    ·have := h1 (by simpa using h3); omega
    ·have := h2 (fun y hy => h3 y (by simpa using hy)); omega
  ·rw [List.takeWhile_cons_of_neg (by simpa using hz)] at h ⊢
   simp only [List.length_nil] at h ⊢
   obtain rfl : m = 0 := by omega
   exact ⟨fun h3 => by simp at h3; exact absurd h3 hz, fun _ => rfl⟩
theorem drop_tw (x : Int) (r : List Int) : r.drop (r.takeWhile (fun y => y == x)).length = r.dropWhile (fun y => y == x) := by
 have h := List.takeWhile_append_dropWhile (p := fun y => y == x) (l := r)
 have h2 := congrArg (List.drop (r.takeWhile (fun y => y == x)).length) h
 rw [List.drop_left] at h2
 exact h2.symm
def pickB (q : Int × Nat) : ByteArray := ⟨(pickWord q).toArray⟩
theorem ba_append (a b : ByteArray) : a ++ b = ⟨a.data ++ b.data⟩ := by
 have h : (a ++ b).data = a.data ++ b.data := ByteArray.data_append
 rw [← h]
theorem pick_one {x : Int} (h : 0 ≤ x) : itB x = pickB (x, 1) := by
 obtain ⟨n, rfl⟩ := Int.eq_ofNat_of_zero_le h
 rw [itB_nat]
 unfold pickB pickWord
 simp
theorem pick_more {x : Int} (h : 0 ≤ x) {m : Nat} (hm : 1 < m) : itB x ++ ((⟨#[42]⟩ : ByteArray) ++ itB (m : Int)) = pickB (x, m) := by
 obtain ⟨n, rfl⟩ := Int.eq_ofNat_of_zero_le h
 rw [itB_nat, itB_nat, ba_append, ba_append]
 unfold pickB pickWord
 rw [if_pos hm]
 simp
theorem pickB_len (q : Int × Nat) (h : q.1 < 64) (h2 : q.2 ≤ 262144) : (pickB q).data.toList.length ≤ 1000000 := by
 show (pickWord q).length ≤ _
 unfold pickWord
 have h3 := dec_len20 q.1.toNat (by omega)
 have h4 := dec_len20 q.2 (by omega)
 rw [List.length_append]
 split
 ·rw [List.length_cons]; omega
 ·rw [List.length_nil]; omega
def picksL (l : List Int) : List ByteArray := (⟨#[112, 105, 99, 107, 115]⟩ : ByteArray) :: (runs l).map pickB
theorem picksL_join (l : List Int) : joinB (picksL l) = ⟨(picksLine l).toArray⟩ := by
 unfold joinB picksL picksLine
 rw [List.map_cons, List.map_map]
 have h : (runs l).map ((fun x : ByteArray => x.data.toList) ∘ pickB) = (runs l).map pickWord := by
  apply List.map_congr_left
  intro q _
  rfl
 rw [h]
 rfl
theorem runs_le : ∀ (k : Nat) (l : List Int), l.length ≤ k → (runs l).length ≤ l.length
 | 0, l, hl => by
  obtain rfl : l = [] := List.eq_nil_of_length_eq_zero (by omega)
  rw [runs_nil]; exact Nat.le_refl _
 | k + 1, [], _ => by rw [runs_nil]; exact Nat.le_refl _
 | k + 1, x :: r, hl => by
  rw [runs_cons]
  have hd := dropWhile_le (fun y => y == x) r
  simp only [List.length_cons] at hl ⊢
  have := runs_le k (r.dropWhile (fun y => y == x)) (by omega)
  omega
theorem runs_in : ∀ (k : Nat) (l : List Int), l.length ≤ k → ∀ q ∈ runs l, q.1 ∈ l ∧ q.2 ≤ l.length
 | 0, l, hl => by
  obtain rfl : l = [] := List.eq_nil_of_length_eq_zero (by omega)
  rw [runs_nil]
  intro q hq
  cases hq
 | k + 1, [], _ => by
  rw [runs_nil]
  intro q hq
  cases hq
 | k + 1, x :: r, hl => by
  rw [runs_cons]
  intro q hq
  rcases List.mem_cons.1 hq with rfl | hq
  ·refine ⟨by simp, ?_⟩
   have := (List.takeWhile_sublist (fun y => y == x) (l := r)).length_le
   simp only [List.length_cons]
   omega
  ·have hd := dropWhile_le (fun y => y == x) r
   simp only [List.length_cons] at hl
   obtain ⟨h1, h3⟩ := runs_in k (r.dropWhile (fun y => y == x)) (by omega) q hq
   exact ⟨by
    have := (List.dropWhile_sublist (fun y => y == x) (l := r)).subset h1
    simp [this], by simp only [List.length_cons]; omega⟩
theorem picksL_len (l : List Int) (hl : l.length ≤ 262144) : (picksL l).length ≤ 1000000 := by
 unfold picksL
 have := runs_le _ l (Nat.le_refl _)
 rw [List.length_cons, List.length_map]; omega
theorem picksL_words (l : List Int) (hl : l.length ≤ 262144) (h : ∀ x ∈ l, 0 ≤ x ∧ x < 64) : ∀ x ∈ picksL l, x.data.toList.length ≤ 1000000 := by
 intro x hx
 unfold picksL at hx
 rcases List.mem_cons.1 hx with rfl | hx
 ·decide
 ·obtain ⟨q, hq, rfl⟩ := List.mem_map.1 hx
  obtain ⟨h1, h3⟩ := runs_in _ l (Nat.le_refl _) q hq
  exact pickB_len q (h _ h1).2 (by omega)
theorem picks_step {l : List Int} {i : Nat} {x : Int} {r : List Int} {m : Nat} {xs G : List ByteArray} (hd : l.drop i = x :: r) (ht : (r.takeWhile (fun y => y == x)).length = m) (h : xs ++ (runs (l.drop i)).map pickB = G) : (xs ++ [pickB (x, m + 1)]) ++ (runs (l.drop (i + (m + 1)))).map pickB = G := by
 rw [hd, runs_cons, ht, ← drop_tw, ht, Nat.add_comm 1 m] at h
 have h2 : l.drop (i + (m + 1)) = r.drop m := by
  rw [← List.drop_drop, hd]
  rfl
 rw [h2, ← h]
 simp
end Go.Proofs.YtinmmnljicmppaaDoor.PTaleApart
