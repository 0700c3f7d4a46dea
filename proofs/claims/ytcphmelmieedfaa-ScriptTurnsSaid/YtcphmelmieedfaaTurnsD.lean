/-
script.Without hands back the picks of all others.
-/
import Derived.Test.YtcphmelmieedfaaTurnsA
import Derived.Test.YtcphmelmieedfaaPScriptTurnsx4
namespace Go.Proofs.Ytcphmelmieedfaa.PScriptTurns
open Go Go.RowKit Go.Proofs.YtcphmelmieedfaaW.PrintWords Go.Proofs.YtcphmelmieedfaaW.PrintLast Go.Proofs.YtcphmelmieedfaaW.PrintMore
attribute [local go_sem] max2_int min2_int max_two min_two max_three min_three max_four min_four
set_option linter.unusedVariables false
set_option linter.unusedSimpArgs false
set_option maxHeartbeats 8000000 in
set_option maxRecDepth 100000 in
theorem isThread_T (B : Nat) (t p : Int) (w : World) (hc : w.cell? ⟨B, 0, none⟩ = some (.int .i64 t)) :
    Calls Try.prog 51 #[.int .i64 p, .pointer (some ⟨B, 0, none⟩)] w fun e_ w' => e_ = .returned (.bool (p == t)) ∧ w = w' := by
  go_enter Try.func51, Try.ntmps51
  go_wp2_with fail
  go_ret
  exact ⟨rfl, rfl⟩
def idxT (t : Int) : List Int → Int → Int
  | [], _ => -1
  | p :: ps, i => if p = t then i else idxT t ps (i + 1)
set_option maxHeartbeats 8000000 in
set_option maxRecDepth 100000 in
theorem indexT_T (B : Nat) (t : Int) (A0 : Option Addr) (c0 : Nat) (l0 : List Int) (w : World) (hc : w.cell? ⟨B, 0, none⟩ = some (.int .i64 t)) (hr0 : Kd.C (Kd.int .i64) w A0 l0.length l0) :
    Calls Try.prog 47 #[.slice A0 l0.length c0, .func (.func 51) #[] #[.pointer (some ⟨B, 0, none⟩)]] w
      fun e_ w' => e_ = .returned (.int .i64 (idxT t l0 0)) ∧ Below w.heap.size w w' := by
  have HR0 := Aside0.mk hr0
  have HL := Aside0.mk hr0.2.1
  have HT := Aside0.mk hc
  clear hr0 hc
  have HA := Aside0.mk (show idxT t (l0.drop (0 : Int).toNat) 0 = idxT t l0 0 from rfl)
  generalize idxT t l0 0 = r at *
  go_enter Try.func47, Try.ntmps47
  go_wp2_with fail
  go_loopg [4, 8] l0.length (fun kq v4 v8 w' => ∃ (i : Int), v4 = .int .i64 0 ∧ v8 = .int .i64 i ∧ Aside0 (0 ≤ i ∧ i + kq = l0.length) ∧ Aside0 (idxT t (l0.drop i.toNat) i = r) ∧ Aside0 (Below w.heap.size w w'))
  case atStart => exact ⟨0, rfl, rfl, ⟨by omega⟩, HA, ⟨Below.refl _ _⟩⟩
  case round =>
    clear HA
    obtain ⟨i, rfl, rfl, HK, HA, HB⟩ := hrel
    by_cases hi : i < (l0.length : Int)
    · have t1 : decide (i < (l0.length : Int)) = true := decide_eq_true hi
      have p0 : (0 : Int) ≤ i := HK.out.1
      have q0 : i < (l0.length : Int) := hi
      clear hi
      obtain ⟨ko, rfl⟩ : ∃ m, gk = m + 1 := ⟨gk - 1, by have := HK.out; omega⟩
      obtain ⟨ad, e0, hx0⟩ := Kd.at_int HR0.out i p0 q0
      cases e0
      have hd := HA.out
      rw [drop_rd l0 i p0 q0] at hd
      simp only [idxT] at hd
      have HD := Aside0.mk hd
      replace hx0 := (HB.out.cell (World.block_lt_of_cell? w _ hx0)).trans hx0
      clear hd HA
      have p0b : decide (0 ≤ i) = true := decide_eq_true p0
      have p0c := Aside0.mk p0
      have q0c := Aside0.mk q0
      replace p0 := eq_true p0
      replace q0 := eq_true q0
      have hT : wr.cell? ⟨B, 0, none⟩ = some (.int .i64 t) := (HB.out.cell (World.block_lt_of_cell? w _ HT.out)).trans HT.out
      go_wp2_with fail
      refine (isThread_T B t (rd l0 i) wr hT).mono ?_
      rintro e_ w5 ⟨rfl, rfl⟩
      have b3 : i < 9223372036854775807 := by have := q0c.out; have := HL.out; omega
      have b4 : 0 ≤ i := p0c.out
      by_cases he : rd l0 i = t
      · have u1 : (rd l0 i == t) = true := beq_iff_eq.mpr he
        obtain rfl : r = i := by
          have := HD.out
          rw [if_pos he] at this
          exact this.symm
        clear he HD
        go_wp2_with fail
        go_ret
        exact ⟨rfl, HB.out⟩
      · have u1 : (rd l0 i == t) = false := beq_eq_false_iff_ne.mpr he
        have HE := Aside0.mk (show idxT t (l0.drop (i + 1).toNat) (i + 1) = r by have := HD.out; rw [if_neg he] at this; exact this)
        clear he HD
        go_wp2_with fail
        go_roundg ko
        case rel => exact ⟨i + 1, rfl, rfl, ⟨by have := HK.out; omega⟩, HE, HB⟩
        case measure => exact Nat.lt_succ_self _
    · have t1 : decide (i < (l0.length : Int)) = false := decide_eq_false hi
      obtain rfl : r = -1 := by
        have := HA.out
        rw [List.drop_of_length_le (by omega)] at this
        exact this.symm
      clear hi HA
      go_wp2_with fail
      go_ret
      exact ⟨rfl, HB.out⟩
def keep (t : Int) (xs : List Int) : List Int := xs.filter (· ≠ t)
/-- The row as it is being rewritten: what was kept among the first j, and what is still to come. -/
structure Mid (t : Int) (xs : List Int) (cur : Array Value) (i j : Int) : Prop where
  i0 : 0 ≤ i
  ij : i < j
  jn : j ≤ xs.length
  sz : xs.length ≤ cur.size
  len : i = (keep t (xs.take j.toNat)).length
  front : cur.toList.take i.toNat = (keep t (xs.take j.toNat)).map (Value.int .i64)
  back : ∀ q : Nat, j ≤ q → q < xs.length → cur[q]? = some (.int .i64 (xs.getD q 0))
theorem keep_snoc (t : Int) (xs : List Int) (j : Int) (h0 : 0 ≤ j) (h1 : j < xs.length) : keep t (xs.take (j + 1).toNat) = keep t (xs.take j.toNat) ++ (if rd xs j = t then [] else [rd xs j]) := by
  have e : (j + 1).toNat = j.toNat + 1 := by omega
  have hl : j.toNat < xs.length := by omega
  rw [e, List.take_succ_eq_append_getElem hl]
  unfold keep
  rw [List.filter_append]
  congr 1
  have : xs[j.toNat] = rd xs j := by simp [rd, hl]
  rw [this]
  by_cases h : rd xs j = t <;> simp [h]
theorem Mid.skip {t : Int} {xs : List Int} {cur : Array Value} {i j : Int} (h : Mid t xs cur i j) (hj : j < xs.length) (he : rd xs j = t) : Mid t xs cur i (j + 1) := by
  obtain ⟨i0, ij, jn, sz, len, front, back⟩ := h
  have hk := keep_snoc t xs j (by omega) hj
  rw [if_pos he, List.append_nil] at hk
  exact ⟨i0, by omega, by omega, sz, by rw [hk]; exact len, by rw [hk]; exact front, fun q h1 h2 => back q (by omega) h2⟩
theorem Mid.take {t : Int} {xs : List Int} {cur : Array Value} {i j : Int} (h : Mid t xs cur i j) (hj : j < xs.length) (he : ¬ rd xs j = t) : Mid t xs (cur.setIfInBounds i.toNat (.int .i64 (rd xs j))) (i + 1) (j + 1) := by
  obtain ⟨i0, ij, jn, sz, len, front, back⟩ := h
  have hk := keep_snoc t xs j (by omega) hj
  rw [if_neg he] at hk
  refine ⟨by omega, by omega, by omega, by simpa using sz, by rw [hk, List.length_append, List.length_singleton]; omega, ?_, fun q h1 h2 => ?_⟩
  · have e : (i + 1).toNat = i.toNat + 1 := by omega
    have hl : i.toNat < cur.toList.length := by rw [Array.length_toList]; omega
    rw [hk, e, List.map_append, ← front, Array.toList_setIfInBounds, List.take_add_one, List.take_set_of_le (Nat.le_refl _)]
    congr 1
    rw [List.getElem?_set_self hl]
    rfl
  · rw [Array.getElem?_setIfInBounds_ne (by omega)]
    exact back q (by omega) h2
theorem idxT_spec (t : Int) : ∀ (xs : List Int) (i : Int), 0 ≤ i → (idxT t xs i = -1 ∧ xs.filter (· ≠ t) = xs) ∨ ∃ n : Nat, idxT t xs i = i + n ∧ n < xs.length ∧ (xs.take (n + 1)).filter (· ≠ t) = xs.take n := by
  intro xs
  induction xs with
  | nil => intro i hi; left; exact ⟨rfl, rfl⟩
  | cons p ps ih =>
    intro i hi
    unfold idxT
    by_cases h : p = t
    · rw [if_pos h]
      right
      exact ⟨0, by simp, by simp, by simp [h]⟩
    · rw [if_neg h]
      rcases ih (i + 1) (by omega) with ⟨h1, h2⟩ | ⟨n, h1, h2, h3⟩
      · left
        exact ⟨h1, by simp only [List.filter_cons, h2]; simp [h]⟩
      · right
        exact ⟨n + 1, by rw [h1]; push_cast; omega, by simp; omega, by simp only [List.take_succ_cons, List.filter_cons, h3]; simp [h]⟩
end Go.Proofs.Ytcphmelmieedfaa.PScriptTurns

namespace Go.Proofs.Ytcphmelmieedfaa.PScriptTurns
open Go Go.RowKit Go.Proofs.YtcphmelmieedfaaW.PrintWords Go.Proofs.YtcphmelmieedfaaW.PrintLast Go.Proofs.YtcphmelmieedfaaW.PrintMore
attribute [local go_sem] max2_int min2_int max_two min_two max_three min_three max_four min_four
set_option linter.unusedVariables false
set_option linter.unusedSimpArgs false
theorem grown_set {w W : World} {g : Nat} (h : w.grownBy W (some g)) (i : Nat) (u : Value) : w.grownBy (W.setCell ⟨g, i, none⟩ u) (some g) := by
  obtain ⟨h1, h2, h3, h4, h5⟩ := h
  obtain ⟨s1, s2, s3, s4⟩ := setCells_same g [u] i W
  exact ⟨s1.trans h1, s2.trans h2, s3.trans h3, Nat.le_trans h4 (by have := s4; simp only [World.setCells] at this; omega), fun k hk hne => (Below.heap_setCell W ⟨g, i, none⟩ u k (fun e => hne (by rw [e]))).trans (h5 k hk hne)⟩
theorem grown_sets {w W : World} {g : Nat} (h : w.grownBy W (some g)) (i : Nat) (us : List Value) : w.grownBy (W.setCells g i us) (some g) := by
  obtain ⟨h1, h2, h3, h4, h5⟩ := h
  obtain ⟨s1, s2, s3, s4⟩ := setCells_same g us i W
  exact ⟨s1.trans h1, s2.trans h2, s3.trans h3, by omega, fun k hk hne => (setCells_far us i k (fun e => hne (by rw [e]))).trans (h5 k hk hne)⟩
theorem grown_below {w W : World} (row : Option Nat) (h : Below w.heap.size w W) : w.grownBy W row := ⟨h.os, h.tape, h.output, h.size, fun k hk _ => h.block k hk⟩
theorem grown_step {w W W2 : World} {row : Option Nat} (h : w.grownBy W row) (k : Below W.heap.size W W2) : w.grownBy W2 row := ⟨k.os.trans h.os, k.tape.trans h.tape, k.output.trans h.output, Nat.le_trans h.size k.size, fun q hq hne => (k.block q (Nat.lt_of_lt_of_le hq h.size)).trans (h.block q hq hne)⟩
set_option maxHeartbeats 8000000 in
set_option maxRecDepth 100000 in
theorem deleteRow_T (B : Nat) (t : Int) (g cap : Nat) (cur0 : Array Value) (xs : List Int) (w : World) (hcB : w.cell? ⟨B, 0, none⟩ = some (.int .i64 t)) (hne : B ≠ g)
    (hh : w.heap[g]? = some (.cells cur0 3 (0, 0))) (hn : xs.length ≤ cap) (hcap : cap ≤ 9223372036854775807) (hsz : cur0.size = cap) (htk : cur0.toList.take xs.length = xs.map (Value.int .i64)) (hC : Kd.C (Kd.int .i64) w (some ⟨g, 0, none⟩) xs.length xs) :
    Calls Try.prog 50 #[.slice (some ⟨g, 0, none⟩) xs.length cap, .func (.func 51) #[] #[.pointer (some ⟨B, 0, none⟩)]] w
      fun e_ w' => e_ = .returned (.slice (some ⟨g, 0, none⟩) (keep t xs).length cap) ∧ w.grownBy w' (some g) ∧ ∃ cur', w'.heap[g]? = some (.cells cur' 3 (0, 0)) ∧ cur'.size = cap ∧ cur'.toList.take (keep t xs).length = (keep t xs).map (Value.int .i64) := by
  have hu40 := Try.underlying40
  have HB := Aside0.mk hcB
  have HN := Aside0.mk hn
  have HCAP := Aside0.mk hcap
  have HH := Aside0.mk hh
  have HZ := Aside0.mk hsz
  have HT := Aside0.mk htk
  have HC := Aside0.mk hC
  have HNE := Aside0.mk hne
  clear hcB hn hcap hh hsz htk hC hne
  rcases idxT_spec t xs 0 (by omega) with ⟨h1, h2⟩ | ⟨n, h1, h2, h3⟩
  · have H1 := Aside0.mk h1
    have H2 := Aside0.mk h2
    clear h1 h2
    go_enter Try.func50, Try.ntmps50
    go_wp2_with fail
    refine (indexT_T B t (some ⟨g, 0, none⟩) cap xs w HB.out HC.out).mono ?_
    rintro e_ w5 ⟨rfl, hb⟩
    rw [H1.out]
    have HB2 := Aside0.mk hb
    clear hb
    go_wp2_with fail
    go_ret
    exact ⟨by unfold keep; rw [H2.out]; rfl, grown_below _ HB2.out, cur0, blk_below HH.out HB2.out, HZ.out, by unfold keep; rw [H2.out]; exact HT.out⟩
  · obtain ⟨x, hx⟩ : ∃ x : Int, x = 0 + (n : Int) := ⟨_, rfl⟩
    rw [← hx] at h1
    have H1 := Aside0.mk h1
    have HX := Aside0.mk hx
    have HN2 := Aside0.mk h2
    have M0 : Mid t xs cur0 x (x + 1) := by
      have e : (x + 1).toNat = n + 1 := by omega
      have e2 : x.toNat = n := by omega
      have hlen := HN.out
      have hs := HZ.out
      refine ⟨by omega, by omega, by omega, by omega, ?_, ?_, fun q q1 q2 => ?_⟩
      · unfold keep; rw [e, h3, List.length_take]; omega
      · unfold keep
        rw [e, h3, e2, List.map_take, ← HT.out, List.take_take]
        congr 1
        omega
      · have := congrArg (fun l => l[q]?) HT.out
        simp only [List.getElem?_take_of_lt q2, List.getElem?_map] at this
        rw [← Array.getElem?_toList, this]
        simp [List.getD, q2]
    have HM := Aside0.mk M0
    have b0 : 0 ≤ x := by omega
    have b1 : x < 9223372036854775807 := by have := HN.out; have := HCAP.out; omega
    have u0 : (x == -1) = false := beq_eq_false_iff_ne.mpr (by omega)
    have hend : x + 1 ≤ xs.length := by omega
    have HE := Aside0.mk hend
    clear h1 h2 h3 hx M0 hend
    go_enter Try.func50, Try.ntmps50
    go_wp2_with fail
    refine (indexT_T B t (some ⟨g, 0, none⟩) cap xs w HB.out HC.out).mono ?_
    rintro e_ w5 ⟨rfl, hb⟩
    rw [H1.out]
    have HG := Aside0.mk (grown_below (some g) hb)
    have HH2 := Aside0.mk (blk_below HH.out hb)
    clear hb
    go_wp2_with fail
    go_loopg [5, 6] (xs.length) (fun kq v5 v6 w' => ∃ (i j : Int) (cur : Array Value), v5 = .int .i64 i ∧ v6 = .int .i64 j ∧ Aside0 (j + kq ≤ xs.length + x + 1 ∧ xs.length ≤ j + kq) ∧ Aside0 (Mid t xs cur i j) ∧ Aside0 (w'.heap[g]? = some (.cells cur 3 (0, 0))) ∧ Aside0 (cur.size = cap) ∧ Aside0 (w.grownBy w' (some g)))
    case atStart => exact ⟨x, x + 1, cur0, rfl, rfl, ⟨by have := HX.out; omega⟩, HM, HH2, HZ, HG⟩
    case round =>
      clear HM HH2 HG b0 b1 u0
      obtain ⟨i, j, cur, rfl, rfl, HK, HM, HH2, HZ2, HG⟩ := hrel
      by_cases hj : j < (xs.length : Int)
      · have t1 : decide (j < (xs.length : Int)) = true := decide_eq_true hj
        have p0 : (0 : Int) ≤ j := by have := HM.out.i0; have := HM.out.ij; omega
        have q0 : j < (xs.length : Int) := hj
        have i0 : (0 : Int) ≤ i := HM.out.i0
        have i1 : i < (xs.length : Int) := by have := HM.out.ij; omega
        have HJ := Aside0.mk hj
        clear hj
        obtain ⟨ko, rfl⟩ : ∃ m, gk = m + 1 := ⟨gk - 1, by have := HK.out; omega⟩
        have hc : wr.cell? ⟨g, j.toNat, none⟩ = some (.int .i64 (rd xs j)) := by
          rw [blk_cell HH2.out, HM.out.back j.toNat (by omega) (by omega)]
          rfl
        obtain ⟨u, hci⟩ : ∃ u, wr.cell? ⟨g, i.toNat, none⟩ = some u := by
          have : i.toNat < cur.size := by have := HM.out.sz; omega
          exact ⟨cur[i.toNat], (blk_cell HH2.out _).trans (Array.getElem?_eq_getElem this)⟩
        have hfz := blk_frozen HH2.out i.toNat
        have hT : wr.cell? ⟨B, 0, none⟩ = some (.int .i64 t) := HG.out.cell HB.out (by simpa using HNE.out)
        have p0c := Aside0.mk p0
        have q0c := Aside0.mk q0
        have i0c := Aside0.mk i0
        have i1c := Aside0.mk i1
        have p0b : decide (0 ≤ j) = true := decide_eq_true p0
        replace p0 := eq_true p0
        replace q0 := eq_true q0
        go_wp2_with fail
        refine (isThread_T B t (rd xs j) wr hT).mono ?_
        rintro e_ w6 ⟨rfl, rfl⟩
        have b3 : j < 9223372036854775807 := by have := q0c.out; have := HN.out; have := HCAP.out; omega
        have b4 : 0 ≤ j := p0c.out
        have b5 : i < 9223372036854775807 := by have := i1c.out; have := HN.out; have := HCAP.out; omega
        by_cases he : rd xs j = t
        · have u1 : (rd xs j == t) = true := beq_iff_eq.mpr he
          have HM2 := Aside0.mk (HM.out.skip HJ.out he)
          clear he
          go_wp2_with fail
          go_roundg ko
          case rel => exact ⟨i, j + 1, cur, rfl, rfl, ⟨by have := HK.out; omega⟩, HM2, HH2, HZ2, HG⟩
          case measure => exact Nat.lt_succ_self _
        · have u1 : (rd xs j == t) = false := beq_eq_false_iff_ne.mpr he
          have HM2 := Aside0.mk (HM.out.take HJ.out he)
          clear he
          go_wp2_with fail
          go_roundg ko
          case rel => exact ⟨i + 1, j + 1, _, rfl, rfl, ⟨by have := HK.out; omega⟩, HM2, ⟨blk_set HH2.out _ _⟩, ⟨by simpa using HZ2.out⟩, ⟨grown_set HG.out _ _⟩⟩
          case measure => exact Nat.lt_succ_self _
      · have t1 : decide (j < (xs.length : Int)) = false := decide_eq_false hj
        have HJ := Aside0.mk (show j = xs.length by have := HM.out.jn; omega)
        have i0 : (0 : Int) ≤ i := HM.out.i0
        have i1 : i < (xs.length : Int) := by have := HM.out.ij; have := HM.out.jn; omega
        have i2 : i ≤ (xs.length : Int) := by omega
        have i3 : i ≤ (cap : Int) := by have := HN.out; omega
        clear hj
        have hlen := HN.out
        have hcs := HZ2.out
        have hlk : i.toNat = (keep t xs).length := by
          have := HM.out.len
          rw [HJ.out, Int.toNat_natCast, List.take_length] at this
          omega
        have hfr : cur.toList.take i.toNat = (keep t xs).map (Value.int .i64) := by
          have := HM.out.front
          rw [HJ.out, Int.toNat_natCast, List.take_length] at this
          exact this
        have hcl : (Builtin.clear_ #[40] 0 #[.slice (some ⟨g, i.toNat, none⟩) (xs.length - i.toNat) (cap - i.toNat)]).run Try.prog wr = .ok (.tuple #[]) (wr.setCells g i.toNat (List.replicate (xs.length - i.toNat) (.int .i64 0))) :=
          Lib.run_clear_slice wr 40 3 0 (.int .i64 0) hu40 (fun _ => by kernel_rfl) rfl rfl g i.toNat (xs.length - i.toNat) (cap - i.toNat) (by omega)
            (fun q hq => by rw [blk_cell HH2.out, Array.getElem?_eq_getElem (by omega)]; rfl) (fun q _ => blk_frozen HH2.out _)
        obtain ⟨cur', hc1, hc2, hc3⟩ := setCells_row (List.replicate (xs.length - i.toNat) (.int .i64 0)) i.toNat wr cur HH2.out (by rw [List.length_replicate]; omega)
        have HF1 := Aside0.mk hc1
        have HF2 := Aside0.mk (hc2.trans HZ2.out)
        have HF3 := Aside0.mk (show cur'.toList.take (keep t xs).length = (keep t xs).map (Value.int .i64) by
          rw [hc3, ← hlk, ← hfr, List.append_assoc, List.take_append_of_le_length (by rw [List.length_take, Array.length_toList]; omega), List.take_take, Nat.min_self])
        have HF4 := Aside0.mk (grown_sets HG.out i.toNat (List.replicate (xs.length - i.toNat) (.int .i64 0)))
        have HLK := Aside0.mk hlk
        have k1 : ¬ i.toNat = cap := by omega
        have k2 : ¬ cap = i.toNat := by omega
        clear hc1 hc2 hc3 hlen hcs hlk hfr HM
        go_wp2_with fail
        go_ret
        exact ⟨by rw [← HLK.out]; rfl, HF4.out, cur', HF1.out, HF2.out, HF3.out⟩
end Go.Proofs.Ytcphmelmieedfaa.PScriptTurns

namespace Go.Proofs.Ytcphmelmieedfaa.PScriptTurns
open Go Go.RowKit Go.Proofs.YtcphmelmieedfaaW.PrintWords Go.Proofs.YtcphmelmieedfaaW.PrintLast Go.Proofs.YtcphmelmieedfaaW.PrintMore
attribute [local go_sem] max2_int min2_int max_two min_two max_three min_three max_four min_four
set_option linter.unusedVariables false
set_option linter.unusedSimpArgs false
set_option maxHeartbeats 8000000 in
set_option maxRecDepth 100000 in
theorem deleteFunc_R (B : Nat) (t : Int) (v : Value) (xs : List Int) (base : Nat) (ok : Nat → Prop) (w : World) (hR : Kd.R (Kd.int .i64) 3 w base ok v xs) (hcB : w.cell? ⟨B, 0, none⟩ = some (.int .i64 t)) (hne : some B ≠ v.ownBlock) :
    Calls Try.prog 50 #[v, .func (.func 51) #[] #[.pointer (some ⟨B, 0, none⟩)]] w fun e_ w' => ∃ v', e_ = .returned v' ∧ w.grownBy w' v.ownBlock ∧ Kd.R (Kd.int .i64) 3 w' base ok v' (keep t xs) := by
  obtain ⟨h1, h2⟩ := Kd.own_of_R hR
  rcases h2 with ⟨rfl, h0⟩ | ⟨g, cap, cur, rfl, hg, hh, hcap, hmax, hsz, htk⟩
  · obtain rfl : xs = [] := List.length_eq_zero_iff.1 h0
    have HB := Aside0.mk hcB
    clear hR hcB hne h1 h0
    go_enter Try.func50, Try.ntmps50
    go_wp2_with fail
    refine (indexT_T B t none 0 [] w HB.out (Kd.C_nil _ _)).mono ?_
    rintro e_ w5 ⟨rfl, hb⟩
    have HB2 := Aside0.mk hb
    clear hb
    rw [show idxT t [] 0 = -1 from rfl]
    go_wp2_with fail
    go_ret
    exact ⟨_, rfl, grown_below _ HB2.out, Kd.R_nil _ _ _ _ _⟩
  · obtain ⟨hn, _, hC⟩ := Kd.R_reads' hR
    have hne' : B ≠ g := fun e => hne (by simp [Value.ownBlock, e])
    refine (deleteRow_T B t g cap cur xs w hcB hne' hh hcap (by unfold maxLen at hmax; omega) (by omega) (by simpa [encs] using htk) hC).mono ?_
    rintro e_ w' ⟨rfl, hg2, cur', hh2, hs2, ht2⟩
    have hkl : (keep t xs).length ≤ xs.length := List.length_filter_le _ _
    refine ⟨_, rfl, by simpa [Value.ownBlock] using hg2, Kd.R_of_own ⟨by simp [encs], .inr ⟨g, cap, cur', rfl, hg, hh2, by omega, hmax, by omega, by simpa [encs] using ht2⟩⟩ (fun k hk => hR.1 k (by simpa [Value.ownBlock] using hk))⟩
theorem put7 {w W : World} {R t : Nat} {x0 x1 x2 x3 x4 x5 x6 : Value} (a b c d e f g : Value) (HR : W.heap[R]? = some (.cells #[x0, x1, x2, x3, x4, x5, x6] t (0, 0))) (HB : Below w.heap.size w W) (hR : w.heap.size ≤ R) :
    (((((((W.setCell ⟨R, 0, none⟩ a).setCell ⟨R, 1, none⟩ b).setCell ⟨R, 2, none⟩ c).setCell ⟨R, 3, none⟩ d).setCell ⟨R, 4, none⟩ e).setCell ⟨R, 5, none⟩ f).setCell ⟨R, 6, none⟩ g).heap[R]? = some (.cells #[a, b, c, d, e, f, g] t (0, 0)) ∧
    Below w.heap.size w (((((((W.setCell ⟨R, 0, none⟩ a).setCell ⟨R, 1, none⟩ b).setCell ⟨R, 2, none⟩ c).setCell ⟨R, 3, none⟩ d).setCell ⟨R, 4, none⟩ e).setCell ⟨R, 5, none⟩ f).setCell ⟨R, 6, none⟩ g) :=
  ⟨blk_put (cs := #[a, b, c, d, e, f, x6]) (blk_put (cs := #[a, b, c, d, e, x5, x6]) (blk_put (cs := #[a, b, c, d, x4, x5, x6]) (blk_put (cs := #[a, b, c, x3, x4, x5, x6]) (blk_put (cs := #[a, b, x2, x3, x4, x5, x6]) (blk_put (cs := #[a, x1, x2, x3, x4, x5, x6]) (blk_put (cs := #[x0, x1, x2, x3, x4, x5, x6]) HR 0 _ rfl) 1 _ rfl) 2 _ rfl) 3 _ rfl) 4 _ rfl) 5 _ rfl) 6 _ rfl,
   below_set (below_set (below_set (below_set (below_set (below_set (below_set HB hR) hR) hR) hR) hR) hR) hR⟩
theorem ops_types : ∀ q, q ∈ 55 :: (Kd.slice 37 k37).E → q ≠ 3 ∧ q ≠ 49 := by
  intro q hq
  have : q = 55 ∨ q = 37 := by simpa [Kd.slice, k37, Kd.iso, Kd.pair, Kd.int, Kd.scalar] using hq
  omega
set_option maxHeartbeats 8000000 in
set_option maxRecDepth 100000 in
theorem without_T (k : Nat) (a b c d e t : Int) (A5 : Option Addr) (c5 : Nat) (l5 : List (List S37)) (A6 : Option Addr) (c6 : Nat) (l6 : List Int) (w : World) (ha5 : Kd.C (Kd.slice 37 k37) w A5 l5.length l5) (hc5 : l5.length ≤ c5) (ha6 : Kd.C (Kd.int .i64) w A6 l6.length l6) (hc6 : l6.length ≤ c6)
    (hcopy : script_Copy.f k a b c d e l5 l6 = some (a, b, c, d, e, l5, l6)) :
    Calls Try.prog 30 #[.agg #[.int .i64 a, .int .i64 b, .int .i64 c, .int .i64 d, .int .i64 e, .slice A5 l5.length c5, .slice A6 l6.length c6], .int .i64 t] w
      fun e_ w' => ∃ v5 v6 : Value, e_ = .returned (.agg #[.int .i64 a, .int .i64 b, .int .i64 c, .int .i64 d, .int .i64 e, v5, v6]) ∧ Kd.S (Kd.slice 37 k37) 55 w' w.heap.size (fun _ => True) v5 l5 ∧ Kd.R (Kd.int .i64) 3 w' w.heap.size (fun _ => True) v6 (keep t l6) ∧ Below w.heap.size w w' := by
  have hu49 := Try.underlying49
  have hu40 := Try.underlying40
  have HA5 := Aside0.mk ha5
  have HA6 := Aside0.mk ha6
  have HC5 := Aside0.mk hc5
  have HC6 := Aside0.mk hc6
  have HCP := Aside0.mk hcopy
  clear ha5 ha6 hc5 hc6 hcopy
  obtain ⟨W3, hW3⟩ : ∃ W3, W3 = ((w.alloc (.cells #[.int .i64 a, .int .i64 b, .int .i64 c, .int .i64 d, .int .i64 e, .slice A5 l5.length c5, .slice A6 l6.length c6] 49)).alloc (.cells #[.int .i64 t] 3)).alloc (.cells #[.int .i64 0, .int .i64 0, .int .i64 0, .int .i64 0, .int .i64 0, .slice none 0 0, .slice none 0 0] 49) := ⟨_, rfl⟩
  have hB3 : Below w.heap.size w W3 := by rw [hW3]; exact below_alloc (below_alloc (below_alloc (Below.refl _ _) _) _) _
  have hz3 : W3.heap.size = w.heap.size + 3 := by rw [hW3]; simp
  have hT3 : W3.heap[w.heap.size + 1]? = some (.cells #[.int .i64 t] 3 (0, 0)) := by
    rw [hW3]
    refine blk_alloc ?_ _
    have := blk_new (w.alloc (.cells #[.int .i64 a, .int .i64 b, .int .i64 c, .int .i64 d, .int .i64 e, .slice A5 l5.length c5, .slice A6 l6.length c6] 49)) (.cells #[.int .i64 t] 3)
    simpa using this
  have hR3 : W3.heap[w.heap.size + 2]? = some (.cells #[.int .i64 0, .int .i64 0, .int .i64 0, .int .i64 0, .int .i64 0, .slice none 0 0, .slice none 0 0] 49 (0, 0)) := by
    rw [hW3]
    have := blk_new ((w.alloc (.cells #[.int .i64 a, .int .i64 b, .int .i64 c, .int .i64 d, .int .i64 e, .slice A5 l5.length c5, .slice A6 l6.length c6] 49)).alloc (.cells #[.int .i64 t] 3)) (.cells #[.int .i64 0, .int .i64 0, .int .i64 0, .int .i64 0, .int .i64 0, .slice none 0 0, .slice none 0 0] 49)
    simpa using this
  have HB3 := Aside0.mk hB3
  have HZ3 := Aside0.mk hz3
  have HT3 := Aside0.mk hT3
  have HR3 := Aside0.mk hR3
  have HW3 := Aside0.mk hW3
  clear hB3 hz3 hT3 hR3 hW3
  go_enter Try.func30, Try.ntmps30
  go_wp2_with fail
  rw [← HW3.out]
  refine (script_Copy.calls k a b c d e A5 c5 l5 A6 c6 l6 a b c d e l5 l6 _ (Kd.C_below HA5.out HB3.out) HC5.out (Kd.C_below HA6.out HB3.out) HC6.out HCP.out).mono ?_
  rintro e_ w5 ⟨v5, v6, rfl, S5, R6, hb⟩
  obtain ⟨A7, c7, rfl⟩ := Kd.S_slice S5
  obtain ⟨A8, c8, rfl⟩ := Kd.R_slice R6
  have HS := Aside0.mk S5
  have HR := Aside0.mk R6
  have HT := Aside0.mk (blk_below HT3.out hb)
  have HRR := Aside0.mk (blk_below HR3.out hb)
  have HB := Aside0.mk (below_step HB3.out hb)
  clear S5 R6 hb
  go_wp2_with fail
  have hcB : (w5.alloc (.cells #[.int .i64 a, .int .i64 b, .int .i64 c, .int .i64 d, .int .i64 e, .slice A7 l5.length c7, .slice A8 l6.length c8] 49)).cell? ⟨w.heap.size + 1, 0, none⟩ = some (.int .i64 t) := (blk_cell (blk_alloc HT.out _) 0).trans rfl
  refine (deleteFunc_R (w.heap.size + 1) t _ l6 _ _ _ (Kd.R_alloc HR.out _) hcB ?hne).mono ?_
  case hne =>
    intro h
    have := Kd.R_base HR.out _ h.symm
    have := HZ3.out
    omega
  rintro e_ w6 ⟨v7, rfl, G, R7⟩
  obtain ⟨A9, c9, rfl⟩ := Kd.R_slice R7
  have hX : w6.heap[w5.heap.size]? = some (.cells #[.int .i64 a, .int .i64 b, .int .i64 c, .int .i64 d, .int .i64 e, .slice A7 l5.length c7, .slice A8 l6.length c8] 49 (0, 0)) :=
    (G.block _ (by simp) (fun h => by have := Kd.R_lt HR.out _ h.symm; omega)).trans (blk_new w5 _)
  have hR6 : w6.heap[w.heap.size + 2]? = some (.cells #[.int .i64 0, .int .i64 0, .int .i64 0, .int .i64 0, .int .i64 0, .slice none 0 0, .slice none 0 0] 49 (0, 0)) :=
    (G.block _ (by have := blk_lt HRR.out; simp; omega) (fun h => by have := Kd.R_base HR.out _ h.symm; have := HZ3.out; omega)).trans (blk_alloc HRR.out _)
  have hS6 : Kd.S (Kd.slice 37 k37) 55 w6 W3.heap.size (fun _ => True) (.slice A7 l5.length c7) l5 :=
    Kd.S_over' (Kd.S_alloc HS.out _) (Kd.R_typed (Kd.R_alloc HR.out _)) (fun q hq => (ops_types q hq).1) G
  have hB6 : Below w.heap.size w w6 := (below_alloc HB.out _).grown G (by have := HB.out.size; simp; omega) (fun q hq => by have := Kd.R_base HR.out _ hq; have := HZ3.out; omega)
  have HX := Aside0.mk hX
  have HR6 := Aside0.mk hR6
  have HS6 := Aside0.mk hS6
  have HB6 := Aside0.mk hB6
  have HR7 := Aside0.mk R7
  clear hX hR6 hS6 hB6 R7 G hcB
  have n1 : w.heap.size + 2 ≠ w5.heap.size := by have := blk_lt HRR.out; omega
  have n2 : w5.heap.size ≠ w.heap.size + 2 := n1.symm
  have x0 : w6.cell? ⟨w5.heap.size, 0, none⟩ = some (.int .i64 a) := (blk_cell HX.out 0).trans rfl
  have x1 : w6.cell? ⟨w5.heap.size, 1, none⟩ = some (.int .i64 b) := (blk_cell HX.out 1).trans rfl
  have x2 : w6.cell? ⟨w5.heap.size, 2, none⟩ = some (.int .i64 c) := (blk_cell HX.out 2).trans rfl
  have x3 : w6.cell? ⟨w5.heap.size, 3, none⟩ = some (.int .i64 d) := (blk_cell HX.out 3).trans rfl
  have x4 : w6.cell? ⟨w5.heap.size, 4, none⟩ = some (.int .i64 e) := (blk_cell HX.out 4).trans rfl
  have x5 : w6.cell? ⟨w5.heap.size, 5, none⟩ = some (.slice A7 l5.length c7) := (blk_cell HX.out 5).trans rfl
  have x6 : w6.cell? ⟨w5.heap.size, 6, none⟩ = some (.slice A8 l6.length c8) := (blk_cell HX.out 6).trans rfl
  have y6 := blk_frozen HX.out 6
  have z0 : w6.cell? ⟨w.heap.size + 2, 0, none⟩ = some (.int .i64 0) := (blk_cell HR6.out 0).trans rfl
  have z1 : w6.cell? ⟨w.heap.size + 2, 1, none⟩ = some (.int .i64 0) := (blk_cell HR6.out 1).trans rfl
  have z2 : w6.cell? ⟨w.heap.size + 2, 2, none⟩ = some (.int .i64 0) := (blk_cell HR6.out 2).trans rfl
  have z3 : w6.cell? ⟨w.heap.size + 2, 3, none⟩ = some (.int .i64 0) := (blk_cell HR6.out 3).trans rfl
  have z4 : w6.cell? ⟨w.heap.size + 2, 4, none⟩ = some (.int .i64 0) := (blk_cell HR6.out 4).trans rfl
  have z5 : w6.cell? ⟨w.heap.size + 2, 5, none⟩ = some (.slice none 0 0) := (blk_cell HR6.out 5).trans rfl
  have z6 : w6.cell? ⟨w.heap.size + 2, 6, none⟩ = some (.slice none 0 0) := (blk_cell HR6.out 6).trans rfl
  have f0 := blk_frozen HR6.out 0
  have f1 := blk_frozen HR6.out 1
  have f2 := blk_frozen HR6.out 2
  have f3 := blk_frozen HR6.out 3
  have f4 := blk_frozen HR6.out 4
  have f5 := blk_frozen HR6.out 5
  have f6 := blk_frozen HR6.out 6
  go_wp2_with fail
  have hR7 := blk_far (p := ⟨w5.heap.size, 6, none⟩) HR6.out n1 (.slice A9 (keep t l6).length c9)
  have hB7 := below_set (j := 6) (v := .slice A9 (keep t l6).length c9) HB6.out (show w.heap.size ≤ w5.heap.size from HB.out.size)
  have P := put7 (.int .i64 a) (.int .i64 b) (.int .i64 c) (.int .i64 d) (.int .i64 e) (.slice A7 l5.length c7) (.slice A9 (keep t l6).length c9) hR7 hB7 (by omega)
  have far : ∀ k, k ≠ w5.heap.size → k ≠ w.heap.size + 2 → ((((((((w6.setCell ⟨w5.heap.size, 6, none⟩ (.slice A9 (keep t l6).length c9)).setCell ⟨w.heap.size + 2, 0, none⟩ (.int .i64 a)).setCell ⟨w.heap.size + 2, 1, none⟩ (.int .i64 b)).setCell ⟨w.heap.size + 2, 2, none⟩ (.int .i64 c)).setCell ⟨w.heap.size + 2, 3, none⟩ (.int .i64 d)).setCell ⟨w.heap.size + 2, 4, none⟩ (.int .i64 e)).setCell ⟨w.heap.size + 2, 5, none⟩ (.slice A7 l5.length c7)).setCell ⟨w.heap.size + 2, 6, none⟩ (.slice A9 (keep t l6).length c9)).heap[k]? = w6.heap[k]? := by
    intro k k1 k2
    rw [Below.heap_setCell _ _ _ _ k2, Below.heap_setCell _ _ _ _ k2, Below.heap_setCell _ _ _ _ k2, Below.heap_setCell _ _ _ _ k2, Below.heap_setCell _ _ _ _ k2, Below.heap_setCell _ _ _ _ k2, Below.heap_setCell _ _ _ _ k2, Below.heap_setCell _ _ _ _ k1]
  have hle : w.heap.size ≤ W3.heap.size := by have := HZ3.out; omega
  have T1 := Kd.S_types (Kd.S_types HS6.out HX.out (fun q hq => (ops_types q hq).2)) HR6.out (fun q hq => (ops_types q hq).2)
  have i3 : ∀ q, q ∈ 3 :: (Kd.int .i64).E → q ≠ 49 := by
    intro q hq
    have : q = 3 := by simpa [Kd.int, Kd.scalar] using hq
    omega
  have T2 := Kd.R_types (Kd.R_types HR7.out HX.out i3) HR6.out i3
  refine bodyPost_ret (results_cell_row rfl _ _ (w.heap.size + 2) 49 _ (0, 0) _ rfl P.1 Try.underlying49 rfl (by kernel_rfl)) rfl ?_
  exact ⟨_, _, rfl, Kd.S_lower (Kd.S_mono (Kd.S_step T1 (fun k hk _ => far k hk.1.2 hk.2)) (fun _ _ => trivial)) hle, Kd.R_lower (Kd.R_mono (Kd.R_step T2 (fun k hk _ => far k hk.1.2 hk.2)) (fun _ _ => trivial)) hle, P.2⟩
end Go.Proofs.Ytcphmelmieedfaa.PScriptTurns

