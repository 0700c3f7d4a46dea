/-
The law ScriptTurns.
-/
import Derived.Test.YtcphmelmieedfaaTurnsBase
namespace Go.Proofs.Ytcphmelmieedfaa.PScriptTurns
open Go Go.RowKit Go.Proofs.YtcphmelmieedfaaW.PrintWords Go.Proofs.YtcphmelmieedfaaW.PrintLast Go.Proofs.YtcphmelmieedfaaW.PrintMore
attribute [local go_sem] max2_int min2_int max_two min_two max_three min_three max_four min_four
set_option linter.unusedVariables false
set_option linter.unusedSimpArgs false
theorem exec_eq57 {o : Oper} {a : Act} {w : World} (p q : Operand) (ho : o.op = .binOp .eql 57 p q 57) (x y z : Int) (hp : a.eval p = .agg #[.int .i64 x, .int .i64 y, .int .i64 z]) (hq : a.eval q = .agg #[.int .i64 0, .int .i64 0, .int .i64 0]) (b : Bool)
    (hb : decide ((x, y, z) = (0, 0, 0)) = b) : (execOp a.eval o).run Try.prog w = .ok (.value (.bool b)) w := by
  have hu57 := Try.underlying57
  unfold execOp
  simp only [ho, hp, hq]
  by_cases h1 : x = 0
  · by_cases h2 : y = 0
    · by_cases h3 : z = 0
      · subst h1 h2 h3
        have : b = true := by simpa using hb.symm
        subst this
        go_simp
      · have : b = false := by simpa [h1, h2, h3] using hb.symm
        subst this
        subst h1 h2
        have t3 := eq_false h3
        go_simp
    · have : b = false := by simpa [h1, h2] using hb.symm
      subst this
      subst h1
      have t2 := eq_false h2
      go_simp
  · have : b = false := by simpa [h1] using hb.symm
    subst this
    have t1 := eq_false h1
    go_simp
theorem exec_ne57 {o : Oper} {a : Act} {w : World} (p q : Operand) (ho : o.op = .binOp .neq 57 p q 57) (x y z : Int) (hp : a.eval p = .agg #[.int .i64 x, .int .i64 y, .int .i64 z]) (hq : a.eval q = .agg #[.int .i64 0, .int .i64 0, .int .i64 0]) (b : Bool)
    (hb : decide ((x, y, z) = (0, 0, 0)) = !b) : (execOp a.eval o).run Try.prog w = .ok (.value (.bool b)) w := by
  have hu57 := Try.underlying57
  unfold execOp
  simp only [ho, hp, hq]
  by_cases h1 : x = 0
  · by_cases h2 : y = 0
    · by_cases h3 : z = 0
      · subst h1 h2 h3
        have : b = false := by simpa using hb
        subst this
        go_simp
      · have : b = true := by simpa [h1, h2, h3] using hb
        subst this
        subst h1 h2
        have t3 := eq_false h3
        go_simp
    · have : b = true := by simpa [h1, h2] using hb
      subst this
      subst h1
      have t2 := eq_false h2
      go_simp
  · have : b = true := by simpa [h1] using hb
    subst this
    have t1 := eq_false h1
    go_simp
set_option maxHeartbeats 64000000 in
set_option maxRecDepth 100000 in
theorem turns_g (a b c d e : Int) (A5 : Option Addr) (c5 : Nat) (l5 : List (List S37)) (A6 : Option Addr) (c6 : Nat) (l6 : List Int) (t n : Int) (kg : Nat) (w : World) (hC5 : Kd.C (Kd.slice 37 k37) w A5 l5.length l5) (hc5 : l5.length ≤ c5) (hC6 : Kd.C (Kd.int .i64) w A6 l6.length l6) (hc6 : l6.length ≤ c6) (hgr : revenantlaw22_great.f kg a b c d e l5 l6 = some true) :
    Calls Try.prog 8 #[.agg #[.int .i64 a, .int .i64 b, .int .i64 c, .int .i64 d, .int .i64 e, .slice A5 l5.length c5, .slice A6 l6.length c6], .int .i64 t, .int .i64 n] w fun e_ w' => e_ = .returned (.bool true) ∧ Below w.heap.size w w' := by
  have hu49 := Try.underlying49
  have hu40 := Try.underlying40
  have hu47 := Try.underlying47
  have hu37 := Try.underlying37
  have XhC5 := Aside0.mk hC5
  clear hC5
  have Xhc5 := Aside0.mk hc5
  clear hc5
  have XhC6 := Aside0.mk hC6
  clear hC6
  have Xhc6 := Aside0.mk hc6
  clear hc6
  have Xhgr := Aside0.mk hgr
  clear hgr
  have L_S := Aside0.mk (show w.heap.size ≤ w.heap.size from Nat.le_refl _)
  have S_1 := Aside0.mk (blk_new (w) (.cells (#[.int .i64 a, .int .i64 b, .int .i64 c, .int .i64 d, .int .i64 e, .slice A5 l5.length c5, .slice A6 l6.length c6]) 49))
  have B2 := Aside0.mk (below_alloc (Below.refl w.heap.size w) (.cells (#[.int .i64 a, .int .i64 b, .int .i64 c, .int .i64 d, .int .i64 e, .slice A5 l5.length c5, .slice A6 l6.length c6]) 49))
  go_enter Try.func8, Try.ntmps8
  go_wp2_with fail
  refine (awake22T _).mono ?_
  rintro e_ w2 ⟨rfl, hb⟩
  have S_3 := Aside0.mk (blk_below S_1.out hb)
  have B4 := Aside0.mk (below_step B2.out hb)
  clear hb S_1 B2
  go_wp2_with (first
    | ((with_reducible refine wpLd 49 (.tmp 3) ?_); refine wpList_load_row_g (by rfl) 49 (.tmp 3) rfl (w.heap.size) rfl 49 (#[.int .i64 a, .int .i64 b, .int .i64 c, .int .i64 d, .int .i64 e, .slice A5 l5.length c5, .slice A6 l6.length c6]) (0, 0) _ S_3.out Try.underlying49 rfl (by kernel_rfl) ?_))
  refine (revenantlaw22_great.calls kg a b c d e A5 c5 l5 A6 c6 l6 true _ (Kd.C_below XhC5.out B4.out) Xhc5.out (Kd.C_below XhC6.out B4.out) Xhc6.out Xhgr.out).mono ?_
  rintro e_ w3 ⟨rfl, hb⟩
  have S_5 := Aside0.mk (blk_below S_3.out hb)
  have B6 := Aside0.mk (below_step B4.out hb)
  clear hb S_3 B4
  go_wp2_with fail
  go_ret
  exact ⟨rfl, B6.out⟩
set_option maxHeartbeats 64000000 in
set_option maxRecDepth 100000 in
theorem turns_l (a b c d e : Int) (A5 : Option Addr) (c5 : Nat) (l5 : List (List S37)) (A6 : Option Addr) (c6 : Nat) (l6 : List Int) (t n : Int) (kg : Nat) (w : World) (hC5 : Kd.C (Kd.slice 37 k37) w A5 l5.length l5) (hc5 : l5.length ≤ c5) (hC6 : Kd.C (Kd.int .i64) w A6 l6.length l6) (hc6 : l6.length ≤ c6) (hgr : revenantlaw22_great.f kg a b c d e l5 l6 = some false) (hbig : 4096 < l6.length) :
    Calls Try.prog 8 #[.agg #[.int .i64 a, .int .i64 b, .int .i64 c, .int .i64 d, .int .i64 e, .slice A5 l5.length c5, .slice A6 l6.length c6], .int .i64 t, .int .i64 n] w fun e_ w' => e_ = .returned (.bool true) ∧ Below w.heap.size w w' := by
  have hu49 := Try.underlying49
  have hu40 := Try.underlying40
  have hu47 := Try.underlying47
  have hu37 := Try.underlying37
  have XhC5 := Aside0.mk hC5
  clear hC5
  have Xhc5 := Aside0.mk hc5
  clear hc5
  have XhC6 := Aside0.mk hC6
  clear hC6
  have Xhc6 := Aside0.mk hc6
  clear hc6
  have Xhgr := Aside0.mk hgr
  clear hgr
  have Xhbig := Aside0.mk hbig
  clear hbig
  have L_S := Aside0.mk (show w.heap.size ≤ w.heap.size from Nat.le_refl _)
  have S_1 := Aside0.mk (blk_new (w) (.cells (#[.int .i64 a, .int .i64 b, .int .i64 c, .int .i64 d, .int .i64 e, .slice A5 l5.length c5, .slice A6 l6.length c6]) 49))
  have B2 := Aside0.mk (below_alloc (Below.refl w.heap.size w) (.cells (#[.int .i64 a, .int .i64 b, .int .i64 c, .int .i64 d, .int .i64 e, .slice A5 l5.length c5, .slice A6 l6.length c6]) 49))
  go_enter Try.func8, Try.ntmps8
  go_wp2_with fail
  refine (awake22T _).mono ?_
  rintro e_ w2 ⟨rfl, hb⟩
  have S_3 := Aside0.mk (blk_below S_1.out hb)
  have B4 := Aside0.mk (below_step B2.out hb)
  clear hb S_1 B2
  go_wp2_with (first
    | ((with_reducible refine wpLd 49 (.tmp 3) ?_); refine wpList_load_row_g (by rfl) 49 (.tmp 3) rfl (w.heap.size) rfl 49 (#[.int .i64 a, .int .i64 b, .int .i64 c, .int .i64 d, .int .i64 e, .slice A5 l5.length c5, .slice A6 l6.length c6]) (0, 0) _ S_3.out Try.underlying49 rfl (by kernel_rfl) ?_))
  refine (revenantlaw22_great.calls kg a b c d e A5 c5 l5 A6 c6 l6 false _ (Kd.C_below XhC5.out B4.out) Xhc5.out (Kd.C_below XhC6.out B4.out) Xhc6.out Xhgr.out).mono ?_
  rintro e_ w3 ⟨rfl, hb⟩
  have S_5 := Aside0.mk (blk_below S_3.out hb)
  have B6 := Aside0.mk (below_step B4.out hb)
  clear hb S_3 B4
  have s6 : w3.cell? ⟨w.heap.size, 6, none⟩ = some (.slice A6 l6.length c6) := (blk_cell S_5.out 6).trans rfl
  have t1 : decide ((4096 : Int) < (l6.length : Int)) = true := decide_eq_true (by have := Xhbig.out; omega)
  have t2 := eq_true (show (4096 : Int) < (l6.length : Int) by have := Xhbig.out; omega)
  go_wp2_with fail
  go_ret
  exact ⟨rfl, B6.out⟩
set_option maxHeartbeats 64000000 in
set_option maxRecDepth 100000 in
theorem turns_ok (a b c d e : Int) (A5 : Option Addr) (c5 : Nat) (l5 : List (List S37)) (A6 : Option Addr) (c6 : Nat) (l6 : List Int) (t n : Int) (kg : Nat) (w : World) (hC5 : Kd.C (Kd.slice 37 k37) w A5 l5.length l5) (hc5 : l5.length ≤ c5) (hC6 : Kd.C (Kd.int .i64) w A6 l6.length l6) (hc6 : l6.length ≤ c6) (hgr : revenantlaw22_great.f kg a b c d e l5 l6 = some false) (hbig : l6.length ≤ 4096) (hm : l5.length ≤ 100) (hin : ∀ l ∈ l5, l.length ≤ 100) :
    Calls Try.prog 8 #[.agg #[.int .i64 a, .int .i64 b, .int .i64 c, .int .i64 d, .int .i64 e, .slice A5 l5.length c5, .slice A6 l6.length c6], .int .i64 t, .int .i64 n] w fun e_ w' => e_ = .returned (.bool true) ∧ Below w.heap.size w w' := by
  have hu49 := Try.underlying49
  have hu40 := Try.underlying40
  have hu47 := Try.underlying47
  have hu37 := Try.underlying37
  have XhC5 := Aside0.mk hC5
  clear hC5
  have Xhc5 := Aside0.mk hc5
  clear hc5
  have XhC6 := Aside0.mk hC6
  clear hC6
  have Xhc6 := Aside0.mk hc6
  clear hc6
  have Xhgr := Aside0.mk hgr
  clear hgr
  have Xhbig := Aside0.mk hbig
  clear hbig
  have Xhm := Aside0.mk hm
  clear hm
  have Xhin := Aside0.mk hin
  clear hin
  have L_S := Aside0.mk (show w.heap.size ≤ w.heap.size from Nat.le_refl _)
  have S_1 := Aside0.mk (blk_new (w) (.cells (#[.int .i64 a, .int .i64 b, .int .i64 c, .int .i64 d, .int .i64 e, .slice A5 l5.length c5, .slice A6 l6.length c6]) 49))
  have B2 := Aside0.mk (below_alloc (Below.refl w.heap.size w) (.cells (#[.int .i64 a, .int .i64 b, .int .i64 c, .int .i64 d, .int .i64 e, .slice A5 l5.length c5, .slice A6 l6.length c6]) 49))
  go_enter Try.func8, Try.ntmps8
  go_wp2_with fail
  refine (awake22T _).mono ?_
  rintro e_ w2 ⟨rfl, hb⟩
  have S_3 := Aside0.mk (blk_below S_1.out hb)
  have B4 := Aside0.mk (below_step B2.out hb)
  clear hb S_1 B2
  go_wp2_with (first
    | ((with_reducible refine wpLd 49 (.tmp 3) ?_); refine wpList_load_row_g (by rfl) 49 (.tmp 3) rfl (w.heap.size) rfl 49 (#[.int .i64 a, .int .i64 b, .int .i64 c, .int .i64 d, .int .i64 e, .slice A5 l5.length c5, .slice A6 l6.length c6]) (0, 0) _ S_3.out Try.underlying49 rfl (by kernel_rfl) ?_))
  refine (revenantlaw22_great.calls kg a b c d e A5 c5 l5 A6 c6 l6 false _ (Kd.C_below XhC5.out B4.out) Xhc5.out (Kd.C_below XhC6.out B4.out) Xhc6.out Xhgr.out).mono ?_
  rintro e_ w3 ⟨rfl, hb⟩
  have S_5 := Aside0.mk (blk_below S_3.out hb)
  have B6 := Aside0.mk (below_step B4.out hb)
  clear hb S_3 B4
  have s6 : w3.cell? ⟨w.heap.size, 6, none⟩ = some (.slice A6 l6.length c6) := (blk_cell S_5.out 6).trans rfl
  have t1 : decide ((4096 : Int) < (l6.length : Int)) = false := decide_eq_false (by have := Xhbig.out; omega)
  have t2 := eq_false (show ¬ (4096 : Int) < (l6.length : Int) by have := Xhbig.out; omega)
  go_wp2_with (first
    | ((with_reducible refine wpLd 49 (.tmp 3) ?_); refine wpList_load_row_g (by rfl) 49 (.tmp 3) rfl (w.heap.size) rfl 49 (#[.int .i64 a, .int .i64 b, .int .i64 c, .int .i64 d, .int .i64 e, .slice A5 l5.length c5, .slice A6 l6.length c6]) (0, 0) _ S_5.out Try.underlying49 rfl (by kernel_rfl) ?_))
  have hcp := copy_f a b c d e l5 l6 (by have := Xhm.out; omega) (fun l hl => by have := Xhin.out l hl; omega) (by have := Xhbig.out; omega) (Nat.lt_succ_self l5.length)
  refine (without_T _ a b c d e t A5 c5 l5 A6 c6 l6 _ (Kd.C_below XhC5.out B6.out) Xhc5.out (Kd.C_below XhC6.out B6.out) Xhc6.out hcp).mono ?_
  rintro e_ w4 ⟨v5, v6, rfl, hS5, hR6, hb⟩
  obtain ⟨A7, c7, rfl, hc7, hC7⟩ := Kd.S_reads hS5
  obtain ⟨A8, c8, rfl, hc8, hC8⟩ := Kd.R_reads hR6
  have HC7 := Aside0.mk hC7
  have HC8 := Aside0.mk hC8
  have HC8l := Aside0.mk hc8
  clear hS5 hR6 hc7 hC7 hc8 hC8 s6 t1 t2 hcp
  have S_7 := Aside0.mk (blk_below S_5.out hb)
  have B8 := Aside0.mk (below_step B6.out hb)
  clear hb S_5 B6
  have L_W := Aside0.mk (show w4.heap.size ≤ w4.heap.size from Nat.le_refl _)
  have W_9 := Aside0.mk (blk_new (w4) (.cells #[.int .i64 0, .int .i64 0, .int .i64 0, .int .i64 0, .int .i64 0, .slice none 0 0, .slice none 0 0] 49))
  have B10 := Aside0.mk (below_alloc (Below.refl w4.heap.size w4) (.cells #[.int .i64 0, .int .i64 0, .int .i64 0, .int .i64 0, .int .i64 0, .slice none 0 0, .slice none 0 0] 49))
  go_wp2_with (first
    | ((with_reducible refine wpSt 49 (.tmp 7) (.tmp 27) ?_); refine store_whole (w := w4) (B := w4.heap.size) rfl rfl 49 (.tmp 7) (.tmp 27) rfl (g := w4.heap.size) (cs := #[.int .i64 a, .int .i64 b, .int .i64 c, .int .i64 d, .int .i64 e, .slice A7 l5.length c7, .slice A8 (keep t l6).length c8]) rfl _ rfl rfl (by kernel_rfl) (by simp [Value.oneCell']) W_9.out (rfl) L_W.out B10.out ?_; intro w_11 h1 h2 h3 h4; have W_12 := Aside0.mk (h1); have B13 := Aside0.mk (h2); clear h1 h2 h3 h4 W_9 B10))
  go_loopg [8, 9] l6.length (fun kq v8 v9 w' => ∃ (at_ i : Int), v8 = .int .i64 at_ ∧ v9 = .int .i64 i ∧ Aside0 (0 ≤ i ∧ i + kq = l6.length) ∧ Aside0 (at_ = (keep t (l6.take i.toNat)).length) ∧ Aside0 (Below w4.heap.size w4 w') ∧ Aside0 (w'.heap[w4.heap.size]? = some (.cells #[.int .i64 a, .int .i64 b, .int .i64 c, .int .i64 d, .int .i64 e, .slice A7 l5.length c7, .slice A8 (keep t l6).length c8] 49 (0, 0))))
  case atStart => exact ⟨0, 0, rfl, rfl, ⟨by omega⟩, ⟨rfl⟩, ⟨B13.out⟩, ⟨W_12.out⟩⟩
  case round =>
    clear B13 W_12
    obtain ⟨at_, i, rfl, rfl, HK, HAT, B900, W_900⟩ := hrel
    have s5 : wr.cell? ⟨w.heap.size, 5, none⟩ = some (.slice A5 l5.length c5) := (blk_cell (blk_below S_7.out B900.out) 5).trans rfl
    have s6 : wr.cell? ⟨w.heap.size, 6, none⟩ = some (.slice A6 l6.length c6) := (blk_cell (blk_below S_7.out B900.out) 6).trans rfl
    by_cases hi : i < (l6.length : Int)
    · have d1 : decide (i < (l6.length : Int)) = true := decide_eq_true hi
      have p0 : (0 : Int) ≤ i := HK.out.1
      have q1 := Aside0.mk (show 0 ≤ i ∧ i < (l6.length : Int) from ⟨p0, hi⟩)
      obtain ⟨ko, rfl⟩ : ∃ m, gk = m + 1 := ⟨gk - 1, by have := HK.out; omega⟩
      obtain ⟨ad, e0, hx0⟩ := Kd.at_int XhC6.out i p0 hi
      subst e0
      have HNX := Aside0.mk (keep_at t l6 i.toNat (by have := q1.out; omega))
      have HHT := Aside0.mk (fun h => keep_hit t l6 i.toNat (by have := q1.out; omega) h)
      rw [show rd l6 i = l6.getD i.toNat 0 from rfl] at hx0
      generalize l6.getD i.toNat 0 = x at hx0 HNX HHT
      have X0 := Aside0.mk hx0
      have BW := (below_step B8.out B900.out)
      have dx0 : wr.cell? (ad.add i.toNat) = some (.int .i64 x) := (BW.cell (World.block_lt_of_cell? w _ hx0)).trans hx0
      clear hx0 BW
      have p0b : decide (0 ≤ i) = true := decide_eq_true p0
      have wi : wrap64 (i + 1) = i + 1 := by have := q1.out; have := Xhbig.out; unfold wrap64; omega
      replace p0 := eq_true p0
      replace hi := eq_true hi
      by_cases hx : x = t
      · have e1 : (x == t) = true := beq_iff_eq.2 hx
        have HN2 := Aside0.mk (show keep t (l6.take (i.toNat + 1)) = keep t (l6.take i.toNat) by have := HNX.out; rw [if_pos hx, List.append_nil] at this; exact this)
        have e2 := eq_true hx
        clear hx
        go_wp2_with fail
        go_roundg ko
        case rel => exact ⟨at_, i + 1, rfl, by first | rfl | rw [wi], ⟨by have := HK.out; have := q1.out; omega⟩, ⟨by rw [show (i + 1).toNat = i.toNat + 1 by have := q1.out; omega, HN2.out]; exact HAT.out⟩, ⟨B900.out⟩, ⟨W_900.out⟩⟩
        case measure => exact Nat.lt_succ_self _
      · have e1 : (x == t) = false := beq_eq_false_iff_ne.2 hx
        have HN2 := Aside0.mk (show keep t (l6.take (i.toNat + 1)) = keep t (l6.take i.toNat) ++ [x] by have := HNX.out; rw [if_neg hx] at this; exact this)
        obtain ⟨k1, k2⟩ := HHT.out hx
        have e2 := eq_false hx
        clear hx
        have kl := keep_le t l6
        have HQ := Aside0.mk (show 0 ≤ at_ ∧ at_ < ((keep t l6).length : Int) ∧ (keep t l6).length ≤ l6.length ∧ at_.toNat = (keep t (l6.take i.toNat)).length by have := HAT.out; omega)
        obtain ⟨ae, e3, hy0⟩ := Kd.at_int HC8.out at_ HQ.out.1 HQ.out.2.1
        subst e3
        rw [show rd (keep t l6) at_ = x from by show (keep t l6).getD at_.toNat 0 = x; rw [HQ.out.2.2.2]; exact k2] at hy0
        have Y0 := Aside0.mk hy0
        have y0 : wr.cell? (ae.add at_.toNat) = some (.int .i64 x) := (B900.out.cell (World.block_lt_of_cell? w4 _ hy0)).trans hy0
        clear hy0 k1 k2 kl
        have p1 := eq_true HQ.out.1
        have p1b : decide (0 ≤ at_) = true := decide_eq_true HQ.out.1
        have p2 := eq_true HQ.out.2.1
        have p3 : decide (((keep t l6).length : Int) ≤ at_) = false := decide_eq_false (by have := HQ.out; omega)
        have p4 := eq_false (show ¬ ((keep t l6).length : Int) ≤ at_ by have := HQ.out; omega)
        have wa : wrap64 (at_ + 1) = at_ + 1 := by have := HQ.out; have := Xhbig.out; unfold wrap64; omega
        have te : (x != x) = false := by simp
        go_wp2_with fail
        refine start_ (n := 18) (S := fun w' => w'.cell? ⟨w4.heap.size, 6, none⟩ = some (.slice (some ae) (keep t l6).length c8) ∧ w'.cell? ⟨w.heap.size, 6, none⟩ = some (.slice (some ad) l6.length c6) ∧ w'.cell? (ae.add at_.toNat) = some (.int .i64 x) ∧ w'.cell? (ad.add i.toNat) = some (.int .i64 x)) (ds := []) #[false, false, false, false, false, false, false, false, false, false, false, false, false, false, false, false, false, false] (by kernel_rfl) rfl rfl ⟨(blk_cell (blk_drew W_900.out) 6).trans rfl, (blk_cell (blk_drew (blk_below S_7.out B900.out)) 6).trans rfl, y0, dx0⟩ (fun hHeld => ?_)
        refine pure_ (i := 0) (N := some 42) (v := ?_) (a' := ?_) #[true, false, false, false, false, false, false, false, false, false, false, false, false, false, false, false, false, false] rfl rfl (by kernel_rfl) (fun _ _ _ h => h) (Or.inl ⟨by rfl, ?_⟩) ?_ ?_
        rotate_left
        · intro w'
          go_simp
          with_reducible rfl
        rotate_left
        · simp only [Act.put, List.setIfInBounds_toArray, List.set_cons_zero, List.set_cons_succ, i64_w, i32_w]
          rfl
        refine pure_ (i := 1) (N := some 43) (v := ?_) (a' := ?_) #[true, true, false, false, false, false, false, false, false, false, false, false, false, false, false, false, false, false] rfl rfl (by kernel_rfl) (fun _ _ _ h => h) (Or.inl ⟨by rfl, ?_⟩) ?_ ?_
        rotate_left
        · intro w'
          go_simp
          with_reducible rfl
        rotate_left
        · simp only [Act.put, List.setIfInBounds_toArray, List.set_cons_zero, List.set_cons_succ, i64_w, i32_w]
          rfl
        refine take_ (i := 2) (N := some 44) (v := ?_) (a' := ?_) #[true, true, true, false, false, false, false, false, false, false, false, false, false, false, false, false, false, false] rfl rfl (by kernel_rfl) (fun _ _ _ h => h) (Or.inl ⟨by rfl, ?_⟩) hHeld ?_ ?_
        rotate_left
        · rintro w' ⟨s0, s1, s2, s3⟩
          go_simp
          with_reducible rfl
        rotate_left
        · simp only [Act.put, List.setIfInBounds_toArray, List.set_cons_zero, List.set_cons_succ, i64_w, i32_w]
          rfl
        refine pure_ (i := 3) (N := some 45) (v := ?_) (a' := ?_) #[true, true, true, true, false, false, false, false, false, false, false, false, false, false, false, false, false, false] rfl rfl (by kernel_rfl) (fun _ _ _ h => h) (Or.inl ⟨by rfl, ?_⟩) ?_ ?_
        rotate_left
        · intro w'
          go_simp
          with_reducible rfl
        rotate_left
        · simp only [Act.put, List.setIfInBounds_toArray, List.set_cons_zero, List.set_cons_succ, i64_w, i32_w]
          rfl
        refine pure_ (i := 4) (N := some 46) (v := ?_) (a' := ?_) #[true, true, true, true, true, false, false, false, false, false, false, false, false, false, false, false, false, false] rfl rfl (by kernel_rfl) (fun _ _ _ h => h) (Or.inl ⟨by rfl, ?_⟩) ?_ ?_
        rotate_left
        · intro w'
          go_simp
          with_reducible rfl
        rotate_left
        · simp only [Act.put, List.setIfInBounds_toArray, List.set_cons_zero, List.set_cons_succ, i64_w, i32_w]
          rfl
        refine pure_ (i := 5) (N := some 47) (v := ?_) (a' := ?_) #[true, true, true, true, true, true, false, false, false, false, false, false, false, false, false, false, false, false] rfl rfl (by kernel_rfl) (fun _ _ _ h => h) (Or.inl ⟨by rfl, ?_⟩) ?_ ?_
        rotate_left
        · intro w'
          go_simp
          with_reducible rfl
        rotate_left
        · simp only [Act.put, List.setIfInBounds_toArray, List.set_cons_zero, List.set_cons_succ, i64_w, i32_w]
          rfl
        refine pure_ (i := 6) (N := some 48) (v := ?_) (a' := ?_) #[true, true, true, true, true, true, true, false, false, false, false, false, false, false, false, false, false, false] rfl rfl (by kernel_rfl) (fun _ _ _ h => h) (Or.inl ⟨by rfl, ?_⟩) ?_ ?_
        rotate_left
        · intro w'
          go_simp
          with_reducible rfl
        rotate_left
        · simp only [Act.put, List.setIfInBounds_toArray, List.set_cons_zero, List.set_cons_succ, i64_w, i32_w]
          rfl
        refine pure_ (i := 8) (N := some 50) (v := ?_) (a' := ?_) #[true, true, true, true, true, true, true, false, true, false, false, false, false, false, false, false, false, false] rfl rfl (by kernel_rfl) (fun _ _ _ h => h) (Or.inl ⟨by rfl, ?_⟩) ?_ ?_
        rotate_left
        · intro w'
          go_simp
          with_reducible rfl
        rotate_left
        · simp only [Act.put, List.setIfInBounds_toArray, List.set_cons_zero, List.set_cons_succ, i64_w, i32_w]
          rfl
        refine pure_ (i := 11) (N := some 53) (v := ?_) (a' := ?_) #[true, true, true, true, true, true, true, false, true, false, false, true, false, false, false, false, false, false] rfl rfl (by kernel_rfl) (fun _ _ _ h => h) (Or.inl ⟨by rfl, ?_⟩) ?_ ?_
        rotate_left
        · intro w'
          go_simp
          with_reducible rfl
        rotate_left
        · simp only [Act.put, List.setIfInBounds_toArray, List.set_cons_zero, List.set_cons_succ, i64_w, i32_w]
          rfl
        refine pure_ (i := 13) (N := some 55) (v := ?_) (a' := ?_) #[true, true, true, true, true, true, true, false, true, false, false, true, false, true, false, false, false, false] rfl rfl (by kernel_rfl) (fun _ _ _ h => h) (Or.inl ⟨by rfl, ?_⟩) ?_ ?_
        rotate_left
        · intro w'
          go_simp
          with_reducible rfl
        rotate_left
        · simp only [Act.put, List.setIfInBounds_toArray, List.set_cons_zero, List.set_cons_succ, i64_w, i32_w]
          rfl
        refine take_ (i := 7) (N := some 49) (v := ?_) (a' := ?_) #[true, true, true, true, true, true, true, true, true, false, false, true, false, true, false, false, false, false] rfl rfl (by kernel_rfl) (fun _ _ _ h => h) (Or.inl ⟨by rfl, ?_⟩) hHeld ?_ ?_
        rotate_left
        · rintro w' ⟨s0, s1, s2, s3⟩
          go_simp
          with_reducible rfl
        rotate_left
        · simp only [Act.put, List.setIfInBounds_toArray, List.set_cons_zero, List.set_cons_succ, i64_w, i32_w]
          rfl
        refine pure_ (i := 9) (N := some 51) (v := ?_) (a' := ?_) #[true, true, true, true, true, true, true, true, true, true, false, true, false, true, false, false, false, false] rfl rfl (by kernel_rfl) (fun _ _ _ h => h) (Or.inl ⟨by rfl, ?_⟩) ?_ ?_
        rotate_left
        · intro w'
          go_simp
          with_reducible rfl
        rotate_left
        · simp only [Act.put, List.setIfInBounds_toArray, List.set_cons_zero, List.set_cons_succ, i64_w, i32_w]
          rfl
        refine take_ (i := 10) (N := some 52) (v := ?_) (a' := ?_) #[true, true, true, true, true, true, true, true, true, true, true, true, false, true, false, false, false, false] rfl rfl (by kernel_rfl) (fun _ _ _ h => h) (Or.inl ⟨by rfl, ?_⟩) hHeld ?_ ?_
        rotate_left
        · rintro w' ⟨s0, s1, s2, s3⟩
          go_simp
          with_reducible rfl
        rotate_left
        · simp only [Act.put, List.setIfInBounds_toArray, List.set_cons_zero, List.set_cons_succ, i64_w, i32_w]
          rfl
        refine take_ (i := 12) (N := some 54) (v := ?_) (a' := ?_) #[true, true, true, true, true, true, true, true, true, true, true, true, true, true, false, false, false, false] rfl rfl (by kernel_rfl) (fun _ _ _ h => h) (Or.inl ⟨by rfl, ?_⟩) hHeld ?_ ?_
        rotate_left
        · rintro w' ⟨s0, s1, s2, s3⟩
          go_simp
          with_reducible rfl
        rotate_left
        · simp only [Act.put, List.setIfInBounds_toArray, List.set_cons_zero, List.set_cons_succ, i64_w, i32_w]
          rfl
        refine pure_ (i := 14) (N := some 56) (v := ?_) (a' := ?_) #[true, true, true, true, true, true, true, true, true, true, true, true, true, true, true, false, false, false] rfl rfl (by kernel_rfl) (fun _ _ _ h => h) (Or.inl ⟨by rfl, ?_⟩) ?_ ?_
        rotate_left
        · intro w'
          go_simp
          with_reducible rfl
        rotate_left
        · simp only [Act.put, List.setIfInBounds_toArray, List.set_cons_zero, List.set_cons_succ, i64_w, i32_w]
          rfl
        refine take_ (i := 15) (N := some 57) (v := ?_) (a' := ?_) #[true, true, true, true, true, true, true, true, true, true, true, true, true, true, true, true, false, false] rfl rfl (by kernel_rfl) (fun _ _ _ h => h) (Or.inl ⟨by rfl, ?_⟩) hHeld ?_ ?_
        rotate_left
        · rintro w' ⟨s0, s1, s2, s3⟩
          go_simp
          with_reducible rfl
        rotate_left
        · simp only [Act.put, List.setIfInBounds_toArray, List.set_cons_zero, List.set_cons_succ, i64_w, i32_w]
          rfl
        refine pure_ (i := 16) (N := some 58) (v := ?_) (a' := ?_) #[true, true, true, true, true, true, true, true, true, true, true, true, true, true, true, true, true, false] rfl rfl (by kernel_rfl) (fun _ _ _ h => h) (Or.inl ⟨by rfl, ?_⟩) ?_ ?_
        rotate_left
        · intro w'
          go_simp
          with_reducible rfl
        rotate_left
        · simp only [Act.put, List.setIfInBounds_toArray, List.set_cons_zero, List.set_cons_succ, i64_w, i32_w]
          rfl
        refine pure_ (i := 17) (N := some 59) (v := ?_) (a' := ?_) #[true, true, true, true, true, true, true, true, true, true, true, true, true, true, true, true, true, true] rfl rfl (by kernel_rfl) (fun _ _ _ h => h) (Or.inl ⟨by rfl, ?_⟩) ?_ ?_
        rotate_left
        · intro w'
          go_simp
          with_reducible rfl
        rotate_left
        · simp only [Act.put, List.setIfInBounds_toArray, List.set_cons_zero, List.set_cons_succ, i64_w, i32_w]
          rfl
        refine done_ (by kernel_rfl) ?_
        go_wp2_with fail
        go_roundg ko
        case rel => exact ⟨at_ + 1, i + 1, by first | rfl | rw [wa], by first | rfl | rw [wi], ⟨by have := HK.out; have := q1.out; omega⟩, ⟨by rw [show (i + 1).toNat = i.toNat + 1 by have := q1.out; omega, HN2.out, HAT.out]; simp⟩, ⟨below_drew B900.out⟩, ⟨blk_drew W_900.out⟩⟩
        case measure => exact Nat.lt_succ_self _
    · have d1 : decide (i < (l6.length : Int)) = false := decide_eq_false hi
      obtain rfl : i = (l6.length : Int) := by have := HK.out; omega
      rw [show ((l6.length : Int)).toNat = l6.length by omega, List.take_length] at HAT
      have kl := keep_le t l6
      have t3 : decide ((l6.length : Int) < at_) = false := decide_eq_false (by have := HAT.out; omega)
      have t4 := eq_false (show ¬ (l6.length : Int) < at_ by have := HAT.out; omega)
      clear hi HK HAT kl
      have w6 : wr.cell? ⟨w4.heap.size, 6, none⟩ = some (.slice A8 (keep t l6).length c8) := (blk_cell W_900.out 6).trans rfl
      have w6f := blk_frozen W_900.out 6
      have W_901 := Aside0.mk (blk_put (W_900.out) 6 (.slice A6 l6.length c6) (cs' := #[.int .i64 a, .int .i64 b, .int .i64 c, .int .i64 d, .int .i64 e, .slice A7 l5.length c7, .slice A6 l6.length c6]) rfl)
      have B902 := Aside0.mk (below_set (B900.out) (g := w4.heap.size) (j := 6) (v := .slice A6 l6.length c6) L_W.out)
      clear W_900 B900
      have s6b : (wr.setCell ⟨w4.heap.size, 6, none⟩ (.slice A6 l6.length c6)).cell? ⟨w.heap.size, 6, none⟩ = some (.slice A6 l6.length c6) := (blk_cell (blk_below S_7.out B902.out) 6).trans rfl
      go_wp2_with (first
        | ((with_reducible refine wpLd 49 (.tmp 7) ?_); refine wpList_load_row_g (by rfl) 49 (.tmp 7) rfl (w4.heap.size) rfl 49 (#[.int .i64 a, .int .i64 b, .int .i64 c, .int .i64 d, .int .i64 e, .slice A7 l5.length c7, .slice A6 l6.length c6]) (0, 0) _ W_901.out Try.underlying49 rfl (by kernel_rfl) ?_)
        | ((with_reducible refine wpLd 49 (.tmp 3) ?_); refine wpList_load_row_g (by rfl) 49 (.tmp 3) rfl (w.heap.size) rfl 49 (#[.int .i64 a, .int .i64 b, .int .i64 c, .int .i64 d, .int .i64 e, .slice A5 l5.length c5, .slice A6 l6.length c6]) (0, 0) _ (blk_below S_7.out B902.out) Try.underlying49 rfl (by kernel_rfl) ?_))
      refine (same_T a b c d e A7 c7 l5 A6 c6 l6 a b c d e A5 c5 l5 A6 c6 l6 _ (Kd.C_below HC7.out B902.out) (Kd.C_below XhC6.out (below_step B8.out B902.out)) Xhc6.out (Kd.C_below XhC5.out (below_step B8.out B902.out)) (Kd.C_below XhC6.out (below_step B8.out B902.out)) Xhc6.out).mono ?_
      rintro e_ w5 ⟨rfl, hb⟩
      rw [show decide ((((a, b, c, d, e) = (a, b, c, d, e)) ∧ l5 = l5) ∧ l6 = l6) = true from by simp]
      have W_903 := Aside0.mk (blk_below W_901.out hb)
      have B904 := Aside0.mk (below_step B902.out hb)
      clear hb W_901 B902
      clear s5 s6 s6b w6 w6f t3 t4
      obtain ⟨k, hk⟩ : ∃ k, wrap64 ((IntKind.u64.wrap n).tmod 200) = k := ⟨_, rfl⟩
      have HKK := Aside0.mk (show 0 ≤ k ∧ k ≤ 199 by rw [← hk]; exact k_lt n)
      go_wp2_with (first
        | ((with_reducible refine wpLd 49 (.tmp 3) ?_); refine wpList_load_row_g (by rfl) 49 (.tmp 3) rfl (w.heap.size) rfl 49 (#[.int .i64 a, .int .i64 b, .int .i64 c, .int .i64 d, .int .i64 e, .slice A5 l5.length c5, .slice A6 l6.length c6]) (0, 0) _ (blk_below S_7.out B904.out) Try.underlying49 rfl (by kernel_rfl) ?_))
      clear hk
      obtain ⟨rr, ⟨K1, hf1⟩, ⟨K2, hf2⟩, r1, r2, r3, r4, r5⟩ := round_facts a b c d e l5 l6 k Xhm.out Xhin.out Xhbig.out HKK.out.1 HKK.out.2
      have HF1 := Aside0.mk hf1
      have HF2 := Aside0.mk hf2
      have HR1 := Aside0.mk r1
      have HR2 := Aside0.mk r2
      have HR3 := Aside0.mk r3
      have HR4 := Aside0.mk r4
      have HR5 := Aside0.mk r5
      clear hf1 hf2 r1 r2 r3 r4 r5
      refine (script_Round.calls K1 a b c d e A5 c5 l5 A6 c6 l6 k a b c d e l5 rr _ (Kd.C_below XhC5.out (below_step B8.out B904.out)) Xhc5.out (Kd.C_below XhC6.out (below_step B8.out B904.out)) Xhc6.out HF1.out).mono ?_
      rintro e_ w6 ⟨v5, v6, rfl, hS, hR, hb⟩
      obtain ⟨A9, c9, rfl, hc9, hC9⟩ := Kd.S_reads hS
      obtain ⟨Aa, ca, rfl, hca, hCa⟩ := Kd.R_reads hR
      have HC9 := Aside0.mk hC9
      have HCa := Aside0.mk hCa
      have HCal := Aside0.mk hca
      clear hS hR hc9 hC9 hca hCa
      have W_905 := Aside0.mk (blk_below W_903.out hb)
      have S_906 := Aside0.mk (blk_below (blk_below S_7.out B904.out) hb)
      have B907 := Aside0.mk (below_step B904.out hb)
      clear hb W_903 S_7 B904
      have L_R := Aside0.mk (show w6.heap.size ≤ w6.heap.size from Nat.le_refl _)
      have R_908 := Aside0.mk (blk_new (w6) (.cells #[.int .i64 0, .int .i64 0, .int .i64 0, .int .i64 0, .int .i64 0, .slice none 0 0, .slice none 0 0] 49))
      have B909 := Aside0.mk (below_alloc (Below.refl w6.heap.size w6) (.cells #[.int .i64 0, .int .i64 0, .int .i64 0, .int .i64 0, .int .i64 0, .slice none 0 0, .slice none 0 0] 49))
      go_wp2_with (first
        | ((with_reducible refine wpSt 49 (.tmp 11) (.tmp 82) ?_); refine store_whole (w := w6) (B := w6.heap.size) rfl rfl 49 (.tmp 11) (.tmp 82) rfl (g := w6.heap.size) (cs := #[.int .i64 a, .int .i64 b, .int .i64 c, .int .i64 d, .int .i64 e, .slice A9 l5.length c9, .slice Aa rr.length ca]) rfl _ rfl rfl (by kernel_rfl) (by simp [Value.oneCell']) R_908.out (rfl) L_R.out B909.out ?_; intro w_910 h1 h2 h3 h4; have R_911 := Aside0.mk (h1); have B912 := Aside0.mk (h2); clear h1 h2 h3 h4 R_908 B909))
      have wm : wrap64 (k * (l5.length : Int)) = k * (l5.length : Int) := by have h1 := HR1.out; have h2 := HR2.out; have h3 : (0 : Int) ≤ k * (l5.length : Int) := Int.mul_nonneg HKK.out.1 (by omega); generalize k * (l5.length : Int) = q at *; unfold wrap64; omega
      have wad : wrap64 ((l6.length : Int) + k * (l5.length : Int)) = (l6.length : Int) + k * (l5.length : Int) := by have h1 := HR1.out; have h2 := HR2.out; generalize k * (l5.length : Int) = q at *; unfold wrap64; omega
      have tne : ((rr.length : Int) != (l6.length : Int) + k * (l5.length : Int)) = false := by rw [← HR1.out]; simp
      have wng : wrap64 (-k) = -k := by have := HKK.out; unfold wrap64; omega
      refine start_ (n := 22) (S := fun w' => w'.cell? ⟨w6.heap.size, 6, none⟩ = some (.slice Aa rr.length ca) ∧ w'.cell? ⟨w.heap.size, 6, none⟩ = some (.slice A6 l6.length c6) ∧ w'.cell? ⟨w.heap.size, 5, none⟩ = some (.slice A5 l5.length c5) ∧ w'.heap[w.heap.size]? = some (.cells (#[.int .i64 a, .int .i64 b, .int .i64 c, .int .i64 d, .int .i64 e, .slice A5 l5.length c5, .slice A6 l6.length c6]) 49 (0, 0))) (ds := []) #[false, false, false, false, false, false, false, false, false, false, false, false, false, false, false, false, false, false, false, false, false, false] (by kernel_rfl) rfl rfl ⟨(blk_cell (blk_drew R_911.out) 6).trans rfl, (blk_cell (blk_drew (blk_below S_906.out B912.out)) 6).trans rfl, (blk_cell (blk_drew (blk_below S_906.out B912.out)) 5).trans rfl, blk_drew (blk_below S_906.out B912.out)⟩ (fun hHeld => ?_)
      refine pure_ (i := 0) (N := some 83) (v := ?_) (a' := ?_) #[true, false, false, false, false, false, false, false, false, false, false, false, false, false, false, false, false, false, false, false, false, false] rfl rfl (by kernel_rfl) (fun _ _ _ h => h) (Or.inl ⟨by rfl, ?_⟩) ?_ ?_
      rotate_left
      · intro w'
        go_simp
        with_reducible rfl
      rotate_left
      · simp only [Act.put, List.setIfInBounds_toArray, List.set_cons_zero, List.set_cons_succ, i64_w, i32_w]
        rfl
      refine pure_ (i := 3) (N := some 86) (v := ?_) (a' := ?_) #[true, false, false, true, false, false, false, false, false, false, false, false, false, false, false, false, false, false, false, false, false, false] rfl rfl (by kernel_rfl) (fun _ _ _ h => h) (Or.inl ⟨by rfl, ?_⟩) ?_ ?_
      rotate_left
      · intro w'
        go_simp
        with_reducible rfl
      rotate_left
      · simp only [Act.put, List.setIfInBounds_toArray, List.set_cons_zero, List.set_cons_succ, i64_w, i32_w]
        rfl
      refine pure_ (i := 6) (N := some 89) (v := ?_) (a' := ?_) #[true, false, false, true, false, false, true, false, false, false, false, false, false, false, false, false, false, false, false, false, false, false] rfl rfl (by kernel_rfl) (fun _ _ _ h => h) (Or.inl ⟨by rfl, ?_⟩) ?_ ?_
      rotate_left
      · intro w'
        go_simp
        with_reducible rfl
      rotate_left
      · simp only [Act.put, List.setIfInBounds_toArray, List.set_cons_zero, List.set_cons_succ, i64_w, i32_w]
        rfl
      refine pure_ (i := 7) (N := some 90) (v := ?_) (a' := ?_) #[true, false, false, true, false, false, true, true, false, false, false, false, false, false, false, false, false, false, false, false, false, false] rfl rfl (by kernel_rfl) (fun _ _ _ h => h) (Or.inl ⟨by rfl, ?_⟩) ?_ ?_
      rotate_left
      · intro w'
        go_simp
        with_reducible rfl
      rotate_left
      · simp only [Act.put, List.setIfInBounds_toArray, List.set_cons_zero, List.set_cons_succ, i64_w, i32_w]
        rfl
      refine take_ (i := 1) (N := some 84) (v := ?_) (a' := ?_) #[true, true, false, true, false, false, true, true, false, false, false, false, false, false, false, false, false, false, false, false, false, false] rfl rfl (by kernel_rfl) (fun _ _ _ h => h) (Or.inl ⟨by rfl, ?_⟩) hHeld ?_ ?_
      rotate_left
      · rintro w' ⟨s0, s1, s2, s3⟩
        go_simp
        with_reducible rfl
      rotate_left
      · simp only [Act.put, List.setIfInBounds_toArray, List.set_cons_zero, List.set_cons_succ, i64_w, i32_w]
        rfl
      refine pure_ (i := 2) (N := some 85) (v := ?_) (a' := ?_) #[true, true, true, true, false, false, true, true, false, false, false, false, false, false, false, false, false, false, false, false, false, false] rfl rfl (by kernel_rfl) (fun _ _ _ h => h) (Or.inl ⟨by rfl, ?_⟩) ?_ ?_
      rotate_left
      · intro w'
        go_simp
        with_reducible rfl
      rotate_left
      · simp only [Act.put, List.setIfInBounds_toArray, List.set_cons_zero, List.set_cons_succ, i64_w, i32_w]
        rfl
      refine take_ (i := 4) (N := some 87) (v := ?_) (a' := ?_) #[true, true, true, true, true, false, true, true, false, false, false, false, false, false, false, false, false, false, false, false, false, false] rfl rfl (by kernel_rfl) (fun _ _ _ h => h) (Or.inl ⟨by rfl, ?_⟩) hHeld ?_ ?_
      rotate_left
      · rintro w' ⟨s0, s1, s2, s3⟩
        go_simp
        with_reducible rfl
      rotate_left
      · simp only [Act.put, List.setIfInBounds_toArray, List.set_cons_zero, List.set_cons_succ, i64_w, i32_w]
        rfl
      refine pure_ (i := 5) (N := some 88) (v := ?_) (a' := ?_) #[true, true, true, true, true, true, true, true, false, false, false, false, false, false, false, false, false, false, false, false, false, false] rfl rfl (by kernel_rfl) (fun _ _ _ h => h) (Or.inl ⟨by rfl, ?_⟩) ?_ ?_
      rotate_left
      · intro w'
        go_simp
        with_reducible rfl
      rotate_left
      · simp only [Act.put, List.setIfInBounds_toArray, List.set_cons_zero, List.set_cons_succ, i64_w, i32_w]
        rfl
      refine take_ (i := 8) (N := some 91) (v := ?_) (a' := ?_) #[true, true, true, true, true, true, true, true, true, false, false, false, false, false, false, false, false, false, false, false, false, false] rfl rfl (by kernel_rfl) (fun _ _ _ h => h) (Or.inl ⟨by rfl, ?_⟩) hHeld ?_ ?_
      rotate_left
      · rintro w' ⟨s0, s1, s2, s3⟩
        go_simp
        with_reducible rfl
      rotate_left
      · simp only [Act.put, List.setIfInBounds_toArray, List.set_cons_zero, List.set_cons_succ, i64_w, i32_w]
        rfl
      refine pure_ (i := 9) (N := some 92) (v := ?_) (a' := ?_) #[true, true, true, true, true, true, true, true, true, true, false, false, false, false, false, false, false, false, false, false, false, false] rfl rfl (by kernel_rfl) (fun _ _ _ h => h) (Or.inl ⟨by rfl, ?_⟩) ?_ ?_
      rotate_left
      · intro w'
        go_simp
        with_reducible rfl
      rotate_left
      · simp only [Act.put, List.setIfInBounds_toArray, List.set_cons_zero, List.set_cons_succ, i64_w, i32_w]
        rfl
      refine pure_ (i := 10) (N := some 93) (v := ?_) (a' := ?_) #[true, true, true, true, true, true, true, true, true, true, true, false, false, false, false, false, false, false, false, false, false, false] rfl rfl (by kernel_rfl) (fun _ _ _ h => h) (Or.inl ⟨by rfl, ?_⟩) ?_ ?_
      rotate_left
      · intro w'
        go_simp
        with_reducible rfl
      rotate_left
      · simp only [Act.put, List.setIfInBounds_toArray, List.set_cons_zero, List.set_cons_succ, i64_w, i32_w]
        rfl
      refine pure_ (i := 11) (N := some 94) (v := ?_) (a' := ?_) #[true, true, true, true, true, true, true, true, true, true, true, true, false, false, false, false, false, false, false, false, false, false] rfl rfl (by kernel_rfl) (fun _ _ _ h => h) (Or.inl ⟨by rfl, ?_⟩) ?_ ?_
      rotate_left
      · intro w'
        go_simp
        with_reducible rfl
      rotate_left
      · simp only [Act.put, List.setIfInBounds_toArray, List.set_cons_zero, List.set_cons_succ, i64_w, i32_w]
        rfl
      refine pure_ (i := 12) (N := some 95) (v := ?_) (a' := ?_) #[true, true, true, true, true, true, true, true, true, true, true, true, true, false, false, false, false, false, false, false, false, false] rfl rfl (by kernel_rfl) (fun _ _ _ h => h) (Or.inl ⟨by rfl, ?_⟩) ?_ ?_
      rotate_left
      · intro w'
        go_simp
        with_reducible rfl
      rotate_left
      · simp only [Act.put, List.setIfInBounds_toArray, List.set_cons_zero, List.set_cons_succ, i64_w, i32_w]
        rfl
      refine pure_ (i := 13) (N := some 96) (v := ?_) (a' := ?_) #[true, true, true, true, true, true, true, true, true, true, true, true, true, true, false, false, false, false, false, false, false, false] rfl rfl (by kernel_rfl) (fun _ _ _ h => h) (Or.inl ⟨by rfl, ?_⟩) ?_ ?_
      rotate_left
      · intro w'
        go_simp
        with_reducible rfl
      rotate_left
      · simp only [Act.put, List.setIfInBounds_toArray, List.set_cons_zero, List.set_cons_succ, i64_w, i32_w]
        rfl
      refine pure_ (i := 15) (N := some 98) (v := ?_) (a' := ?_) #[true, true, true, true, true, true, true, true, true, true, true, true, true, true, false, true, false, false, false, false, false, false] rfl rfl (by kernel_rfl) (fun _ _ _ h => h) (Or.inl ⟨by rfl, ?_⟩) ?_ ?_
      rotate_left
      · intro w'
        go_simp
        with_reducible rfl
      rotate_left
      · simp only [Act.put, List.setIfInBounds_toArray, List.set_cons_zero, List.set_cons_succ, i64_w, i32_w]
        rfl
      refine pure_ (i := 16) (N := some 99) (v := ?_) (a' := ?_) #[true, true, true, true, true, true, true, true, true, true, true, true, true, true, false, true, true, false, false, false, false, false] rfl rfl (by kernel_rfl) (fun _ _ _ h => h) (Or.inl ⟨by rfl, ?_⟩) ?_ ?_
      rotate_left
      · intro w'
        go_simp
        with_reducible rfl
      rotate_left
      · simp only [Act.put, List.setIfInBounds_toArray, List.set_cons_zero, List.set_cons_succ, i64_w, i32_w]
        rfl
      refine take_ (i := 14) (N := some 97) (v := ?_) (a' := ?_) #[true, true, true, true, true, true, true, true, true, true, true, true, true, true, true, true, true, false, false, false, false, false] rfl rfl (by kernel_rfl) (fun _ _ _ h => h) (Or.inl ⟨by rfl, ?_⟩) hHeld ?_ ?_
      rotate_left
      · rintro w' ⟨s0, s1, s2, s3⟩
        refine exec_load_row 49 (.tmp 3) ?_ _ ?_ 49 (#[.int .i64 a, .int .i64 b, .int .i64 c, .int .i64 d, .int .i64 e, .slice A5 l5.length c5, .slice A6 l6.length c6]) (0, 0) _ s3 Try.underlying49 rfl (by kernel_rfl) <;> rfl
      rotate_left
      · simp only [Act.put, List.setIfInBounds_toArray, List.set_cons_zero, List.set_cons_succ, i64_w, i32_w]
        rfl
      refine take_ (i := 18) (N := some 101) (v := ?_) (a' := ?_) #[true, true, true, true, true, true, true, true, true, true, true, true, true, true, true, true, true, false, true, false, false, false] rfl rfl (by kernel_rfl) (fun _ _ _ h => h) (Or.inl ⟨by rfl, ?_⟩) hHeld ?_ ?_
      rotate_left
      · rintro w' ⟨s0, s1, s2, s3⟩
        refine exec_load_row 49 (.tmp 3) ?_ _ ?_ 49 (#[.int .i64 a, .int .i64 b, .int .i64 c, .int .i64 d, .int .i64 e, .slice A5 l5.length c5, .slice A6 l6.length c6]) (0, 0) _ s3 Try.underlying49 rfl (by kernel_rfl) <;> rfl
      rotate_left
      · simp only [Act.put, List.setIfInBounds_toArray, List.set_cons_zero, List.set_cons_succ, i64_w, i32_w]
        rfl
      refine one_ (i := 17) (N := some 100) #[true, true, true, true, true, true, true, true, true, true, true, true, true, true, true, true, true, true, true, false, false, false] rfl rfl (by kernel_rfl) (by decide) (fun K hK => ?_)
      refine goes_ Try.func31 (by kernel_rfl) rfl #[.agg #[.int .i64 a, .int .i64 b, .int .i64 c, .int .i64 d, .int .i64 e, .slice A5 l5.length c5, .slice A6 l6.length c6], .int .i64 (wrap64 (-k))] (by rfl) rfl rfl (by simp only [List.map_toArray, List.map_cons, List.map_nil]; rfl) ?_
      with_reducible refine (script_Round.calls K2 a b c d e A5 c5 l5 A6 c6 l6 (wrap64 (-k)) a b c d e l5 l6 _ (Kd.C_below XhC5.out (below_step (below_step B8.out B907.out) (below_drew B912.out))) Xhc5.out (Kd.C_below XhC6.out (below_step (below_step B8.out B907.out) (below_drew B912.out))) Xhc6.out (by rw [wng]; exact HF2.out)).mono ?_
      rintro e_ w7 ⟨v7, v8, rfl, hS7, hR8, hb⟩
      obtain ⟨Ab, cb, rfl, hcb, hCb⟩ := Kd.S_reads hS7
      obtain ⟨Ac, cc, rfl, hcc, hCc⟩ := Kd.R_reads hR8
      refine ⟨_, rfl, ?_⟩
      have R_913 := Aside0.mk (blk_below (blk_drew R_911.out) hb)
      have HCb := Aside0.mk hCb
      have HCc := Aside0.mk hCc
      have HCcl := Aside0.mk hcc
      clear hS7 hR8 hcb hCb hcc hCc
      have B914 := Aside0.mk (below_step (below_drew B912.out) hb)
      clear hb R_911 B912
      refine hK.out _ _ ⟨(blk_cell R_913.out 6).trans rfl, (blk_cell (blk_below S_906.out B914.out) 6).trans rfl, (blk_cell (blk_below S_906.out B914.out) 5).trans rfl, (blk_below S_906.out B914.out)⟩ (fun hHeld => ?_)
      clear hK K
      refine norm_ (a' := ?_) ?_ ?_
      rotate_left
      · show Act.put _ (some 100) _ = _
        simp only [Act.put, List.setIfInBounds_toArray, List.set_cons_zero, List.set_cons_succ, i64_w, i32_w]
        rfl
      refine one_ (i := 19) (N := some 102) #[true, true, true, true, true, true, true, true, true, true, true, true, true, true, true, true, true, true, true, true, false, false] rfl rfl (by kernel_rfl) (by decide) (fun K hK => ?_)
      refine goes_ Try.func22 (by kernel_rfl) rfl #[.agg #[.int .i64 a, .int .i64 b, .int .i64 c, .int .i64 d, .int .i64 e, .slice Ab l5.length cb, .slice Ac l6.length cc], .agg #[.int .i64 a, .int .i64 b, .int .i64 c, .int .i64 d, .int .i64 e, .slice A5 l5.length c5, .slice A6 l6.length c6]] (by rfl) rfl rfl (by simp only [List.map_toArray, List.map_cons, List.map_nil]; rfl) ?_
      with_reducible refine (same_T a b c d e Ab cb l5 Ac cc l6 a b c d e A5 c5 l5 A6 c6 l6 _ HCb.out HCc.out HCcl.out (Kd.C_below XhC5.out (below_step (below_step B8.out B907.out) B914.out)) (Kd.C_below XhC6.out (below_step (below_step B8.out B907.out) B914.out)) Xhc6.out).mono ?_
      rintro e_ w8 ⟨rfl, hb⟩
      rw [show decide ((((a, b, c, d, e) = (a, b, c, d, e)) ∧ l5 = l5) ∧ l6 = l6) = true from by simp]
      refine ⟨_, rfl, ?_⟩
      have R_915 := Aside0.mk (blk_below R_913.out hb)
      have B916 := Aside0.mk (below_step B914.out hb)
      clear hb R_913 B914
      refine hK.out _ _ ⟨(blk_cell R_915.out 6).trans rfl, (blk_cell (blk_below S_906.out B916.out) 6).trans rfl, (blk_cell (blk_below S_906.out B916.out) 5).trans rfl, (blk_below S_906.out B916.out)⟩ (fun hHeld => ?_)
      clear hK K
      refine norm_ (a' := ?_) ?_ ?_
      rotate_left
      · show Act.put _ (some 102) _ = _
        simp only [Act.put, List.setIfInBounds_toArray, List.set_cons_zero, List.set_cons_succ, i64_w, i32_w]
        rfl
      refine pure_ (i := 20) (N := some 103) (v := ?_) (a' := ?_) #[true, true, true, true, true, true, true, true, true, true, true, true, true, true, true, true, true, true, true, true, true, false] rfl rfl (by kernel_rfl) (fun _ _ _ h => h) (Or.inl ⟨by rfl, ?_⟩) ?_ ?_
      rotate_left
      · intro w'
        go_simp
        with_reducible rfl
      rotate_left
      · simp only [Act.put, List.setIfInBounds_toArray, List.set_cons_zero, List.set_cons_succ, i64_w, i32_w]
        rfl
      refine pure_ (i := 21) (N := some 104) (v := ?_) (a' := ?_) #[true, true, true, true, true, true, true, true, true, true, true, true, true, true, true, true, true, true, true, true, true, true] rfl rfl (by kernel_rfl) (fun _ _ _ h => h) (Or.inl ⟨by rfl, ?_⟩) ?_ ?_
      rotate_left
      · intro w'
        go_simp
        with_reducible rfl
      rotate_left
      · simp only [Act.put, List.setIfInBounds_toArray, List.set_cons_zero, List.set_cons_succ, i64_w, i32_w]
        rfl
      refine done_ (by kernel_rfl) ?_
      clear HCb HCc HCcl HF1 HF2 wm wad tne wng
      go_wp2_with fail
      go_loopg [12] rr.length (fun kq v12 w' => ∃ (j : Int), v12 = .int .i64 j ∧ Aside0 (0 ≤ j ∧ j + kq = rr.length) ∧ Aside0 (Below w6.heap.size w6 w') ∧ Aside0 (w'.heap[w6.heap.size]? = some (.cells #[.int .i64 a, .int .i64 b, .int .i64 c, .int .i64 d, .int .i64 e, .slice A9 l5.length c9, .slice Aa rr.length ca] 49 (0, 0))))
      case atStart => exact ⟨0, rfl, ⟨by omega⟩, ⟨B916.out⟩, ⟨R_915.out⟩⟩
      case round =>
        clear B916 R_915
        obtain ⟨j, rfl, HJ, B1900, R_1900⟩ := hrel
        have s5 : wr.cell? ⟨w.heap.size, 5, none⟩ = some (.slice A5 l5.length c5) := (blk_cell (blk_below S_906.out B1900.out) 5).trans rfl
        have s6 : wr.cell? ⟨w.heap.size, 6, none⟩ = some (.slice A6 l6.length c6) := (blk_cell (blk_below S_906.out B1900.out) 6).trans rfl
        have r6 : wr.cell? ⟨w6.heap.size, 6, none⟩ = some (.slice Aa rr.length ca) := (blk_cell R_1900.out 6).trans rfl
        by_cases hj : j < (rr.length : Int)
        · have d1 : decide (j < (rr.length : Int)) = true := decide_eq_true hj
          have p0 : (0 : Int) ≤ j := HJ.out.1
          have q1 := Aside0.mk (show 0 ≤ j ∧ j < (rr.length : Int) from ⟨p0, hj⟩)
          obtain ⟨ko, rfl⟩ : ∃ m, gk = m + 1 := ⟨gk - 1, by have := HJ.out; omega⟩
          obtain ⟨ay, e0, hy0⟩ := Kd.at_int HCa.out j p0 hj
          subst e0
          rw [show rd rr j = rr.getD j.toNat 0 from rfl] at hy0
          have p0b : decide (0 ≤ j) = true := decide_eq_true p0
          have wi : wrap64 (j + 1) = j + 1 := by have := q1.out; have := HR2.out; unfold wrap64; omega
          replace p0 := eq_true p0
          replace hj := eq_true hj
          by_cases hk : j < (l6.length : Int)
          · have t1 : decide (j < (l6.length : Int)) = true := decide_eq_true hk
            have t3 : decide ((l6.length : Int) ≤ j) = false := decide_eq_false (by omega)
            have t4 := eq_false (show ¬ (l6.length : Int) ≤ j by omega)
            obtain ⟨ax, e1, hx0⟩ := Kd.at_int XhC6.out j q1.out.1 hk
            subst e1
            rw [show rd l6 j = l6.getD j.toNat 0 from rfl, ← HR3.out j.toNat (by have := q1.out; omega)] at hx0
            generalize rr.getD j.toNat 0 = x at hx0 hy0
            have dx : wr.cell? (ax.add j.toNat) = some (.int .i64 x) := ((below_step (below_step B8.out B907.out) B1900.out).cell (World.block_lt_of_cell? w _ hx0)).trans hx0
            have dy : wr.cell? (ay.add j.toNat) = some (.int .i64 x) := (B1900.out.cell (World.block_lt_of_cell? w6 _ hy0)).trans hy0
            clear hx0 hy0
            have te : (x != x) = false := by simp
            replace hk := eq_true hk
            go_wp2_with fail
            refine start_ (n := 42) (S := fun w' => w'.cell? ⟨w6.heap.size, 6, none⟩ = some (.slice (some ay) rr.length ca) ∧ w'.cell? ⟨w.heap.size, 6, none⟩ = some (.slice (some ax) l6.length c6) ∧ w'.cell? (ay.add j.toNat) = some (.int .i64 x) ∧ w'.cell? (ax.add j.toNat) = some (.int .i64 x)) (ds := []) #[false, false, false, false, false, false, false, false, false, false, false, false, false, false, false, false, false, false, false, false, false, false, false, false, false, false, false, false, false, false, false, false, false, false, false, false, false, false, false, false, false, false] (by kernel_rfl) rfl rfl ⟨(blk_cell (blk_drew R_1900.out) 6).trans rfl, (blk_cell (blk_drew (blk_below S_906.out B1900.out)) 6).trans rfl, dy, dx⟩ (fun hHeld => ?_)
            refine pure_ (i := 0) (N := some 112) (v := ?_) (a' := ?_) #[true, false, false, false, false, false, false, false, false, false, false, false, false, false, false, false, false, false, false, false, false, false, false, false, false, false, false, false, false, false, false, false, false, false, false, false, false, false, false, false, false, false] rfl rfl (by kernel_rfl) (fun _ _ _ h => h) (Or.inl ⟨by rfl, ?_⟩) ?_ ?_
            rotate_left
            · intro w'
              go_simp
              with_reducible rfl
            rotate_left
            · simp only [Act.put, List.setIfInBounds_toArray, List.set_cons_zero, List.set_cons_succ, i64_w, i32_w]
              rfl
            refine pure_ (i := 1) (N := some 113) (v := ?_) (a' := ?_) #[true, true, false, false, false, false, false, false, false, false, false, false, false, false, false, false, false, false, false, false, false, false, false, false, false, false, false, false, false, false, false, false, false, false, false, false, false, false, false, false, false, false] rfl rfl (by kernel_rfl) (fun _ _ _ h => h) (Or.inl ⟨by rfl, ?_⟩) ?_ ?_
            rotate_left
            · intro w'
              go_simp
              with_reducible rfl
            rotate_left
            · simp only [Act.put, List.setIfInBounds_toArray, List.set_cons_zero, List.set_cons_succ, i64_w, i32_w]
              rfl
            refine take_ (i := 2) (N := some 114) (v := ?_) (a' := ?_) #[true, true, true, false, false, false, false, false, false, false, false, false, false, false, false, false, false, false, false, false, false, false, false, false, false, false, false, false, false, false, false, false, false, false, false, false, false, false, false, false, false, false] rfl rfl (by kernel_rfl) (fun _ _ _ h => h) (Or.inl ⟨by rfl, ?_⟩) hHeld ?_ ?_
            rotate_left
            · rintro w' ⟨s0, s1, s2, s3⟩
              go_simp
              with_reducible rfl
            rotate_left
            · simp only [Act.put, List.setIfInBounds_toArray, List.set_cons_zero, List.set_cons_succ, i64_w, i32_w]
              rfl
            refine pure_ (i := 3) (N := some 115) (v := ?_) (a' := ?_) #[true, true, true, true, false, false, false, false, false, false, false, false, false, false, false, false, false, false, false, false, false, false, false, false, false, false, false, false, false, false, false, false, false, false, false, false, false, false, false, false, false, false] rfl rfl (by kernel_rfl) (fun _ _ _ h => h) (Or.inl ⟨by rfl, ?_⟩) ?_ ?_
            rotate_left
            · intro w'
              go_simp
              with_reducible rfl
            rotate_left
            · simp only [Act.put, List.setIfInBounds_toArray, List.set_cons_zero, List.set_cons_succ, i64_w, i32_w]
              rfl
            refine pure_ (i := 4) (N := some 116) (v := ?_) (a' := ?_) #[true, true, true, true, true, false, false, false, false, false, false, false, false, false, false, false, false, false, false, false, false, false, false, false, false, false, false, false, false, false, false, false, false, false, false, false, false, false, false, false, false, false] rfl rfl (by kernel_rfl) (fun _ _ _ h => h) (Or.inl ⟨by rfl, ?_⟩) ?_ ?_
            rotate_left
            · intro w'
              go_simp
              with_reducible rfl
            rotate_left
            · simp only [Act.put, List.setIfInBounds_toArray, List.set_cons_zero, List.set_cons_succ, i64_w, i32_w]
              rfl
            refine pure_ (i := 5) (N := some 117) (v := ?_) (a' := ?_) #[true, true, true, true, true, true, false, false, false, false, false, false, false, false, false, false, false, false, false, false, false, false, false, false, false, false, false, false, false, false, false, false, false, false, false, false, false, false, false, false, false, false] rfl rfl (by kernel_rfl) (fun _ _ _ h => h) (Or.inl ⟨by rfl, ?_⟩) ?_ ?_
            rotate_left
            · intro w'
              go_simp
              with_reducible rfl
            rotate_left
            · simp only [Act.put, List.setIfInBounds_toArray, List.set_cons_zero, List.set_cons_succ, i64_w, i32_w]
              rfl
            refine pure_ (i := 6) (N := some 118) (v := ?_) (a' := ?_) #[true, true, true, true, true, true, true, false, false, false, false, false, false, false, false, false, false, false, false, false, false, false, false, false, false, false, false, false, false, false, false, false, false, false, false, false, false, false, false, false, false, false] rfl rfl (by kernel_rfl) (fun _ _ _ h => h) (Or.inl ⟨by rfl, ?_⟩) ?_ ?_
            rotate_left
            · intro w'
              go_simp
              with_reducible rfl
            rotate_left
            · simp only [Act.put, List.setIfInBounds_toArray, List.set_cons_zero, List.set_cons_succ, i64_w, i32_w]
              rfl
            refine pure_ (i := 8) (N := some 120) (v := ?_) (a' := ?_) #[true, true, true, true, true, true, true, false, true, false, false, false, false, false, false, false, false, false, false, false, false, false, false, false, false, false, false, false, false, false, false, false, false, false, false, false, false, false, false, false, false, false] rfl rfl (by kernel_rfl) (fun _ _ _ h => h) (Or.inl ⟨by rfl, ?_⟩) ?_ ?_
            rotate_left
            · intro w'
              go_simp
              with_reducible rfl
            rotate_left
            · simp only [Act.put, List.setIfInBounds_toArray, List.set_cons_zero, List.set_cons_succ, i64_w, i32_w]
              rfl
            refine pure_ (i := 11) (N := some 123) (v := ?_) (a' := ?_) #[true, true, true, true, true, true, true, false, true, false, false, true, false, false, false, false, false, false, false, false, false, false, false, false, false, false, false, false, false, false, false, false, false, false, false, false, false, false, false, false, false, false] rfl rfl (by kernel_rfl) (fun _ _ _ h => h) (Or.inl ⟨by rfl, ?_⟩) ?_ ?_
            rotate_left
            · intro w'
              go_simp
              with_reducible rfl
            rotate_left
            · simp only [Act.put, List.setIfInBounds_toArray, List.set_cons_zero, List.set_cons_succ, i64_w, i32_w]
              rfl
            refine pure_ (i := 13) (N := some 125) (v := ?_) (a' := ?_) #[true, true, true, true, true, true, true, false, true, false, false, true, false, true, false, false, false, false, false, false, false, false, false, false, false, false, false, false, false, false, false, false, false, false, false, false, false, false, false, false, false, false] rfl rfl (by kernel_rfl) (fun _ _ _ h => h) (Or.inl ⟨by rfl, ?_⟩) ?_ ?_
            rotate_left
            · intro w'
              go_simp
              with_reducible rfl
            rotate_left
            · simp only [Act.put, List.setIfInBounds_toArray, List.set_cons_zero, List.set_cons_succ, i64_w, i32_w]
              rfl
            refine take_ (i := 7) (N := some 119) (v := ?_) (a' := ?_) #[true, true, true, true, true, true, true, true, true, false, false, true, false, true, false, false, false, false, false, false, false, false, false, false, false, false, false, false, false, false, false, false, false, false, false, false, false, false, false, false, false, false] rfl rfl (by kernel_rfl) (fun _ _ _ h => h) (Or.inl ⟨by rfl, ?_⟩) hHeld ?_ ?_
            rotate_left
            · rintro w' ⟨s0, s1, s2, s3⟩
              go_simp
              with_reducible rfl
            rotate_left
            · simp only [Act.put, List.setIfInBounds_toArray, List.set_cons_zero, List.set_cons_succ, i64_w, i32_w]
              rfl
            refine pure_ (i := 9) (N := some 121) (v := ?_) (a' := ?_) #[true, true, true, true, true, true, true, true, true, true, false, true, false, true, false, false, false, false, false, false, false, false, false, false, false, false, false, false, false, false, false, false, false, false, false, false, false, false, false, false, false, false] rfl rfl (by kernel_rfl) (fun _ _ _ h => h) (Or.inl ⟨by rfl, ?_⟩) ?_ ?_
            rotate_left
            · intro w'
              go_simp
              with_reducible rfl
            rotate_left
            · simp only [Act.put, List.setIfInBounds_toArray, List.set_cons_zero, List.set_cons_succ, i64_w, i32_w]
              rfl
            refine take_ (i := 10) (N := some 122) (v := ?_) (a' := ?_) #[true, true, true, true, true, true, true, true, true, true, true, true, false, true, false, false, false, false, false, false, false, false, false, false, false, false, false, false, false, false, false, false, false, false, false, false, false, false, false, false, false, false] rfl rfl (by kernel_rfl) (fun _ _ _ h => h) (Or.inl ⟨by rfl, ?_⟩) hHeld ?_ ?_
            rotate_left
            · rintro w' ⟨s0, s1, s2, s3⟩
              go_simp
              with_reducible rfl
            rotate_left
            · simp only [Act.put, List.setIfInBounds_toArray, List.set_cons_zero, List.set_cons_succ, i64_w, i32_w]
              rfl
            refine take_ (i := 12) (N := some 124) (v := ?_) (a' := ?_) #[true, true, true, true, true, true, true, true, true, true, true, true, true, true, false, false, false, false, false, false, false, false, false, false, false, false, false, false, false, false, false, false, false, false, false, false, false, false, false, false, false, false] rfl rfl (by kernel_rfl) (fun _ _ _ h => h) (Or.inl ⟨by rfl, ?_⟩) hHeld ?_ ?_
            rotate_left
            · rintro w' ⟨s0, s1, s2, s3⟩
              go_simp
              with_reducible rfl
            rotate_left
            · simp only [Act.put, List.setIfInBounds_toArray, List.set_cons_zero, List.set_cons_succ, i64_w, i32_w]
              rfl
            refine pure_ (i := 14) (N := some 126) (v := ?_) (a' := ?_) #[true, true, true, true, true, true, true, true, true, true, true, true, true, true, true, false, false, false, false, false, false, false, false, false, false, false, false, false, false, false, false, false, false, false, false, false, false, false, false, false, false, false] rfl rfl (by kernel_rfl) (fun _ _ _ h => h) (Or.inl ⟨by rfl, ?_⟩) ?_ ?_
            rotate_left
            · intro w'
              go_simp
              with_reducible rfl
            rotate_left
            · simp only [Act.put, List.setIfInBounds_toArray, List.set_cons_zero, List.set_cons_succ, i64_w, i32_w]
              rfl
            refine take_ (i := 15) (N := some 127) (v := ?_) (a' := ?_) #[true, true, true, true, true, true, true, true, true, true, true, true, true, true, true, true, false, false, false, false, false, false, false, false, false, false, false, false, false, false, false, false, false, false, false, false, false, false, false, false, false, false] rfl rfl (by kernel_rfl) (fun _ _ _ h => h) (Or.inl ⟨by rfl, ?_⟩) hHeld ?_ ?_
            rotate_left
            · rintro w' ⟨s0, s1, s2, s3⟩
              go_simp
              with_reducible rfl
            rotate_left
            · simp only [Act.put, List.setIfInBounds_toArray, List.set_cons_zero, List.set_cons_succ, i64_w, i32_w]
              rfl
            refine pure_ (i := 16) (N := some 128) (v := ?_) (a' := ?_) #[true, true, true, true, true, true, true, true, true, true, true, true, true, true, true, true, true, false, false, false, false, false, false, false, false, false, false, false, false, false, false, false, false, false, false, false, false, false, false, false, false, false] rfl rfl (by kernel_rfl) (fun _ _ _ h => h) (Or.inl ⟨by rfl, ?_⟩) ?_ ?_
            rotate_left
            · intro w'
              go_simp
              with_reducible rfl
            rotate_left
            · simp only [Act.put, List.setIfInBounds_toArray, List.set_cons_zero, List.set_cons_succ, i64_w, i32_w]
              rfl
            refine pure_ (i := 17) (N := some 129) (v := ?_) (a' := ?_) #[true, true, true, true, true, true, true, true, true, true, true, true, true, true, true, true, true, true, false, false, false, false, false, false, false, false, false, false, false, false, false, false, false, false, false, false, false, false, false, false, false, false] rfl rfl (by kernel_rfl) (fun _ _ _ h => h) (Or.inl ⟨by rfl, ?_⟩) ?_ ?_
            rotate_left
            · intro w'
              go_simp
              with_reducible rfl
            rotate_left
            · simp only [Act.put, List.setIfInBounds_toArray, List.set_cons_zero, List.set_cons_succ, i64_w, i32_w]
              rfl
            refine pure_ (i := 18) (N := some 130) (v := ?_) (a' := ?_) #[true, true, true, true, true, true, true, true, true, true, true, true, true, true, true, true, true, true, true, false, false, false, false, false, false, false, false, false, false, false, false, false, false, false, false, false, false, false, false, false, false, false] rfl rfl (by kernel_rfl) (fun _ _ _ h => h) (Or.inl ⟨by rfl, ?_⟩) ?_ ?_
            rotate_left
            · intro w'
              go_simp
              with_reducible rfl
            rotate_left
            · simp only [Act.put, List.setIfInBounds_toArray, List.set_cons_zero, List.set_cons_succ, i64_w, i32_w]
              rfl
            refine pure_ (i := 19) (N := some 131) (v := ?_) (a' := ?_) #[true, true, true, true, true, true, true, true, true, true, true, true, true, true, true, true, true, true, true, true, false, false, false, false, false, false, false, false, false, false, false, false, false, false, false, false, false, false, false, false, false, false] rfl rfl (by kernel_rfl) (fun _ _ _ h => h) (Or.inl ⟨by rfl, ?_⟩) ?_ ?_
            rotate_left
            · intro w'
              go_simp
              with_reducible rfl
            rotate_left
            · simp only [Act.put, List.setIfInBounds_toArray, List.set_cons_zero, List.set_cons_succ, i64_w, i32_w]
              rfl
            refine pure_ (i := 20) (N := some 132) (v := ?_) (a' := ?_) #[true, true, true, true, true, true, true, true, true, true, true, true, true, true, true, true, true, true, true, true, true, false, false, false, false, false, false, false, false, false, false, false, false, false, false, false, false, false, false, false, false, false] rfl rfl (by kernel_rfl) (fun _ _ _ h => h) (Or.inl ⟨by rfl, ?_⟩) ?_ ?_
            rotate_left
            · intro w'
              go_simp
              with_reducible rfl
            rotate_left
            · simp only [Act.put, List.setIfInBounds_toArray, List.set_cons_zero, List.set_cons_succ, i64_w, i32_w]
              rfl
            refine take_ (i := 21) (N := some 133) (v := ?_) (a' := ?_) #[true, true, true, true, true, true, true, true, true, true, true, true, true, true, true, true, true, true, true, true, true, true, false, false, false, false, false, false, false, false, false, false, false, false, false, false, false, false, false, false, false, false] rfl rfl (by kernel_rfl) (fun _ _ _ h => h) (Or.inl ⟨by rfl, ?_⟩) hHeld ?_ ?_
            rotate_left
            · rintro w' ⟨s0, s1, s2, s3⟩
              go_simp
              with_reducible rfl
            rotate_left
            · simp only [Act.put, List.setIfInBounds_toArray, List.set_cons_zero, List.set_cons_succ, i64_w, i32_w]
              rfl
            refine pure_ (i := 22) (N := some 134) (v := ?_) (a' := ?_) #[true, true, true, true, true, true, true, true, true, true, true, true, true, true, true, true, true, true, true, true, true, true, true, false, false, false, false, false, false, false, false, false, false, false, false, false, false, false, false, false, false, false] rfl rfl (by kernel_rfl) (fun _ _ _ h => h) (Or.inl ⟨by rfl, ?_⟩) ?_ ?_
            rotate_left
            · intro w'
              go_simp
              with_reducible rfl
            rotate_left
            · simp only [Act.put, List.setIfInBounds_toArray, List.set_cons_zero, List.set_cons_succ, i64_w, i32_w]
              rfl
            refine pure_ (i := 23) (N := some 135) (v := ?_) (a' := ?_) #[true, true, true, true, true, true, true, true, true, true, true, true, true, true, true, true, true, true, true, true, true, true, true, true, false, false, false, false, false, false, false, false, false, false, false, false, false, false, false, false, false, false] rfl rfl (by kernel_rfl) (fun _ _ _ h => h) (Or.inl ⟨by rfl, ?_⟩) ?_ ?_
            rotate_left
            · intro w'
              go_simp
              with_reducible rfl
            rotate_left
            · simp only [Act.put, List.setIfInBounds_toArray, List.set_cons_zero, List.set_cons_succ, i64_w, i32_w]
              rfl
            refine pure_ (i := 24) (N := some 136) (v := ?_) (a' := ?_) #[true, true, true, true, true, true, true, true, true, true, true, true, true, true, true, true, true, true, true, true, true, true, true, true, true, false, false, false, false, false, false, false, false, false, false, false, false, false, false, false, false, false] rfl rfl (by kernel_rfl) (fun _ _ _ h => h) (Or.inl ⟨by rfl, ?_⟩) ?_ ?_
            rotate_left
            · intro w'
              go_simp
              with_reducible rfl
            rotate_left
            · simp only [Act.put, List.setIfInBounds_toArray, List.set_cons_zero, List.set_cons_succ, i64_w, i32_w]
              rfl
            refine pure_ (i := 25) (N := some 137) (v := undef) (a' := ?_) #[true, true, true, true, true, true, true, true, true, true, true, true, true, true, true, true, true, true, true, true, true, true, true, true, true, true, false, false, false, false, false, false, false, false, false, false, false, false, false, false, false, false] rfl rfl (by kernel_rfl) (fun _ _ _ h => h) (Or.inr ⟨by rfl, rfl⟩) ?_ ?_
            rotate_left
            · simp only [Act.put, List.setIfInBounds_toArray, List.set_cons_zero, List.set_cons_succ, i64_w, i32_w]
              rfl
            refine pure_ (i := 26) (N := some 138) (v := undef) (a' := ?_) #[true, true, true, true, true, true, true, true, true, true, true, true, true, true, true, true, true, true, true, true, true, true, true, true, true, true, true, false, false, false, false, false, false, false, false, false, false, false, false, false, false, false] rfl rfl (by kernel_rfl) (fun _ _ _ h => h) (Or.inr ⟨by rfl, rfl⟩) ?_ ?_
            rotate_left
            · simp only [Act.put, List.setIfInBounds_toArray, List.set_cons_zero, List.set_cons_succ, i64_w, i32_w]
              rfl
            refine pure_ (i := 27) (N := some 139) (v := undef) (a' := ?_) #[true, true, true, true, true, true, true, true, true, true, true, true, true, true, true, true, true, true, true, true, true, true, true, true, true, true, true, true, false, false, false, false, false, false, false, false, false, false, false, false, false, false] rfl rfl (by kernel_rfl) (fun _ _ _ h => h) (Or.inr ⟨by rfl, rfl⟩) ?_ ?_
            rotate_left
            · simp only [Act.put, List.setIfInBounds_toArray, List.set_cons_zero, List.set_cons_succ, i64_w, i32_w]
              rfl
            refine pure_ (i := 28) (N := some 140) (v := undef) (a' := ?_) #[true, true, true, true, true, true, true, true, true, true, true, true, true, true, true, true, true, true, true, true, true, true, true, true, true, true, true, true, true, false, false, false, false, false, false, false, false, false, false, false, false, false] rfl rfl (by kernel_rfl) (fun _ _ _ h => h) (Or.inr ⟨by rfl, rfl⟩) ?_ ?_
            rotate_left
            · simp only [Act.put, List.setIfInBounds_toArray, List.set_cons_zero, List.set_cons_succ, i64_w, i32_w]
              rfl
            refine pure_ (i := 29) (N := some 141) (v := undef) (a' := ?_) #[true, true, true, true, true, true, true, true, true, true, true, true, true, true, true, true, true, true, true, true, true, true, true, true, true, true, true, true, true, true, false, false, false, false, false, false, false, false, false, false, false, false] rfl rfl (by kernel_rfl) (fun _ _ _ h => h) (Or.inr ⟨by rfl, rfl⟩) ?_ ?_
            rotate_left
            · simp only [Act.put, List.setIfInBounds_toArray, List.set_cons_zero, List.set_cons_succ, i64_w, i32_w]
              rfl
            refine pure_ (i := 30) (N := some 142) (v := undef) (a' := ?_) #[true, true, true, true, true, true, true, true, true, true, true, true, true, true, true, true, true, true, true, true, true, true, true, true, true, true, true, true, true, true, true, false, false, false, false, false, false, false, false, false, false, false] rfl rfl (by kernel_rfl) (fun _ _ _ h => h) (Or.inr ⟨by rfl, rfl⟩) ?_ ?_
            rotate_left
            · simp only [Act.put, List.setIfInBounds_toArray, List.set_cons_zero, List.set_cons_succ, i64_w, i32_w]
              rfl
            refine pure_ (i := 31) (N := some 143) (v := undef) (a' := ?_) #[true, true, true, true, true, true, true, true, true, true, true, true, true, true, true, true, true, true, true, true, true, true, true, true, true, true, true, true, true, true, true, true, false, false, false, false, false, false, false, false, false, false] rfl rfl (by kernel_rfl) (fun _ _ _ h => h) (Or.inr ⟨by rfl, rfl⟩) ?_ ?_
            rotate_left
            · simp only [Act.put, List.setIfInBounds_toArray, List.set_cons_zero, List.set_cons_succ, i64_w, i32_w]
              rfl
            refine pure_ (i := 32) (N := some 144) (v := undef) (a' := ?_) #[true, true, true, true, true, true, true, true, true, true, true, true, true, true, true, true, true, true, true, true, true, true, true, true, true, true, true, true, true, true, true, true, true, false, false, false, false, false, false, false, false, false] rfl rfl (by kernel_rfl) (fun _ _ _ h => h) (Or.inr ⟨by rfl, rfl⟩) ?_ ?_
            rotate_left
            · simp only [Act.put, List.setIfInBounds_toArray, List.set_cons_zero, List.set_cons_succ, i64_w, i32_w]
              rfl
            refine pure_ (i := 33) (N := some 145) (v := undef) (a' := ?_) #[true, true, true, true, true, true, true, true, true, true, true, true, true, true, true, true, true, true, true, true, true, true, true, true, true, true, true, true, true, true, true, true, true, true, false, false, false, false, false, false, false, false] rfl rfl (by kernel_rfl) (fun _ _ _ h => h) (Or.inr ⟨by rfl, rfl⟩) ?_ ?_
            rotate_left
            · simp only [Act.put, List.setIfInBounds_toArray, List.set_cons_zero, List.set_cons_succ, i64_w, i32_w]
              rfl
            refine pure_ (i := 34) (N := some 146) (v := undef) (a' := ?_) #[true, true, true, true, true, true, true, true, true, true, true, true, true, true, true, true, true, true, true, true, true, true, true, true, true, true, true, true, true, true, true, true, true, true, true, false, false, false, false, false, false, false] rfl rfl (by kernel_rfl) (fun _ _ _ h => h) (Or.inr ⟨by rfl, rfl⟩) ?_ ?_
            rotate_left
            · simp only [Act.put, List.setIfInBounds_toArray, List.set_cons_zero, List.set_cons_succ, i64_w, i32_w]
              rfl
            refine pure_ (i := 35) (N := some 147) (v := undef) (a' := ?_) #[true, true, true, true, true, true, true, true, true, true, true, true, true, true, true, true, true, true, true, true, true, true, true, true, true, true, true, true, true, true, true, true, true, true, true, true, false, false, false, false, false, false] rfl rfl (by kernel_rfl) (fun _ _ _ h => h) (Or.inr ⟨by rfl, rfl⟩) ?_ ?_
            rotate_left
            · simp only [Act.put, List.setIfInBounds_toArray, List.set_cons_zero, List.set_cons_succ, i64_w, i32_w]
              rfl
            refine pure_ (i := 36) (N := some 148) (v := undef) (a' := ?_) #[true, true, true, true, true, true, true, true, true, true, true, true, true, true, true, true, true, true, true, true, true, true, true, true, true, true, true, true, true, true, true, true, true, true, true, true, true, false, false, false, false, false] rfl rfl (by kernel_rfl) (fun _ _ _ h => h) (Or.inr ⟨by rfl, rfl⟩) ?_ ?_
            rotate_left
            · simp only [Act.put, List.setIfInBounds_toArray, List.set_cons_zero, List.set_cons_succ, i64_w, i32_w]
              rfl
            refine pure_ (i := 37) (N := some 149) (v := undef) (a' := ?_) #[true, true, true, true, true, true, true, true, true, true, true, true, true, true, true, true, true, true, true, true, true, true, true, true, true, true, true, true, true, true, true, true, true, true, true, true, true, true, false, false, false, false] rfl rfl (by kernel_rfl) (fun _ _ _ h => h) (Or.inr ⟨by rfl, rfl⟩) ?_ ?_
            rotate_left
            · simp only [Act.put, List.setIfInBounds_toArray, List.set_cons_zero, List.set_cons_succ, i64_w, i32_w]
              rfl
            refine pure_ (i := 38) (N := some 150) (v := undef) (a' := ?_) #[true, true, true, true, true, true, true, true, true, true, true, true, true, true, true, true, true, true, true, true, true, true, true, true, true, true, true, true, true, true, true, true, true, true, true, true, true, true, true, false, false, false] rfl rfl (by kernel_rfl) (fun _ _ _ h => h) (Or.inr ⟨by rfl, rfl⟩) ?_ ?_
            rotate_left
            · simp only [Act.put, List.setIfInBounds_toArray, List.set_cons_zero, List.set_cons_succ, i64_w, i32_w]
              rfl
            refine pure_ (i := 39) (N := some 151) (v := undef) (a' := ?_) #[true, true, true, true, true, true, true, true, true, true, true, true, true, true, true, true, true, true, true, true, true, true, true, true, true, true, true, true, true, true, true, true, true, true, true, true, true, true, true, true, false, false] rfl rfl (by kernel_rfl) (fun _ _ _ h => h) (Or.inr ⟨by rfl, rfl⟩) ?_ ?_
            rotate_left
            · simp only [Act.put, List.setIfInBounds_toArray, List.set_cons_zero, List.set_cons_succ, i64_w, i32_w]
              rfl
            refine pure_ (i := 40) (N := some 152) (v := ?_) (a' := ?_) #[true, true, true, true, true, true, true, true, true, true, true, true, true, true, true, true, true, true, true, true, true, true, true, true, true, true, true, true, true, true, true, true, true, true, true, true, true, true, true, true, true, false] rfl rfl (by kernel_rfl) (fun _ _ _ h => h) (Or.inl ⟨by rfl, ?_⟩) ?_ ?_
            rotate_left
            · intro w'
              go_simp
              with_reducible rfl
            rotate_left
            · simp only [Act.put, List.setIfInBounds_toArray, List.set_cons_zero, List.set_cons_succ, i64_w, i32_w]
              rfl
            refine pure_ (i := 41) (N := some 153) (v := ?_) (a' := ?_) #[true, true, true, true, true, true, true, true, true, true, true, true, true, true, true, true, true, true, true, true, true, true, true, true, true, true, true, true, true, true, true, true, true, true, true, true, true, true, true, true, true, true] rfl rfl (by kernel_rfl) (fun _ _ _ h => h) (Or.inl ⟨by rfl, ?_⟩) ?_ ?_
            rotate_left
            · intro w'
              go_simp
              with_reducible rfl
            rotate_left
            · simp only [Act.put, List.setIfInBounds_toArray, List.set_cons_zero, List.set_cons_succ, i64_w, i32_w]
              rfl
            refine done_ (by kernel_rfl) ?_
            go_wp2_with fail
            go_roundg ko
            case rel => exact ⟨j + 1, by first | rfl | rw [wi], ⟨by have := HJ.out; have := q1.out; omega⟩, ⟨below_drew B1900.out⟩, ⟨blk_drew R_1900.out⟩⟩
            case measure => exact Nat.lt_succ_self _
          · have t1 : decide (j < (l6.length : Int)) = false := decide_eq_false hk
            have t3 : decide ((l6.length : Int) ≤ j) = true := decide_eq_true (by omega)
            have t4 := eq_true (show (l6.length : Int) ≤ j by omega)
            have ws : wrap64 (j - (l6.length : Int)) = j - (l6.length : Int) := by have := q1.out; have := HR2.out; unfold wrap64; omega
            have hm0 : (l5.length : Int) ≠ 0 := fun h0 => by have h1 := HR1.out; rw [h0, Int.mul_zero] at h1; have := q1.out; omega
            have nz := eq_false hm0
            have nz2 : (l5 = []) = False := eq_false (fun h0 => hm0 (by rw [h0]; rfl))
            have e5 : rr.getD j.toNat 0 = Int.tmod (j - (l6.length : Int)) (l5.length : Int) := by rw [HR4.out j.toNat (by omega) (by have := q1.out; omega), tmod_nat _ _ (by omega) (by omega)]; congr 2; omega
            rw [e5] at hy0
            have wt : wrap64 (Int.tmod (j - (l6.length : Int)) (l5.length : Int)) = Int.tmod (j - (l6.length : Int)) (l5.length : Int) := by rw [tmod_nat _ _ (by omega) (by omega)]; have := Nat.mod_le (j - (l6.length : Int)).toNat (l5.length : Int).toNat; have := q1.out; have := HR2.out; unfold wrap64; omega
            have dy : wr.cell? (ay.add j.toNat) = some (.int .i64 (Int.tmod (j - (l6.length : Int)) (l5.length : Int))) := (B1900.out.cell (World.block_lt_of_cell? w6 _ hy0)).trans hy0
            clear hy0 e5 hm0
            have te : (Int.tmod (j - (l6.length : Int)) (l5.length : Int) != Int.tmod (j - (l6.length : Int)) (l5.length : Int)) = false := by simp
            replace hk := eq_false hk
            go_wp2_with fail
            refine start_ (n := 42) (S := fun w' => w'.cell? ⟨w6.heap.size, 6, none⟩ = some (.slice (some ay) rr.length ca) ∧ w'.cell? ⟨w.heap.size, 6, none⟩ = some (.slice A6 l6.length c6) ∧ w'.cell? ⟨w.heap.size, 5, none⟩ = some (.slice A5 l5.length c5) ∧ w'.cell? (ay.add j.toNat) = some (.int .i64 (Int.tmod (j - (l6.length : Int)) (l5.length : Int)))) (ds := []) #[false, false, false, false, false, false, false, false, false, false, false, false, false, false, false, false, false, false, false, false, false, false, false, false, false, false, false, false, false, false, false, false, false, false, false, false, false, false, false, false, false, false] (by kernel_rfl) rfl rfl ⟨(blk_cell (blk_drew R_1900.out) 6).trans rfl, (blk_cell (blk_drew (blk_below S_906.out B1900.out)) 6).trans rfl, (blk_cell (blk_drew (blk_below S_906.out B1900.out)) 5).trans rfl, dy⟩ (fun hHeld => ?_)
            refine pure_ (i := 0) (N := some 112) (v := ?_) (a' := ?_) #[true, false, false, false, false, false, false, false, false, false, false, false, false, false, false, false, false, false, false, false, false, false, false, false, false, false, false, false, false, false, false, false, false, false, false, false, false, false, false, false, false, false] rfl rfl (by kernel_rfl) (fun _ _ _ h => h) (Or.inl ⟨by rfl, ?_⟩) ?_ ?_
            rotate_left
            · intro w'
              go_simp
              with_reducible rfl
            rotate_left
            · simp only [Act.put, List.setIfInBounds_toArray, List.set_cons_zero, List.set_cons_succ, i64_w, i32_w]
              rfl
            refine pure_ (i := 1) (N := some 113) (v := ?_) (a' := ?_) #[true, true, false, false, false, false, false, false, false, false, false, false, false, false, false, false, false, false, false, false, false, false, false, false, false, false, false, false, false, false, false, false, false, false, false, false, false, false, false, false, false, false] rfl rfl (by kernel_rfl) (fun _ _ _ h => h) (Or.inl ⟨by rfl, ?_⟩) ?_ ?_
            rotate_left
            · intro w'
              go_simp
              with_reducible rfl
            rotate_left
            · simp only [Act.put, List.setIfInBounds_toArray, List.set_cons_zero, List.set_cons_succ, i64_w, i32_w]
              rfl
            refine take_ (i := 2) (N := some 114) (v := ?_) (a' := ?_) #[true, true, true, false, false, false, false, false, false, false, false, false, false, false, false, false, false, false, false, false, false, false, false, false, false, false, false, false, false, false, false, false, false, false, false, false, false, false, false, false, false, false] rfl rfl (by kernel_rfl) (fun _ _ _ h => h) (Or.inl ⟨by rfl, ?_⟩) hHeld ?_ ?_
            rotate_left
            · rintro w' ⟨s0, s1, s2, s3⟩
              go_simp
              with_reducible rfl
            rotate_left
            · simp only [Act.put, List.setIfInBounds_toArray, List.set_cons_zero, List.set_cons_succ, i64_w, i32_w]
              rfl
            refine pure_ (i := 3) (N := some 115) (v := ?_) (a' := ?_) #[true, true, true, true, false, false, false, false, false, false, false, false, false, false, false, false, false, false, false, false, false, false, false, false, false, false, false, false, false, false, false, false, false, false, false, false, false, false, false, false, false, false] rfl rfl (by kernel_rfl) (fun _ _ _ h => h) (Or.inl ⟨by rfl, ?_⟩) ?_ ?_
            rotate_left
            · intro w'
              go_simp
              with_reducible rfl
            rotate_left
            · simp only [Act.put, List.setIfInBounds_toArray, List.set_cons_zero, List.set_cons_succ, i64_w, i32_w]
              rfl
            refine pure_ (i := 4) (N := some 116) (v := ?_) (a' := ?_) #[true, true, true, true, true, false, false, false, false, false, false, false, false, false, false, false, false, false, false, false, false, false, false, false, false, false, false, false, false, false, false, false, false, false, false, false, false, false, false, false, false, false] rfl rfl (by kernel_rfl) (fun _ _ _ h => h) (Or.inl ⟨by rfl, ?_⟩) ?_ ?_
            rotate_left
            · intro w'
              go_simp
              with_reducible rfl
            rotate_left
            · simp only [Act.put, List.setIfInBounds_toArray, List.set_cons_zero, List.set_cons_succ, i64_w, i32_w]
              rfl
            refine pure_ (i := 5) (N := some 117) (v := ?_) (a' := ?_) #[true, true, true, true, true, true, false, false, false, false, false, false, false, false, false, false, false, false, false, false, false, false, false, false, false, false, false, false, false, false, false, false, false, false, false, false, false, false, false, false, false, false] rfl rfl (by kernel_rfl) (fun _ _ _ h => h) (Or.inl ⟨by rfl, ?_⟩) ?_ ?_
            rotate_left
            · intro w'
              go_simp
              with_reducible rfl
            rotate_left
            · simp only [Act.put, List.setIfInBounds_toArray, List.set_cons_zero, List.set_cons_succ, i64_w, i32_w]
              rfl
            refine pure_ (i := 6) (N := some 118) (v := undef) (a' := ?_) #[true, true, true, true, true, true, true, false, false, false, false, false, false, false, false, false, false, false, false, false, false, false, false, false, false, false, false, false, false, false, false, false, false, false, false, false, false, false, false, false, false, false] rfl rfl (by kernel_rfl) (fun _ _ _ h => h) (Or.inr ⟨by rfl, rfl⟩) ?_ ?_
            rotate_left
            · simp only [Act.put, List.setIfInBounds_toArray, List.set_cons_zero, List.set_cons_succ, i64_w, i32_w]
              rfl
            refine pure_ (i := 7) (N := some 119) (v := undef) (a' := ?_) #[true, true, true, true, true, true, true, true, false, false, false, false, false, false, false, false, false, false, false, false, false, false, false, false, false, false, false, false, false, false, false, false, false, false, false, false, false, false, false, false, false, false] rfl rfl (by kernel_rfl) (fun _ _ _ h => h) (Or.inr ⟨by rfl, rfl⟩) ?_ ?_
            rotate_left
            · simp only [Act.put, List.setIfInBounds_toArray, List.set_cons_zero, List.set_cons_succ, i64_w, i32_w]
              rfl
            refine pure_ (i := 8) (N := some 120) (v := undef) (a' := ?_) #[true, true, true, true, true, true, true, true, true, false, false, false, false, false, false, false, false, false, false, false, false, false, false, false, false, false, false, false, false, false, false, false, false, false, false, false, false, false, false, false, false, false] rfl rfl (by kernel_rfl) (fun _ _ _ h => h) (Or.inr ⟨by rfl, rfl⟩) ?_ ?_
            rotate_left
            · simp only [Act.put, List.setIfInBounds_toArray, List.set_cons_zero, List.set_cons_succ, i64_w, i32_w]
              rfl
            refine pure_ (i := 9) (N := some 121) (v := undef) (a' := ?_) #[true, true, true, true, true, true, true, true, true, true, false, false, false, false, false, false, false, false, false, false, false, false, false, false, false, false, false, false, false, false, false, false, false, false, false, false, false, false, false, false, false, false] rfl rfl (by kernel_rfl) (fun _ _ _ h => h) (Or.inr ⟨by rfl, rfl⟩) ?_ ?_
            rotate_left
            · simp only [Act.put, List.setIfInBounds_toArray, List.set_cons_zero, List.set_cons_succ, i64_w, i32_w]
              rfl
            refine pure_ (i := 10) (N := some 122) (v := undef) (a' := ?_) #[true, true, true, true, true, true, true, true, true, true, true, false, false, false, false, false, false, false, false, false, false, false, false, false, false, false, false, false, false, false, false, false, false, false, false, false, false, false, false, false, false, false] rfl rfl (by kernel_rfl) (fun _ _ _ h => h) (Or.inr ⟨by rfl, rfl⟩) ?_ ?_
            rotate_left
            · simp only [Act.put, List.setIfInBounds_toArray, List.set_cons_zero, List.set_cons_succ, i64_w, i32_w]
              rfl
            refine pure_ (i := 11) (N := some 123) (v := undef) (a' := ?_) #[true, true, true, true, true, true, true, true, true, true, true, true, false, false, false, false, false, false, false, false, false, false, false, false, false, false, false, false, false, false, false, false, false, false, false, false, false, false, false, false, false, false] rfl rfl (by kernel_rfl) (fun _ _ _ h => h) (Or.inr ⟨by rfl, rfl⟩) ?_ ?_
            rotate_left
            · simp only [Act.put, List.setIfInBounds_toArray, List.set_cons_zero, List.set_cons_succ, i64_w, i32_w]
              rfl
            refine pure_ (i := 12) (N := some 124) (v := undef) (a' := ?_) #[true, true, true, true, true, true, true, true, true, true, true, true, true, false, false, false, false, false, false, false, false, false, false, false, false, false, false, false, false, false, false, false, false, false, false, false, false, false, false, false, false, false] rfl rfl (by kernel_rfl) (fun _ _ _ h => h) (Or.inr ⟨by rfl, rfl⟩) ?_ ?_
            rotate_left
            · simp only [Act.put, List.setIfInBounds_toArray, List.set_cons_zero, List.set_cons_succ, i64_w, i32_w]
              rfl
            refine pure_ (i := 13) (N := some 125) (v := undef) (a' := ?_) #[true, true, true, true, true, true, true, true, true, true, true, true, true, true, false, false, false, false, false, false, false, false, false, false, false, false, false, false, false, false, false, false, false, false, false, false, false, false, false, false, false, false] rfl rfl (by kernel_rfl) (fun _ _ _ h => h) (Or.inr ⟨by rfl, rfl⟩) ?_ ?_
            rotate_left
            · simp only [Act.put, List.setIfInBounds_toArray, List.set_cons_zero, List.set_cons_succ, i64_w, i32_w]
              rfl
            refine pure_ (i := 14) (N := some 126) (v := undef) (a' := ?_) #[true, true, true, true, true, true, true, true, true, true, true, true, true, true, true, false, false, false, false, false, false, false, false, false, false, false, false, false, false, false, false, false, false, false, false, false, false, false, false, false, false, false] rfl rfl (by kernel_rfl) (fun _ _ _ h => h) (Or.inr ⟨by rfl, rfl⟩) ?_ ?_
            rotate_left
            · simp only [Act.put, List.setIfInBounds_toArray, List.set_cons_zero, List.set_cons_succ, i64_w, i32_w]
              rfl
            refine pure_ (i := 15) (N := some 127) (v := undef) (a' := ?_) #[true, true, true, true, true, true, true, true, true, true, true, true, true, true, true, true, false, false, false, false, false, false, false, false, false, false, false, false, false, false, false, false, false, false, false, false, false, false, false, false, false, false] rfl rfl (by kernel_rfl) (fun _ _ _ h => h) (Or.inr ⟨by rfl, rfl⟩) ?_ ?_
            rotate_left
            · simp only [Act.put, List.setIfInBounds_toArray, List.set_cons_zero, List.set_cons_succ, i64_w, i32_w]
              rfl
            refine pure_ (i := 16) (N := some 128) (v := undef) (a' := ?_) #[true, true, true, true, true, true, true, true, true, true, true, true, true, true, true, true, true, false, false, false, false, false, false, false, false, false, false, false, false, false, false, false, false, false, false, false, false, false, false, false, false, false] rfl rfl (by kernel_rfl) (fun _ _ _ h => h) (Or.inr ⟨by rfl, rfl⟩) ?_ ?_
            rotate_left
            · simp only [Act.put, List.setIfInBounds_toArray, List.set_cons_zero, List.set_cons_succ, i64_w, i32_w]
              rfl
            refine pure_ (i := 17) (N := some 129) (v := ?_) (a' := ?_) #[true, true, true, true, true, true, true, true, true, true, true, true, true, true, true, true, true, true, false, false, false, false, false, false, false, false, false, false, false, false, false, false, false, false, false, false, false, false, false, false, false, false] rfl rfl (by kernel_rfl) (fun _ _ _ h => h) (Or.inl ⟨by rfl, ?_⟩) ?_ ?_
            rotate_left
            · intro w'
              go_simp
              with_reducible rfl
            rotate_left
            · simp only [Act.put, List.setIfInBounds_toArray, List.set_cons_zero, List.set_cons_succ, i64_w, i32_w]
              rfl
            refine pure_ (i := 18) (N := some 130) (v := ?_) (a' := ?_) #[true, true, true, true, true, true, true, true, true, true, true, true, true, true, true, true, true, true, true, false, false, false, false, false, false, false, false, false, false, false, false, false, false, false, false, false, false, false, false, false, false, false] rfl rfl (by kernel_rfl) (fun _ _ _ h => h) (Or.inl ⟨by rfl, ?_⟩) ?_ ?_
            rotate_left
            · intro w'
              go_simp
              with_reducible rfl
            rotate_left
            · simp only [Act.put, List.setIfInBounds_toArray, List.set_cons_zero, List.set_cons_succ, i64_w, i32_w]
              rfl
            refine pure_ (i := 19) (N := some 131) (v := ?_) (a' := ?_) #[true, true, true, true, true, true, true, true, true, true, true, true, true, true, true, true, true, true, true, true, false, false, false, false, false, false, false, false, false, false, false, false, false, false, false, false, false, false, false, false, false, false] rfl rfl (by kernel_rfl) (fun _ _ _ h => h) (Or.inl ⟨by rfl, ?_⟩) ?_ ?_
            rotate_left
            · intro w'
              go_simp
              with_reducible rfl
            rotate_left
            · simp only [Act.put, List.setIfInBounds_toArray, List.set_cons_zero, List.set_cons_succ, i64_w, i32_w]
              rfl
            refine pure_ (i := 20) (N := some 132) (v := ?_) (a' := ?_) #[true, true, true, true, true, true, true, true, true, true, true, true, true, true, true, true, true, true, true, true, true, false, false, false, false, false, false, false, false, false, false, false, false, false, false, false, false, false, false, false, false, false] rfl rfl (by kernel_rfl) (fun _ _ _ h => h) (Or.inl ⟨by rfl, ?_⟩) ?_ ?_
            rotate_left
            · intro w'
              go_simp
              with_reducible rfl
            rotate_left
            · simp only [Act.put, List.setIfInBounds_toArray, List.set_cons_zero, List.set_cons_succ, i64_w, i32_w]
              rfl
            refine take_ (i := 21) (N := some 133) (v := ?_) (a' := ?_) #[true, true, true, true, true, true, true, true, true, true, true, true, true, true, true, true, true, true, true, true, true, true, false, false, false, false, false, false, false, false, false, false, false, false, false, false, false, false, false, false, false, false] rfl rfl (by kernel_rfl) (fun _ _ _ h => h) (Or.inl ⟨by rfl, ?_⟩) hHeld ?_ ?_
            rotate_left
            · rintro w' ⟨s0, s1, s2, s3⟩
              go_simp
              with_reducible rfl
            rotate_left
            · simp only [Act.put, List.setIfInBounds_toArray, List.set_cons_zero, List.set_cons_succ, i64_w, i32_w]
              rfl
            refine pure_ (i := 22) (N := some 134) (v := ?_) (a' := ?_) #[true, true, true, true, true, true, true, true, true, true, true, true, true, true, true, true, true, true, true, true, true, true, true, false, false, false, false, false, false, false, false, false, false, false, false, false, false, false, false, false, false, false] rfl rfl (by kernel_rfl) (fun _ _ _ h => h) (Or.inl ⟨by rfl, ?_⟩) ?_ ?_
            rotate_left
            · intro w'
              go_simp
              with_reducible rfl
            rotate_left
            · simp only [Act.put, List.setIfInBounds_toArray, List.set_cons_zero, List.set_cons_succ, i64_w, i32_w]
              rfl
            refine pure_ (i := 23) (N := some 135) (v := ?_) (a' := ?_) #[true, true, true, true, true, true, true, true, true, true, true, true, true, true, true, true, true, true, true, true, true, true, true, true, false, false, false, false, false, false, false, false, false, false, false, false, false, false, false, false, false, false] rfl rfl (by kernel_rfl) (fun _ _ _ h => h) (Or.inl ⟨by rfl, ?_⟩) ?_ ?_
            rotate_left
            · intro w'
              go_simp
              with_reducible rfl
            rotate_left
            · simp only [Act.put, List.setIfInBounds_toArray, List.set_cons_zero, List.set_cons_succ, i64_w, i32_w]
              rfl
            refine pure_ (i := 24) (N := some 136) (v := ?_) (a' := ?_) #[true, true, true, true, true, true, true, true, true, true, true, true, true, true, true, true, true, true, true, true, true, true, true, true, true, false, false, false, false, false, false, false, false, false, false, false, false, false, false, false, false, false] rfl rfl (by kernel_rfl) (fun _ _ _ h => h) (Or.inl ⟨by rfl, ?_⟩) ?_ ?_
            rotate_left
            · intro w'
              go_simp
              with_reducible rfl
            rotate_left
            · simp only [Act.put, List.setIfInBounds_toArray, List.set_cons_zero, List.set_cons_succ, i64_w, i32_w]
              rfl
            refine pure_ (i := 25) (N := some 137) (v := ?_) (a' := ?_) #[true, true, true, true, true, true, true, true, true, true, true, true, true, true, true, true, true, true, true, true, true, true, true, true, true, true, false, false, false, false, false, false, false, false, false, false, false, false, false, false, false, false] rfl rfl (by kernel_rfl) (fun _ _ _ h => h) (Or.inl ⟨by rfl, ?_⟩) ?_ ?_
            rotate_left
            · intro w'
              go_simp
              with_reducible rfl
            rotate_left
            · simp only [Act.put, List.setIfInBounds_toArray, List.set_cons_zero, List.set_cons_succ, i64_w, i32_w]
              rfl
            refine pure_ (i := 27) (N := some 139) (v := ?_) (a' := ?_) #[true, true, true, true, true, true, true, true, true, true, true, true, true, true, true, true, true, true, true, true, true, true, true, true, true, true, false, true, false, false, false, false, false, false, false, false, false, false, false, false, false, false] rfl rfl (by kernel_rfl) (fun _ _ _ h => h) (Or.inl ⟨by rfl, ?_⟩) ?_ ?_
            rotate_left
            · intro w'
              go_simp
              with_reducible rfl
            rotate_left
            · simp only [Act.put, List.setIfInBounds_toArray, List.set_cons_zero, List.set_cons_succ, i64_w, i32_w]
              rfl
            refine pure_ (i := 30) (N := some 142) (v := ?_) (a' := ?_) #[true, true, true, true, true, true, true, true, true, true, true, true, true, true, true, true, true, true, true, true, true, true, true, true, true, true, false, true, false, false, true, false, false, false, false, false, false, false, false, false, false, false] rfl rfl (by kernel_rfl) (fun _ _ _ h => h) (Or.inl ⟨by rfl, ?_⟩) ?_ ?_
            rotate_left
            · intro w'
              go_simp
              with_reducible rfl
            rotate_left
            · simp only [Act.put, List.setIfInBounds_toArray, List.set_cons_zero, List.set_cons_succ, i64_w, i32_w]
              rfl
            refine pure_ (i := 31) (N := some 143) (v := ?_) (a' := ?_) #[true, true, true, true, true, true, true, true, true, true, true, true, true, true, true, true, true, true, true, true, true, true, true, true, true, true, false, true, false, false, true, true, false, false, false, false, false, false, false, false, false, false] rfl rfl (by kernel_rfl) (fun _ _ _ h => h) (Or.inl ⟨by rfl, ?_⟩) ?_ ?_
            rotate_left
            · intro w'
              go_simp
              with_reducible rfl
            rotate_left
            · simp only [Act.put, List.setIfInBounds_toArray, List.set_cons_zero, List.set_cons_succ, i64_w, i32_w]
              rfl
            refine pure_ (i := 35) (N := some 147) (v := ?_) (a' := ?_) #[true, true, true, true, true, true, true, true, true, true, true, true, true, true, true, true, true, true, true, true, true, true, true, true, true, true, false, true, false, false, true, true, false, false, false, true, false, false, false, false, false, false] rfl rfl (by kernel_rfl) (fun _ _ _ h => h) (Or.inl ⟨by rfl, ?_⟩) ?_ ?_
            rotate_left
            · intro w'
              go_simp
              with_reducible rfl
            rotate_left
            · simp only [Act.put, List.setIfInBounds_toArray, List.set_cons_zero, List.set_cons_succ, i64_w, i32_w]
              rfl
            refine take_ (i := 26) (N := some 138) (v := ?_) (a' := ?_) #[true, true, true, true, true, true, true, true, true, true, true, true, true, true, true, true, true, true, true, true, true, true, true, true, true, true, true, true, false, false, true, true, false, false, false, true, false, false, false, false, false, false] rfl rfl (by kernel_rfl) (fun _ _ _ h => h) (Or.inl ⟨by rfl, ?_⟩) hHeld ?_ ?_
            rotate_left
            · rintro w' ⟨s0, s1, s2, s3⟩
              go_simp
              with_reducible rfl
            rotate_left
            · simp only [Act.put, List.setIfInBounds_toArray, List.set_cons_zero, List.set_cons_succ, i64_w, i32_w]
              rfl
            refine pure_ (i := 28) (N := some 140) (v := ?_) (a' := ?_) #[true, true, true, true, true, true, true, true, true, true, true, true, true, true, true, true, true, true, true, true, true, true, true, true, true, true, true, true, true, false, true, true, false, false, false, true, false, false, false, false, false, false] rfl rfl (by kernel_rfl) (fun _ _ _ h => h) (Or.inl ⟨by rfl, ?_⟩) ?_ ?_
            rotate_left
            · intro w'
              go_simp
              with_reducible rfl
            rotate_left
            · simp only [Act.put, List.setIfInBounds_toArray, List.set_cons_zero, List.set_cons_succ, i64_w, i32_w]
              rfl
            refine take_ (i := 29) (N := some 141) (v := ?_) (a' := ?_) #[true, true, true, true, true, true, true, true, true, true, true, true, true, true, true, true, true, true, true, true, true, true, true, true, true, true, true, true, true, true, true, true, false, false, false, true, false, false, false, false, false, false] rfl rfl (by kernel_rfl) (fun _ _ _ h => h) (Or.inl ⟨by rfl, ?_⟩) hHeld ?_ ?_
            rotate_left
            · rintro w' ⟨s0, s1, s2, s3⟩
              go_simp
              with_reducible rfl
            rotate_left
            · simp only [Act.put, List.setIfInBounds_toArray, List.set_cons_zero, List.set_cons_succ, i64_w, i32_w]
              rfl
            refine take_ (i := 32) (N := some 144) (v := ?_) (a' := ?_) #[true, true, true, true, true, true, true, true, true, true, true, true, true, true, true, true, true, true, true, true, true, true, true, true, true, true, true, true, true, true, true, true, true, false, false, true, false, false, false, false, false, false] rfl rfl (by kernel_rfl) (fun _ _ _ h => h) (Or.inl ⟨by rfl, ?_⟩) hHeld ?_ ?_
            rotate_left
            · rintro w' ⟨s0, s1, s2, s3⟩
              go_simp
              with_reducible rfl
            rotate_left
            · simp only [Act.put, List.setIfInBounds_toArray, List.set_cons_zero, List.set_cons_succ, i64_w, i32_w]
              rfl
            refine pure_ (i := 33) (N := some 145) (v := ?_) (a' := ?_) #[true, true, true, true, true, true, true, true, true, true, true, true, true, true, true, true, true, true, true, true, true, true, true, true, true, true, true, true, true, true, true, true, true, true, false, true, false, false, false, false, false, false] rfl rfl (by kernel_rfl) (fun _ _ _ h => h) (Or.inl ⟨by rfl, ?_⟩) ?_ ?_
            rotate_left
            · intro w'
              go_simp
              with_reducible rfl
            rotate_left
            · simp only [Act.put, List.setIfInBounds_toArray, List.set_cons_zero, List.set_cons_succ, i64_w, i32_w]
              rfl
            refine pure_ (i := 34) (N := some 146) (v := ?_) (a' := ?_) #[true, true, true, true, true, true, true, true, true, true, true, true, true, true, true, true, true, true, true, true, true, true, true, true, true, true, true, true, true, true, true, true, true, true, true, true, false, false, false, false, false, false] rfl rfl (by kernel_rfl) (fun _ _ _ h => h) (Or.inl ⟨by rfl, ?_⟩) ?_ ?_
            rotate_left
            · intro w'
              go_simp
              with_reducible rfl
            rotate_left
            · simp only [Act.put, List.setIfInBounds_toArray, List.set_cons_zero, List.set_cons_succ, i64_w, i32_w]
              rfl
            refine take_ (i := 36) (N := some 148) (v := ?_) (a' := ?_) #[true, true, true, true, true, true, true, true, true, true, true, true, true, true, true, true, true, true, true, true, true, true, true, true, true, true, true, true, true, true, true, true, true, true, true, true, true, false, false, false, false, false] rfl rfl (by kernel_rfl) (fun _ _ _ h => h) (Or.inl ⟨by rfl, ?_⟩) hHeld ?_ ?_
            rotate_left
            · rintro w' ⟨s0, s1, s2, s3⟩
              go_simp
              with_reducible rfl
            rotate_left
            · simp only [Act.put, List.setIfInBounds_toArray, List.set_cons_zero, List.set_cons_succ, i64_w, i32_w]
              rfl
            refine pure_ (i := 37) (N := some 149) (v := ?_) (a' := ?_) #[true, true, true, true, true, true, true, true, true, true, true, true, true, true, true, true, true, true, true, true, true, true, true, true, true, true, true, true, true, true, true, true, true, true, true, true, true, true, false, false, false, false] rfl rfl (by kernel_rfl) (fun _ _ _ h => h) (Or.inl ⟨by rfl, ?_⟩) ?_ ?_
            rotate_left
            · intro w'
              go_simp
              with_reducible rfl
            rotate_left
            · simp only [Act.put, List.setIfInBounds_toArray, List.set_cons_zero, List.set_cons_succ, i64_w, i32_w]
              rfl
            refine pure_ (i := 38) (N := some 150) (v := ?_) (a' := ?_) #[true, true, true, true, true, true, true, true, true, true, true, true, true, true, true, true, true, true, true, true, true, true, true, true, true, true, true, true, true, true, true, true, true, true, true, true, true, true, true, false, false, false] rfl rfl (by kernel_rfl) (fun _ _ _ h => h) (Or.inl ⟨by rfl, ?_⟩) ?_ ?_
            rotate_left
            · intro w'
              go_simp
              with_reducible rfl
            rotate_left
            · simp only [Act.put, List.setIfInBounds_toArray, List.set_cons_zero, List.set_cons_succ, i64_w, i32_w]
              rfl
            refine pure_ (i := 39) (N := some 151) (v := ?_) (a' := ?_) #[true, true, true, true, true, true, true, true, true, true, true, true, true, true, true, true, true, true, true, true, true, true, true, true, true, true, true, true, true, true, true, true, true, true, true, true, true, true, true, true, false, false] rfl rfl (by kernel_rfl) (fun _ _ _ h => h) (Or.inl ⟨by rfl, ?_⟩) ?_ ?_
            rotate_left
            · intro w'
              go_simp
              with_reducible rfl
            rotate_left
            · simp only [Act.put, List.setIfInBounds_toArray, List.set_cons_zero, List.set_cons_succ, i64_w, i32_w]
              rfl
            refine pure_ (i := 40) (N := some 152) (v := ?_) (a' := ?_) #[true, true, true, true, true, true, true, true, true, true, true, true, true, true, true, true, true, true, true, true, true, true, true, true, true, true, true, true, true, true, true, true, true, true, true, true, true, true, true, true, true, false] rfl rfl (by kernel_rfl) (fun _ _ _ h => h) (Or.inl ⟨by rfl, ?_⟩) ?_ ?_
            rotate_left
            · intro w'
              go_simp
              with_reducible rfl
            rotate_left
            · simp only [Act.put, List.setIfInBounds_toArray, List.set_cons_zero, List.set_cons_succ, i64_w, i32_w]
              rfl
            refine pure_ (i := 41) (N := some 153) (v := ?_) (a' := ?_) #[true, true, true, true, true, true, true, true, true, true, true, true, true, true, true, true, true, true, true, true, true, true, true, true, true, true, true, true, true, true, true, true, true, true, true, true, true, true, true, true, true, true] rfl rfl (by kernel_rfl) (fun _ _ _ h => h) (Or.inl ⟨by rfl, ?_⟩) ?_ ?_
            rotate_left
            · intro w'
              go_simp
              with_reducible rfl
            rotate_left
            · simp only [Act.put, List.setIfInBounds_toArray, List.set_cons_zero, List.set_cons_succ, i64_w, i32_w]
              rfl
            refine done_ (by kernel_rfl) ?_
            go_wp2_with fail
            go_roundg ko
            case rel => exact ⟨j + 1, by first | rfl | rw [wi], ⟨by have := HJ.out; have := q1.out; omega⟩, ⟨below_drew B1900.out⟩, ⟨blk_drew R_1900.out⟩⟩
            case measure => exact Nat.lt_succ_self _
        · have d1 : decide (j < (rr.length : Int)) = false := decide_eq_false hj
          clear hj HJ
          go_wp2_with (first
            | ((with_reducible refine wpLd 49 (.tmp 3) ?_); refine wpList_load_row_g (by rfl) 49 (.tmp 3) rfl (w.heap.size) rfl 49 (#[.int .i64 a, .int .i64 b, .int .i64 c, .int .i64 d, .int .i64 e, .slice A5 l5.length c5, .slice A6 l6.length c6]) (0, 0) _ (blk_below S_906.out B1900.out) Try.underlying49 rfl (by kernel_rfl) ?_))
          refine (check_T a b c d e A5 c5 l5 A6 c6 l6 _ (Kd.C_below XhC5.out (below_step (below_step B8.out B907.out) B1900.out)) (Kd.C_below XhC6.out (below_step (below_step B8.out B907.out) B1900.out))).mono ?_
          rintro e_ w9 ⟨rfl, hb⟩
          have R_1901 := Aside0.mk (blk_below R_1900.out hb)
          have B1902 := Aside0.mk (below_step B1900.out hb)
          clear hb R_1900 B1900
          rcases Bool.eq_false_or_eq_true (decide (scV a b c d e l5 l6 = (0, 0, 0))) with hz | hz
          · have hz := of_decide_eq_true hz
            rw [hz]
            go_wp2_with (first
              | ((with_reducible refine wpBi .eql 57 (.tmp 155) (.tmp 156) 57 ?_); refine wpList_value_g (by rfl) (exec_eq57 (.tmp 155) (.tmp 156) rfl _ _ _ rfl rfl true (by decide)) ?_)
              | ((with_reducible refine wpLd 49 (.tmp 11) ?_); refine wpList_load_row_g (by rfl) 49 (.tmp 11) rfl (w6.heap.size) rfl 49 (#[.int .i64 a, .int .i64 b, .int .i64 c, .int .i64 d, .int .i64 e, .slice A9 l5.length c9, .slice Aa rr.length ca]) (0, 0) _ R_1901.out Try.underlying49 rfl (by kernel_rfl) ?_))
            refine (check_T a b c d e A9 c9 l5 Aa ca rr _ (Kd.C_below HC9.out B1902.out) (Kd.C_below HCa.out B1902.out)).mono ?_
            rintro e_ w10 ⟨rfl, hb⟩
            rw [HR5.out hz]
            have R_1903 := Aside0.mk (blk_below R_1901.out hb)
            have B1904 := Aside0.mk (below_step B1902.out hb)
            clear hb R_1901 B1902
            go_wp2_with (first
              | ((with_reducible refine wpBi .neq 57 (.tmp 160) (.tmp 161) 57 ?_); refine wpList_value_g (by rfl) (exec_ne57 (.tmp 160) (.tmp 161) rfl _ _ _ rfl rfl false (by decide)) ?_)
              | ((with_reducible refine wpLd 49 (.tmp 3) ?_); refine wpList_load_row_g (by rfl) 49 (.tmp 3) rfl (w.heap.size) rfl 49 (#[.int .i64 a, .int .i64 b, .int .i64 c, .int .i64 d, .int .i64 e, .slice A5 l5.length c5, .slice A6 l6.length c6]) (0, 0) _ (blk_below S_906.out B1904.out) Try.underlying49 rfl (by kernel_rfl) ?_))
            have hcp := copy_f a b c d e l5 l6 (by have := Xhm.out; omega) (fun l hl => by have := Xhin.out l hl; omega) (by have := Xhbig.out; omega) (Nat.lt_succ_self l5.length)
            have HWW := Aside0.mk ((below_step (below_step B8.out B907.out) B1904.out).size)
            have SLT := Aside0.mk (show w.heap.size < w10.heap.size from blk_lt (blk_below S_906.out B1904.out))
            refine (script_Copy.calls _ a b c d e A5 c5 l5 A6 c6 l6 a b c d e l5 l6 _ (Kd.C_below XhC5.out (below_step (below_step B8.out B907.out) B1904.out)) Xhc5.out (Kd.C_below XhC6.out (below_step (below_step B8.out B907.out) B1904.out)) Xhc6.out hcp).mono ?_
            rintro e_ wc ⟨v5, v6, rfl, hS, hR, hb⟩
            obtain ⟨Ad, cd, rfl⟩ := Kd.S_slice hS
            obtain ⟨Ae, ce, rfl, hce, -⟩ := Kd.R_reads hR
            have HSd := Aside0.mk hS
            have HRe := Aside0.mk hR
            have HRel := Aside0.mk hce
            clear hS hR hce hcp
            have R_1905 := Aside0.mk (blk_below R_1903.out hb)
            have S_1906 := Aside0.mk (blk_below (blk_below S_906.out B1904.out) hb)
            have W_1907 := Aside0.mk (blk_below (blk_below W_905.out B1904.out) hb)
            have B1908 := Aside0.mk (below_step B1904.out hb)
            clear hb R_1903 S_906 W_905 B1904
            have L_C := Aside0.mk (show wc.heap.size ≤ wc.heap.size from Nat.le_refl _)
            have C_1909 := Aside0.mk (blk_new (wc) (.cells #[.int .i64 0, .int .i64 0, .int .i64 0, .int .i64 0, .int .i64 0, .slice none 0 0, .slice none 0 0] 49))
            have B1910 := Aside0.mk (below_alloc (Below.refl wc.heap.size wc) (.cells #[.int .i64 0, .int .i64 0, .int .i64 0, .int .i64 0, .int .i64 0, .slice none 0 0, .slice none 0 0] 49))
            obtain hl | ⟨l0, ls, hl⟩ : l5 = [] ∨ ∃ l0 ls, l5 = l0 :: ls := by
              cases l5 with
              | nil => exact .inl rfl
              | cons p q => exact .inr ⟨_, _, rfl⟩
            · have tz : decide ((0 : Int) < (l5.length : Int)) = false := decide_eq_false (by rw [hl]; simp)
              have tz2 := eq_false (show ¬ (0 : Int) < (l5.length : Int) by rw [hl]; simp)
              have tz3 : decide (0 < l5.length) = false := decide_eq_false (by rw [hl]; simp)
              have tz4 := eq_false (show ¬ 0 < l5.length by rw [hl]; simp)
              have tz5 := eq_true hl
              clear hl
              go_wp2_with (first
                | ((with_reducible refine wpSt 49 (.tmp 13) (.tmp 165) ?_); refine store_whole (w := wc) (B := wc.heap.size) rfl rfl 49 (.tmp 13) (.tmp 165) rfl (g := wc.heap.size) (cs := #[.int .i64 a, .int .i64 b, .int .i64 c, .int .i64 d, .int .i64 e, .slice Ad l5.length cd, .slice Ae l6.length ce]) rfl _ rfl rfl (by kernel_rfl) (by simp [Value.oneCell']) C_1909.out (rfl) L_C.out B1910.out ?_; intro w_1911 h1 h2 h3 h4; have C_1912 := Aside0.mk (h1); have B1913 := Aside0.mk (h2); clear h1 h2 h3 h4 C_1909 B1910; have q5 : w_1911.cell? ⟨wc.heap.size, 5, none⟩ = some (.slice Ad l5.length cd) := (blk_cell C_1912.out 5).trans rfl))
              go_ret
              exact ⟨rfl, (below_step (below_step (below_step B8.out B907.out) B1908.out) B1913.out)⟩
            · rcases l0 with _ | ⟨x, xs⟩
              · obtain ⟨ad, bv, cx, ea, dc⟩ := first_empty (Kd.S_reads' HSd.out).2.2 ls hl
                subst ea
                have DC := Aside0.mk dc
                clear dc
                have tz : decide ((0 : Int) < (l5.length : Int)) = true := decide_eq_true (by rw [hl, List.length_cons]; omega)
                have tz2 := eq_true (show (0 : Int) < (l5.length : Int) by rw [hl, List.length_cons]; omega)
                have tz3 : decide (0 < l5.length) = true := decide_eq_true (by rw [hl, List.length_cons]; omega)
                have tz4 := eq_true (show 0 < l5.length by rw [hl, List.length_cons]; omega)
                have tz5 := eq_false (show ¬ l5 = [] by rw [hl]; simp)
                clear hl
                go_wp2_with (first
                  | ((with_reducible refine wpSt 49 (.tmp 13) (.tmp 165) ?_); refine store_whole (w := wc) (B := wc.heap.size) rfl rfl 49 (.tmp 13) (.tmp 165) rfl (g := wc.heap.size) (cs := #[.int .i64 a, .int .i64 b, .int .i64 c, .int .i64 d, .int .i64 e, .slice (some ad) l5.length cd, .slice Ae l6.length ce]) rfl _ rfl rfl (by kernel_rfl) (by simp [Value.oneCell']) C_1909.out (rfl) L_C.out B1910.out ?_; intro w_1911 h1 h2 h3 h4; have C_1912 := Aside0.mk (h1); have B1913 := Aside0.mk (h2); clear h1 h2 h3 h4 C_1909 B1910; have q5 : w_1911.cell? ⟨wc.heap.size, 5, none⟩ = some (.slice (some ad) l5.length cd) := (blk_cell C_1912.out 5).trans rfl; have dc : w_1911.cell? ad = some (.slice bv 0 cx) := (B1913.out.cell (World.block_lt_of_cell? wc _ DC.out)).trans DC.out))
                go_ret
                exact ⟨rfl, (below_step (below_step (below_step B8.out B907.out) B1908.out) B1913.out)⟩
              · obtain ⟨gd, rfl⟩ : ∃ gd, Ad = some ⟨gd, 0, none⟩ := by
                  obtain ⟨gd, cap, hv, _⟩ := Kd.S_form HSd.out (by rw [hl]; simp)
                  injection hv with ha
                  exact ⟨gd, ha⟩
                obtain ⟨m0, hm0⟩ : ∃ m0, (x :: xs).length = m0 := ⟨_, rfl⟩
                have HM0 := Aside0.mk (show 0 < m0 by rw [← hm0]; simp)
                obtain ⟨gx, cx, dc, hbx, hlx, ⟨cur, hcur, hc4⟩, hput⟩ := lend1 HSd.out x xs ls hl m0 hm0
                have DC := Aside0.mk dc
                have HBX := Aside0.mk hbx
                have HLX := Aside0.mk hlx
                have HPUT := Aside0.mk hput
                have HC4 := Aside0.mk hc4
                have X0 := Aside0.mk hcur
                clear dc hbx hlx hput hc4 hcur
                obtain ⟨as_, bs_, cxs, ea, i0, j0, j1, j2, j3⟩ := first_cells XhC5.out x xs ls hl m0 hm0
                subst ea
                have I0 := Aside0.mk i0
                have J0 := Aside0.mk j0
                have J1 := Aside0.mk j1
                have J2 := Aside0.mk j2
                have J3 := Aside0.mk j3
                clear i0 j0 j1 j2 j3
                have tz : decide ((0 : Int) < (l5.length : Int)) = true := decide_eq_true (by rw [hl, List.length_cons]; omega)
                have tz2 := eq_true (show (0 : Int) < (l5.length : Int) by rw [hl, List.length_cons]; omega)
                have tz3 : decide (0 < l5.length) = true := decide_eq_true (by rw [hl, List.length_cons]; omega)
                have tz4 := eq_true (show 0 < l5.length by rw [hl, List.length_cons]; omega)
                have tz5 := eq_false (show ¬ l5 = [] by rw [hl]; simp)
                have ty3 : decide (0 < m0) = true := decide_eq_true HM0.out
                have ty4 := eq_true HM0.out
                have HLL := Aside0.mk hl
                clear hl hm0
                have ty : decide ((0 : Int) < (m0 : Int)) = true := decide_eq_true (by have := HM0.out; omega)
                have ty2 := eq_true (show (0 : Int) < (m0 : Int) by have := HM0.out; omega)
                go_wp2_with (first
                  | ((with_reducible refine wpSt 49 (.tmp 13) (.tmp 165) ?_); refine store_whole (w := wc) (B := wc.heap.size) rfl rfl 49 (.tmp 13) (.tmp 165) rfl (g := wc.heap.size) (cs := #[.int .i64 a, .int .i64 b, .int .i64 c, .int .i64 d, .int .i64 e, .slice (some ⟨gd, 0, none⟩) l5.length cd, .slice Ae l6.length ce]) rfl _ rfl rfl (by kernel_rfl) (by simp [Value.oneCell']) C_1909.out (rfl) L_C.out B1910.out ?_; intro w_1911 h1 h2 h3 h4; have C_1912 := Aside0.mk (h1); have B1913 := Aside0.mk (h2); clear h1 h2 h3 h4 C_1909 B1910; have q5 : w_1911.cell? ⟨wc.heap.size, 5, none⟩ = some (.slice (some ⟨gd, 0, none⟩) l5.length cd) := (blk_cell C_1912.out 5).trans rfl; have dc : w_1911.cell? ⟨gd, 0, none⟩ = some (.slice (some ⟨gx, 0, none⟩) m0 cx) := (B1913.out.cell (World.block_lt_of_cell? wc _ DC.out)).trans DC.out; have s5 : w_1911.cell? ⟨w.heap.size, 5, none⟩ = some (.slice (some as_) l5.length c5) := (blk_cell (blk_below S_1906.out B1913.out) 5).trans rfl; have k0 : w_1911.cell? as_ = some (.slice (some bs_) m0 cxs) := ((below_step (below_step (below_step B8.out B907.out) B1908.out) B1913.out).cell (World.block_lt_of_cell? w _ I0.out)).trans I0.out; have k1 : w_1911.cell? bs_ = some (.int .i64 x.f0) := ((below_step (below_step (below_step B8.out B907.out) B1908.out) B1913.out).cell (World.block_lt_of_cell? w _ J0.out)).trans J0.out; have k2 : w_1911.cell? ⟨bs_.block, bs_.off + 1, none⟩ = some (.int .u64 x.f1) := ((below_step (below_step (below_step B8.out B907.out) B1908.out) B1913.out).cell (World.block_lt_of_cell? w _ J1.out)).trans J1.out; have k3 : w_1911.cell? ⟨bs_.block, bs_.off + 2, none⟩ = some (.int .u64 x.f2) := ((below_step (below_step (below_step B8.out B907.out) B1908.out) B1913.out).cell (World.block_lt_of_cell? w _ J2.out)).trans J2.out; have k4 : w_1911.cell? ⟨bs_.block, bs_.off + 3, none⟩ = some (.int .i64 x.f3) := ((below_step (below_step (below_step B8.out B907.out) B1908.out) B1913.out).cell (World.block_lt_of_cell? w _ J3.out)).trans J3.out; have L_O := Aside0.mk (show wc.heap.size ≤ w_1911.heap.size from B1913.out.size); have NE_C_O := Aside0.mk (show wc.heap.size ≠ w_1911.heap.size by have := blk_lt C_1912.out; omega); have C_1914 := Aside0.mk (blk_alloc C_1912.out (.cells #[.int .i64 0, .int .u64 0, .int .u64 0, .int .i64 0] 37)); have O_1915 := Aside0.mk (blk_new (w_1911) (.cells #[.int .i64 0, .int .u64 0, .int .u64 0, .int .i64 0] 37)); have B1916 := Aside0.mk (below_alloc B1913.out (.cells #[.int .i64 0, .int .u64 0, .int .u64 0, .int .i64 0] 37)); clear C_1912 B1913)
                  | ((with_reducible refine wpSt 37 (.tmp 14) (.tmp 183) ?_); refine store_whole (w := wc) (B := wc.heap.size) rfl rfl 37 (.tmp 14) (.tmp 183) rfl (g := w_1911.heap.size) (cs := #[.int .i64 x.f0, .int .u64 x.f1, .int .u64 x.f2, .int .i64 x.f3]) rfl _ rfl rfl (by kernel_rfl) (by simp [Value.oneCell']) O_1915.out (rfl) L_O.out B1916.out ?_; intro w_1917 h1 h2 h3 h4; have C_1918 := Aside0.mk ((h3 _ NE_C_O.out).trans C_1914.out); have O_1919 := Aside0.mk (h1); have B1920 := Aside0.mk (h2); clear h1 h2 h3 h4 C_1914 O_1915 B1916))
                refine start_ (n := 10) (S := fun w' => w'.cell? ⟨wc.heap.size, 5, none⟩ = some (.slice (some ⟨gd, 0, none⟩) l5.length cd) ∧ w'.cell? ⟨gd, 0, none⟩ = some (.slice (some ⟨gx, 0, none⟩) m0 cx) ∧ w'.cell? ⟨w_1911.heap.size, 0, none⟩ = some (.int .i64 x.f0)) (ds := [9]) #[false, false, false, false, false, false, false, false, false, false] (by kernel_rfl) rfl rfl ⟨(blk_cell (blk_drew C_1918.out) 5).trans rfl, ((below_drew B1920.out).cell (World.block_lt_of_cell? wc _ DC.out)).trans DC.out, (blk_cell (blk_drew O_1919.out) 0).trans rfl⟩ (fun hHeld => ?_)
                refine pure_ (i := 0) (N := some 184) (v := ?_) (a' := ?_) #[true, false, false, false, false, false, false, false, false, false] rfl rfl (by kernel_rfl) (fun _ _ _ h => h) (Or.inl ⟨by rfl, ?_⟩) ?_ ?_
                rotate_left
                · intro w'
                  go_simp
                  with_reducible rfl
                rotate_left
                · simp only [Act.put, List.setIfInBounds_toArray, List.set_cons_zero, List.set_cons_succ, i64_w, i32_w]
                  rfl
                refine pure_ (i := 4) (N := some 188) (v := ?_) (a' := ?_) #[true, false, false, false, true, false, false, false, false, false] rfl rfl (by kernel_rfl) (fun _ _ _ h => h) (Or.inl ⟨by rfl, ?_⟩) ?_ ?_
                rotate_left
                · intro w'
                  go_simp
                  with_reducible rfl
                rotate_left
                · simp only [Act.put, List.setIfInBounds_toArray, List.set_cons_zero, List.set_cons_succ, i64_w, i32_w]
                  rfl
                refine take_ (i := 1) (N := some 185) (v := ?_) (a' := ?_) #[true, true, false, false, true, false, false, false, false, false] rfl rfl (by kernel_rfl) (fun _ _ _ h => h) (Or.inl ⟨by rfl, ?_⟩) hHeld ?_ ?_
                rotate_left
                · rintro w' ⟨s0, s1, s2⟩
                  go_simp
                  with_reducible rfl
                rotate_left
                · simp only [Act.put, List.setIfInBounds_toArray, List.set_cons_zero, List.set_cons_succ, i64_w, i32_w]
                  rfl
                refine pure_ (i := 2) (N := some 186) (v := ?_) (a' := ?_) #[true, true, true, false, true, false, false, false, false, false] rfl rfl (by kernel_rfl) (fun _ _ _ h => h) (Or.inl ⟨by rfl, ?_⟩) ?_ ?_
                rotate_left
                · intro w'
                  go_simp
                  with_reducible rfl
                rotate_left
                · simp only [Act.put, List.setIfInBounds_toArray, List.set_cons_zero, List.set_cons_succ, i64_w, i32_w]
                  rfl
                refine take_ (i := 3) (N := some 187) (v := ?_) (a' := ?_) #[true, true, true, true, true, false, false, false, false, false] rfl rfl (by kernel_rfl) (fun _ _ _ h => h) (Or.inl ⟨by rfl, ?_⟩) hHeld ?_ ?_
                rotate_left
                · rintro w' ⟨s0, s1, s2⟩
                  go_simp
                  with_reducible rfl
                rotate_left
                · simp only [Act.put, List.setIfInBounds_toArray, List.set_cons_zero, List.set_cons_succ, i64_w, i32_w]
                  rfl
                refine take_ (i := 5) (N := some 189) (v := ?_) (a' := ?_) #[true, true, true, true, true, true, false, false, false, false] rfl rfl (by kernel_rfl) (fun _ _ _ h => h) (Or.inl ⟨by rfl, ?_⟩) hHeld ?_ ?_
                rotate_left
                · rintro w' ⟨s0, s1, s2⟩
                  go_simp
                  with_reducible rfl
                rotate_left
                · simp only [Act.put, List.setIfInBounds_toArray, List.set_cons_zero, List.set_cons_succ, i64_w, i32_w]
                  rfl
                refine pure_ (i := 6) (N := some 190) (v := ?_) (a' := ?_) #[true, true, true, true, true, true, true, false, false, false] rfl rfl (by kernel_rfl) (fun _ _ _ h => h) (Or.inl ⟨by rfl, ?_⟩) ?_ ?_
                rotate_left
                · intro w'
                  go_simp
                  with_reducible rfl
                rotate_left
                · simp only [Act.put, List.setIfInBounds_toArray, List.set_cons_zero, List.set_cons_succ, i64_w, i32_w]
                  rfl
                refine pure_ (i := 7) (N := some 191) (v := ?_) (a' := ?_) #[true, true, true, true, true, true, true, true, false, false] rfl rfl (by kernel_rfl) (fun _ _ _ h => h) (Or.inl ⟨by rfl, ?_⟩) ?_ ?_
                rotate_left
                · intro w'
                  go_simp
                  with_reducible rfl
                rotate_left
                · simp only [Act.put, List.setIfInBounds_toArray, List.set_cons_zero, List.set_cons_succ, i64_w, i32_w]
                  rfl
                refine pure_ (i := 8) (N := some 192) (v := ?_) (a' := ?_) #[true, true, true, true, true, true, true, true, true, false] rfl rfl (by kernel_rfl) (fun _ _ _ h => h) (Or.inl ⟨by rfl, ?_⟩) ?_ ?_
                rotate_left
                · intro w'
                  go_simp
                  with_reducible rfl
                rotate_left
                · simp only [Act.put, List.setIfInBounds_toArray, List.set_cons_zero, List.set_cons_succ, i64_w, i32_w]
                  rfl
                refine last_ (i := 9) (N := none) #[true, true, true, true, true, true, true, true, true, true] rfl rfl (by kernel_rfl) (by decide) (fun K hK => ?_)
                refine skip_part 37 (.tmp 192) (.tmp 191) (by rfl) rfl rfl (four ⟨(bits BinOp.xor IntKind.i64 x.f0 1), 0, 0, 0⟩) (g := gx) ?_ (.agg #[.int .i64 (bits BinOp.xor IntKind.i64 x.f0 1), .int .u64 0, .int .u64 0, .int .i64 0]) ?_ rfl (by kernel_rfl) (by simp [four, Value.oneCell']) (blk_below X0.out (below_drew B1920.out)) HC4.out ?_
                · rfl
                · rfl
                have C_1921 := Aside0.mk (blk_part (seg := four ⟨(bits BinOp.xor IntKind.i64 x.f0 1), 0, 0, 0⟩) (blk_drew C_1918.out) (show wc.heap.size ≠ gx by have := HLX.out; have := L_C.out; omega))
                have O_1922 := Aside0.mk (blk_part (seg := four ⟨(bits BinOp.xor IntKind.i64 x.f0 1), 0, 0, 0⟩) (blk_drew O_1919.out) (show w_1911.heap.size ≠ gx by have := HLX.out; have := L_O.out; omega))
                have S_2000 := Aside0.mk (blk_part (seg := four ⟨(bits BinOp.xor IntKind.i64 x.f0 1), 0, 0, 0⟩) (blk_below S_1906.out (below_drew B1920.out)) (show w.heap.size ≠ gx by have := SLT.out; have := HBX.out; omega))
                have BT := Aside0.mk (below_part (seg := four ⟨(bits BinOp.xor IntKind.i64 x.f0 1), 0, 0, 0⟩) (below_step (below_step (below_step B8.out B907.out) B1908.out) (below_drew B1920.out)) (show w.heap.size ≤ gx by have := HBX.out; have := HWW.out; omega))
                have HE2 := Aside0.mk (int_part (seg := four ⟨(bits BinOp.xor IntKind.i64 x.f0 1), 0, 0, 0⟩) (Kd.R_below HRe.out (below_drew B1920.out)) (blk_below X0.out (below_drew B1920.out)))
                have HP2 := Aside0.mk (HPUT.out _ (below_drew B1920.out) ⟨(bits BinOp.xor IntKind.i64 x.f0 1), 0, 0, 0⟩)
                refine hK.out _ _ ?_
                clear hK K
                refine done_ (by kernel_rfl) ?_
                go_wp2_with fail
                have n0 : (x.f0 != x.f0) = false := by simp
                have n1 : (x.f1 != x.f1) = false := by simp
                have n2 : (x.f2 != x.f2) = false := by simp
                have n3 : (x.f3 != x.f3) = false := by simp
                refine start_ (n := 13) (S := fun w' => w'.cell? ⟨w.heap.size, 5, none⟩ = some (.slice (some as_) l5.length c5) ∧ w'.cell? as_ = some (.slice (some bs_) m0 cxs) ∧ w'.cell? bs_ = some (.int .i64 x.f0) ∧ w'.cell? ⟨bs_.block, bs_.off + 1, none⟩ = some (.int .u64 x.f1) ∧ w'.cell? ⟨bs_.block, bs_.off + 2, none⟩ = some (.int .u64 x.f2) ∧ w'.cell? ⟨bs_.block, bs_.off + 3, none⟩ = some (.int .i64 x.f3) ∧ w'.heap[w_1911.heap.size]? = some (.cells (#[.int .i64 x.f0, .int .u64 x.f1, .int .u64 x.f2, .int .i64 x.f3]) 37 (0, 0)) ∧ w'.heap[wc.heap.size]? = some (.cells (#[.int .i64 a, .int .i64 b, .int .i64 c, .int .i64 d, .int .i64 e, .slice (some ⟨gd, 0, none⟩) l5.length cd, .slice Ae l6.length ce]) 49 (0, 0)) ∧ w'.heap[w.heap.size]? = some (.cells (#[.int .i64 a, .int .i64 b, .int .i64 c, .int .i64 d, .int .i64 e, .slice (some as_) l5.length c5, .slice A6 l6.length c6]) 49 (0, 0))) (ds := []) #[false, false, false, false, false, false, false, false, false, false, false, false, false] (by kernel_rfl) rfl rfl ⟨(blk_cell (blk_drew S_2000.out) 5).trans rfl, ((below_drew BT.out).cell (World.block_lt_of_cell? w _ I0.out)).trans I0.out, ((below_drew BT.out).cell (World.block_lt_of_cell? w _ J0.out)).trans J0.out, ((below_drew BT.out).cell (World.block_lt_of_cell? w _ J1.out)).trans J1.out, ((below_drew BT.out).cell (World.block_lt_of_cell? w _ J2.out)).trans J2.out, ((below_drew BT.out).cell (World.block_lt_of_cell? w _ J3.out)).trans J3.out, blk_drew O_1922.out, blk_drew C_1921.out, blk_drew S_2000.out⟩ (fun hHeld => ?_)
                refine pure_ (i := 0) (N := some 193) (v := ?_) (a' := ?_) #[true, false, false, false, false, false, false, false, false, false, false, false, false] rfl rfl (by kernel_rfl) (fun _ _ _ h => h) (Or.inl ⟨by rfl, ?_⟩) ?_ ?_
                rotate_left
                · intro w'
                  go_simp
                  with_reducible rfl
                rotate_left
                · simp only [Act.put, List.setIfInBounds_toArray, List.set_cons_zero, List.set_cons_succ, i64_w, i32_w]
                  rfl
                refine take_ (i := 1) (N := some 194) (v := ?_) (a' := ?_) #[true, true, false, false, false, false, false, false, false, false, false, false, false] rfl rfl (by kernel_rfl) (fun _ _ _ h => h) (Or.inl ⟨by rfl, ?_⟩) hHeld ?_ ?_
                rotate_left
                · rintro w' ⟨s0, s1, s2, s3, s4, s5, s6, s7, s8⟩
                  go_simp
                  with_reducible rfl
                rotate_left
                · simp only [Act.put, List.setIfInBounds_toArray, List.set_cons_zero, List.set_cons_succ, i64_w, i32_w]
                  rfl
                refine pure_ (i := 2) (N := some 195) (v := ?_) (a' := ?_) #[true, true, true, false, false, false, false, false, false, false, false, false, false] rfl rfl (by kernel_rfl) (fun _ _ _ h => h) (Or.inl ⟨by rfl, ?_⟩) ?_ ?_
                rotate_left
                · intro w'
                  go_simp
                  with_reducible rfl
                rotate_left
                · simp only [Act.put, List.setIfInBounds_toArray, List.set_cons_zero, List.set_cons_succ, i64_w, i32_w]
                  rfl
                refine take_ (i := 3) (N := some 196) (v := ?_) (a' := ?_) #[true, true, true, true, false, false, false, false, false, false, false, false, false] rfl rfl (by kernel_rfl) (fun _ _ _ h => h) (Or.inl ⟨by rfl, ?_⟩) hHeld ?_ ?_
                rotate_left
                · rintro w' ⟨s0, s1, s2, s3, s4, s5, s6, s7, s8⟩
                  go_simp
                  with_reducible rfl
                rotate_left
                · simp only [Act.put, List.setIfInBounds_toArray, List.set_cons_zero, List.set_cons_succ, i64_w, i32_w]
                  rfl
                refine pure_ (i := 4) (N := some 197) (v := ?_) (a' := ?_) #[true, true, true, true, true, false, false, false, false, false, false, false, false] rfl rfl (by kernel_rfl) (fun _ _ _ h => h) (Or.inl ⟨by rfl, ?_⟩) ?_ ?_
                rotate_left
                · intro w'
                  go_simp
                  with_reducible rfl
                rotate_left
                · simp only [Act.put, List.setIfInBounds_toArray, List.set_cons_zero, List.set_cons_succ, i64_w, i32_w]
                  rfl
                refine take_ (i := 5) (N := some 198) (v := ?_) (a' := ?_) #[true, true, true, true, true, true, false, false, false, false, false, false, false] rfl rfl (by kernel_rfl) (fun _ _ _ h => h) (Or.inl ⟨by rfl, ?_⟩) hHeld ?_ ?_
                rotate_left
                · rintro w' ⟨s0, s1, s2, s3, s4, s5, s6, s7, s8⟩
                  go_simp
                  with_reducible rfl
                rotate_left
                · simp only [Act.put, List.setIfInBounds_toArray, List.set_cons_zero, List.set_cons_succ, i64_w, i32_w]
                  rfl
                refine take_ (i := 6) (N := some 199) (v := ?_) (a' := ?_) #[true, true, true, true, true, true, true, false, false, false, false, false, false] rfl rfl (by kernel_rfl) (fun _ _ _ h => h) (Or.inl ⟨by rfl, ?_⟩) hHeld ?_ ?_
                rotate_left
                · rintro w' ⟨s0, s1, s2, s3, s4, s5, s6, s7, s8⟩
                  refine exec_load_row 37 (.tmp 14) ?_ _ ?_ 37 (#[.int .i64 x.f0, .int .u64 x.f1, .int .u64 x.f2, .int .i64 x.f3]) (0, 0) _ s6 Try.underlying37 rfl (by kernel_rfl) <;> rfl
                rotate_left
                · simp only [Act.put, List.setIfInBounds_toArray, List.set_cons_zero, List.set_cons_succ, i64_w, i32_w]
                  rfl
                refine pure_ (i := 7) (N := some 200) (v := ?_) (a' := ?_) #[true, true, true, true, true, true, true, true, false, false, false, false, false] rfl rfl (by kernel_rfl) (fun _ _ _ h => h) (Or.inl ⟨by rfl, ?_⟩) ?_ ?_
                rotate_left
                · intro w'
                  go_simp
                  with_reducible rfl
                rotate_left
                · simp only [Act.put, List.setIfInBounds_toArray, List.set_cons_zero, List.set_cons_succ, i64_w, i32_w]
                  rfl
                refine pure_ (i := 8) (N := some 201) (v := ?_) (a' := ?_) #[true, true, true, true, true, true, true, true, true, false, false, false, false] rfl rfl (by kernel_rfl) (fun _ _ _ h => h) (Or.inl ⟨by rfl, ?_⟩) ?_ ?_
                rotate_left
                · intro w'
                  go_simp
                  with_reducible rfl
                rotate_left
                · simp only [Act.put, List.setIfInBounds_toArray, List.set_cons_zero, List.set_cons_succ, i64_w, i32_w]
                  rfl
                refine take_ (i := 9) (N := some 202) (v := ?_) (a' := ?_) #[true, true, true, true, true, true, true, true, true, true, false, false, false] rfl rfl (by kernel_rfl) (fun _ _ _ h => h) (Or.inl ⟨by rfl, ?_⟩) hHeld ?_ ?_
                rotate_left
                · rintro w' ⟨s0, s1, s2, s3, s4, s5, s6, s7, s8⟩
                  refine exec_load_row 49 (.tmp 13) ?_ _ ?_ 49 (#[.int .i64 a, .int .i64 b, .int .i64 c, .int .i64 d, .int .i64 e, .slice (some ⟨gd, 0, none⟩) l5.length cd, .slice Ae l6.length ce]) (0, 0) _ s7 Try.underlying49 rfl (by kernel_rfl) <;> rfl
                rotate_left
                · simp only [Act.put, List.setIfInBounds_toArray, List.set_cons_zero, List.set_cons_succ, i64_w, i32_w]
                  rfl
                refine take_ (i := 10) (N := some 203) (v := ?_) (a' := ?_) #[true, true, true, true, true, true, true, true, true, true, true, false, false] rfl rfl (by kernel_rfl) (fun _ _ _ h => h) (Or.inl ⟨by rfl, ?_⟩) hHeld ?_ ?_
                rotate_left
                · rintro w' ⟨s0, s1, s2, s3, s4, s5, s6, s7, s8⟩
                  refine exec_load_row 49 (.tmp 3) ?_ _ ?_ 49 (#[.int .i64 a, .int .i64 b, .int .i64 c, .int .i64 d, .int .i64 e, .slice (some as_) l5.length c5, .slice A6 l6.length c6]) (0, 0) _ s8 Try.underlying49 rfl (by kernel_rfl) <;> rfl
                rotate_left
                · simp only [Act.put, List.setIfInBounds_toArray, List.set_cons_zero, List.set_cons_succ, i64_w, i32_w]
                  rfl
                refine one_ (i := 11) (N := some 204) #[true, true, true, true, true, true, true, true, true, true, true, true, false] rfl rfl (by kernel_rfl) (by decide) (fun K hK => ?_)
                refine goes_ Try.func22 (by kernel_rfl) rfl #[.agg #[.int .i64 a, .int .i64 b, .int .i64 c, .int .i64 d, .int .i64 e, .slice (some ⟨gd, 0, none⟩) l5.length cd, .slice Ae l6.length ce], .agg #[.int .i64 a, .int .i64 b, .int .i64 c, .int .i64 d, .int .i64 e, .slice (some as_) l5.length c5, .slice A6 l6.length c6]] (by rfl) rfl rfl (by simp only [List.map_toArray, List.map_cons, List.map_nil]; rfl) ?_
                with_reducible refine (same_L a b c d e (some ⟨gd, 0, none⟩) cd l5.length ((⟨(bits BinOp.xor IntKind.i64 x.f0 1), 0, 0, 0⟩ :: xs) :: ls) Ae ce l6 a b c d e (some as_) c5 l5 A6 c6 l6 _ (by rw [HLL.out, List.length_cons, List.length_cons]) (Kd.C_drew HP2.out) (Kd.C_drew (Kd.R_reads' HE2.out).2.2) HRel.out (Kd.C_below XhC5.out (below_drew BT.out)) (Kd.C_below XhC6.out (below_drew BT.out)) Xhc6.out (fun h => absurd (show bits BinOp.xor IntKind.i64 x.f0 1 = x.f0 by have h2 := h.trans HLL.out; injection h2 with h3 _; injection h3 with h4 _; exact congrArg S37.f0 h4) (xor_ne x.f0))).mono ?_
                rintro e_ wz ⟨rfl, hb⟩
                refine ⟨_, rfl, ?_⟩
                have S_2001 := Aside0.mk (blk_below (blk_drew S_2000.out) hb)
                have O_2001 := Aside0.mk (blk_below (blk_drew O_1922.out) hb)
                have C_2001 := Aside0.mk (blk_below (blk_drew C_1921.out) hb)
                have BZ := Aside0.mk (below_step (below_drew BT.out) hb)
                refine hK.out _ _ ⟨(blk_cell S_2001.out 5).trans rfl, (BZ.out.cell (World.block_lt_of_cell? w _ I0.out)).trans I0.out, (BZ.out.cell (World.block_lt_of_cell? w _ J0.out)).trans J0.out, (BZ.out.cell (World.block_lt_of_cell? w _ J1.out)).trans J1.out, (BZ.out.cell (World.block_lt_of_cell? w _ J2.out)).trans J2.out, (BZ.out.cell (World.block_lt_of_cell? w _ J3.out)).trans J3.out, O_2001.out, C_2001.out, S_2001.out⟩ (fun hHeld => ?_)
                clear hK K
                refine norm_ (a' := ?_) ?_ ?_
                rotate_left
                · show Act.put _ (some 204) _ = _
                  simp only [Act.put, List.setIfInBounds_toArray, List.set_cons_zero, List.set_cons_succ, i64_w, i32_w]
                  rfl
                refine pure_ (i := 12) (N := some 205) (v := ?_) (a' := ?_) #[true, true, true, true, true, true, true, true, true, true, true, true, true] rfl rfl (by kernel_rfl) (fun _ _ _ h => h) (Or.inl ⟨by rfl, ?_⟩) ?_ ?_
                rotate_left
                · intro w'
                  go_simp
                  with_reducible rfl
                rotate_left
                · simp only [Act.put, List.setIfInBounds_toArray, List.set_cons_zero, List.set_cons_succ, i64_w, i32_w]
                  rfl
                refine done_ (by kernel_rfl) ?_
                go_wp2_with fail
                go_ret
                exact ⟨rfl, BZ.out⟩
          · have hz := of_decide_eq_false hz
            go_wp2_with (first
              | ((with_reducible refine wpBi .eql 57 (.tmp 155) (.tmp 156) 57 ?_); refine wpList_value_g (by rfl) (exec_eq57 (.tmp 155) (.tmp 156) rfl _ _ _ rfl rfl false (decide_eq_false (fun h => hz h))) ?_)
              | ((with_reducible refine wpLd 49 (.tmp 3) ?_); refine wpList_load_row_g (by rfl) 49 (.tmp 3) rfl (w.heap.size) rfl 49 (#[.int .i64 a, .int .i64 b, .int .i64 c, .int .i64 d, .int .i64 e, .slice A5 l5.length c5, .slice A6 l6.length c6]) (0, 0) _ (blk_below S_906.out B1902.out) Try.underlying49 rfl (by kernel_rfl) ?_))
            have hcp := copy_f a b c d e l5 l6 (by have := Xhm.out; omega) (fun l hl => by have := Xhin.out l hl; omega) (by have := Xhbig.out; omega) (Nat.lt_succ_self l5.length)
            have HWW := Aside0.mk ((below_step (below_step B8.out B907.out) B1902.out).size)
            have SLT := Aside0.mk (show w.heap.size < w9.heap.size from blk_lt (blk_below S_906.out B1902.out))
            refine (script_Copy.calls _ a b c d e A5 c5 l5 A6 c6 l6 a b c d e l5 l6 _ (Kd.C_below XhC5.out (below_step (below_step B8.out B907.out) B1902.out)) Xhc5.out (Kd.C_below XhC6.out (below_step (below_step B8.out B907.out) B1902.out)) Xhc6.out hcp).mono ?_
            rintro e_ wc ⟨v5, v6, rfl, hS, hR, hb⟩
            obtain ⟨Ad, cd, rfl⟩ := Kd.S_slice hS
            obtain ⟨Ae, ce, rfl, hce, -⟩ := Kd.R_reads hR
            have HSd := Aside0.mk hS
            have HRe := Aside0.mk hR
            have HRel := Aside0.mk hce
            clear hS hR hce hcp
            have R_1903 := Aside0.mk (blk_below R_1901.out hb)
            have S_1904 := Aside0.mk (blk_below (blk_below S_906.out B1902.out) hb)
            have W_1905 := Aside0.mk (blk_below (blk_below W_905.out B1902.out) hb)
            have B1906 := Aside0.mk (below_step B1902.out hb)
            clear hb R_1901 S_906 W_905 B1902
            have L_C := Aside0.mk (show wc.heap.size ≤ wc.heap.size from Nat.le_refl _)
            have C_1907 := Aside0.mk (blk_new (wc) (.cells #[.int .i64 0, .int .i64 0, .int .i64 0, .int .i64 0, .int .i64 0, .slice none 0 0, .slice none 0 0] 49))
            have B1908 := Aside0.mk (below_alloc (Below.refl wc.heap.size wc) (.cells #[.int .i64 0, .int .i64 0, .int .i64 0, .int .i64 0, .int .i64 0, .slice none 0 0, .slice none 0 0] 49))
            obtain hl | ⟨l0, ls, hl⟩ : l5 = [] ∨ ∃ l0 ls, l5 = l0 :: ls := by
              cases l5 with
              | nil => exact .inl rfl
              | cons p q => exact .inr ⟨_, _, rfl⟩
            · have tz : decide ((0 : Int) < (l5.length : Int)) = false := decide_eq_false (by rw [hl]; simp)
              have tz2 := eq_false (show ¬ (0 : Int) < (l5.length : Int) by rw [hl]; simp)
              have tz3 : decide (0 < l5.length) = false := decide_eq_false (by rw [hl]; simp)
              have tz4 := eq_false (show ¬ 0 < l5.length by rw [hl]; simp)
              have tz5 := eq_true hl
              clear hl
              go_wp2_with (first
                | ((with_reducible refine wpSt 49 (.tmp 13) (.tmp 165) ?_); refine store_whole (w := wc) (B := wc.heap.size) rfl rfl 49 (.tmp 13) (.tmp 165) rfl (g := wc.heap.size) (cs := #[.int .i64 a, .int .i64 b, .int .i64 c, .int .i64 d, .int .i64 e, .slice Ad l5.length cd, .slice Ae l6.length ce]) rfl _ rfl rfl (by kernel_rfl) (by simp [Value.oneCell']) C_1907.out (rfl) L_C.out B1908.out ?_; intro w_1909 h1 h2 h3 h4; have C_1910 := Aside0.mk (h1); have B1911 := Aside0.mk (h2); clear h1 h2 h3 h4 C_1907 B1908; have q5 : w_1909.cell? ⟨wc.heap.size, 5, none⟩ = some (.slice Ad l5.length cd) := (blk_cell C_1910.out 5).trans rfl))
              go_ret
              exact ⟨rfl, (below_step (below_step (below_step B8.out B907.out) B1906.out) B1911.out)⟩
            · rcases l0 with _ | ⟨x, xs⟩
              · obtain ⟨ad, bv, cx, ea, dc⟩ := first_empty (Kd.S_reads' HSd.out).2.2 ls hl
                subst ea
                have DC := Aside0.mk dc
                clear dc
                have tz : decide ((0 : Int) < (l5.length : Int)) = true := decide_eq_true (by rw [hl, List.length_cons]; omega)
                have tz2 := eq_true (show (0 : Int) < (l5.length : Int) by rw [hl, List.length_cons]; omega)
                have tz3 : decide (0 < l5.length) = true := decide_eq_true (by rw [hl, List.length_cons]; omega)
                have tz4 := eq_true (show 0 < l5.length by rw [hl, List.length_cons]; omega)
                have tz5 := eq_false (show ¬ l5 = [] by rw [hl]; simp)
                clear hl
                go_wp2_with (first
                  | ((with_reducible refine wpSt 49 (.tmp 13) (.tmp 165) ?_); refine store_whole (w := wc) (B := wc.heap.size) rfl rfl 49 (.tmp 13) (.tmp 165) rfl (g := wc.heap.size) (cs := #[.int .i64 a, .int .i64 b, .int .i64 c, .int .i64 d, .int .i64 e, .slice (some ad) l5.length cd, .slice Ae l6.length ce]) rfl _ rfl rfl (by kernel_rfl) (by simp [Value.oneCell']) C_1907.out (rfl) L_C.out B1908.out ?_; intro w_1909 h1 h2 h3 h4; have C_1910 := Aside0.mk (h1); have B1911 := Aside0.mk (h2); clear h1 h2 h3 h4 C_1907 B1908; have q5 : w_1909.cell? ⟨wc.heap.size, 5, none⟩ = some (.slice (some ad) l5.length cd) := (blk_cell C_1910.out 5).trans rfl; have dc : w_1909.cell? ad = some (.slice bv 0 cx) := (B1911.out.cell (World.block_lt_of_cell? wc _ DC.out)).trans DC.out))
                go_ret
                exact ⟨rfl, (below_step (below_step (below_step B8.out B907.out) B1906.out) B1911.out)⟩
              · obtain ⟨gd, rfl⟩ : ∃ gd, Ad = some ⟨gd, 0, none⟩ := by
                  obtain ⟨gd, cap, hv, _⟩ := Kd.S_form HSd.out (by rw [hl]; simp)
                  injection hv with ha
                  exact ⟨gd, ha⟩
                obtain ⟨m0, hm0⟩ : ∃ m0, (x :: xs).length = m0 := ⟨_, rfl⟩
                have HM0 := Aside0.mk (show 0 < m0 by rw [← hm0]; simp)
                obtain ⟨gx, cx, dc, hbx, hlx, ⟨cur, hcur, hc4⟩, hput⟩ := lend1 HSd.out x xs ls hl m0 hm0
                have DC := Aside0.mk dc
                have HBX := Aside0.mk hbx
                have HLX := Aside0.mk hlx
                have HPUT := Aside0.mk hput
                have HC4 := Aside0.mk hc4
                have X0 := Aside0.mk hcur
                clear dc hbx hlx hput hc4 hcur
                obtain ⟨as_, bs_, cxs, ea, i0, j0, j1, j2, j3⟩ := first_cells XhC5.out x xs ls hl m0 hm0
                subst ea
                have I0 := Aside0.mk i0
                have J0 := Aside0.mk j0
                have J1 := Aside0.mk j1
                have J2 := Aside0.mk j2
                have J3 := Aside0.mk j3
                clear i0 j0 j1 j2 j3
                have tz : decide ((0 : Int) < (l5.length : Int)) = true := decide_eq_true (by rw [hl, List.length_cons]; omega)
                have tz2 := eq_true (show (0 : Int) < (l5.length : Int) by rw [hl, List.length_cons]; omega)
                have tz3 : decide (0 < l5.length) = true := decide_eq_true (by rw [hl, List.length_cons]; omega)
                have tz4 := eq_true (show 0 < l5.length by rw [hl, List.length_cons]; omega)
                have tz5 := eq_false (show ¬ l5 = [] by rw [hl]; simp)
                have ty3 : decide (0 < m0) = true := decide_eq_true HM0.out
                have ty4 := eq_true HM0.out
                have HLL := Aside0.mk hl
                clear hl hm0
                have ty : decide ((0 : Int) < (m0 : Int)) = true := decide_eq_true (by have := HM0.out; omega)
                have ty2 := eq_true (show (0 : Int) < (m0 : Int) by have := HM0.out; omega)
                go_wp2_with (first
                  | ((with_reducible refine wpSt 49 (.tmp 13) (.tmp 165) ?_); refine store_whole (w := wc) (B := wc.heap.size) rfl rfl 49 (.tmp 13) (.tmp 165) rfl (g := wc.heap.size) (cs := #[.int .i64 a, .int .i64 b, .int .i64 c, .int .i64 d, .int .i64 e, .slice (some ⟨gd, 0, none⟩) l5.length cd, .slice Ae l6.length ce]) rfl _ rfl rfl (by kernel_rfl) (by simp [Value.oneCell']) C_1907.out (rfl) L_C.out B1908.out ?_; intro w_1909 h1 h2 h3 h4; have C_1910 := Aside0.mk (h1); have B1911 := Aside0.mk (h2); clear h1 h2 h3 h4 C_1907 B1908; have q5 : w_1909.cell? ⟨wc.heap.size, 5, none⟩ = some (.slice (some ⟨gd, 0, none⟩) l5.length cd) := (blk_cell C_1910.out 5).trans rfl; have dc : w_1909.cell? ⟨gd, 0, none⟩ = some (.slice (some ⟨gx, 0, none⟩) m0 cx) := (B1911.out.cell (World.block_lt_of_cell? wc _ DC.out)).trans DC.out; have s5 : w_1909.cell? ⟨w.heap.size, 5, none⟩ = some (.slice (some as_) l5.length c5) := (blk_cell (blk_below S_1904.out B1911.out) 5).trans rfl; have k0 : w_1909.cell? as_ = some (.slice (some bs_) m0 cxs) := ((below_step (below_step (below_step B8.out B907.out) B1906.out) B1911.out).cell (World.block_lt_of_cell? w _ I0.out)).trans I0.out; have k1 : w_1909.cell? bs_ = some (.int .i64 x.f0) := ((below_step (below_step (below_step B8.out B907.out) B1906.out) B1911.out).cell (World.block_lt_of_cell? w _ J0.out)).trans J0.out; have k2 : w_1909.cell? ⟨bs_.block, bs_.off + 1, none⟩ = some (.int .u64 x.f1) := ((below_step (below_step (below_step B8.out B907.out) B1906.out) B1911.out).cell (World.block_lt_of_cell? w _ J1.out)).trans J1.out; have k3 : w_1909.cell? ⟨bs_.block, bs_.off + 2, none⟩ = some (.int .u64 x.f2) := ((below_step (below_step (below_step B8.out B907.out) B1906.out) B1911.out).cell (World.block_lt_of_cell? w _ J2.out)).trans J2.out; have k4 : w_1909.cell? ⟨bs_.block, bs_.off + 3, none⟩ = some (.int .i64 x.f3) := ((below_step (below_step (below_step B8.out B907.out) B1906.out) B1911.out).cell (World.block_lt_of_cell? w _ J3.out)).trans J3.out; have L_O := Aside0.mk (show wc.heap.size ≤ w_1909.heap.size from B1911.out.size); have NE_C_O := Aside0.mk (show wc.heap.size ≠ w_1909.heap.size by have := blk_lt C_1910.out; omega); have C_1912 := Aside0.mk (blk_alloc C_1910.out (.cells #[.int .i64 0, .int .u64 0, .int .u64 0, .int .i64 0] 37)); have O_1913 := Aside0.mk (blk_new (w_1909) (.cells #[.int .i64 0, .int .u64 0, .int .u64 0, .int .i64 0] 37)); have B1914 := Aside0.mk (below_alloc B1911.out (.cells #[.int .i64 0, .int .u64 0, .int .u64 0, .int .i64 0] 37)); clear C_1910 B1911)
                  | ((with_reducible refine wpSt 37 (.tmp 14) (.tmp 183) ?_); refine store_whole (w := wc) (B := wc.heap.size) rfl rfl 37 (.tmp 14) (.tmp 183) rfl (g := w_1909.heap.size) (cs := #[.int .i64 x.f0, .int .u64 x.f1, .int .u64 x.f2, .int .i64 x.f3]) rfl _ rfl rfl (by kernel_rfl) (by simp [Value.oneCell']) O_1913.out (rfl) L_O.out B1914.out ?_; intro w_1915 h1 h2 h3 h4; have C_1916 := Aside0.mk ((h3 _ NE_C_O.out).trans C_1912.out); have O_1917 := Aside0.mk (h1); have B1918 := Aside0.mk (h2); clear h1 h2 h3 h4 C_1912 O_1913 B1914))
                refine start_ (n := 10) (S := fun w' => w'.cell? ⟨wc.heap.size, 5, none⟩ = some (.slice (some ⟨gd, 0, none⟩) l5.length cd) ∧ w'.cell? ⟨gd, 0, none⟩ = some (.slice (some ⟨gx, 0, none⟩) m0 cx) ∧ w'.cell? ⟨w_1909.heap.size, 0, none⟩ = some (.int .i64 x.f0)) (ds := [9]) #[false, false, false, false, false, false, false, false, false, false] (by kernel_rfl) rfl rfl ⟨(blk_cell (blk_drew C_1916.out) 5).trans rfl, ((below_drew B1918.out).cell (World.block_lt_of_cell? wc _ DC.out)).trans DC.out, (blk_cell (blk_drew O_1917.out) 0).trans rfl⟩ (fun hHeld => ?_)
                refine pure_ (i := 0) (N := some 184) (v := ?_) (a' := ?_) #[true, false, false, false, false, false, false, false, false, false] rfl rfl (by kernel_rfl) (fun _ _ _ h => h) (Or.inl ⟨by rfl, ?_⟩) ?_ ?_
                rotate_left
                · intro w'
                  go_simp
                  with_reducible rfl
                rotate_left
                · simp only [Act.put, List.setIfInBounds_toArray, List.set_cons_zero, List.set_cons_succ, i64_w, i32_w]
                  rfl
                refine pure_ (i := 4) (N := some 188) (v := ?_) (a' := ?_) #[true, false, false, false, true, false, false, false, false, false] rfl rfl (by kernel_rfl) (fun _ _ _ h => h) (Or.inl ⟨by rfl, ?_⟩) ?_ ?_
                rotate_left
                · intro w'
                  go_simp
                  with_reducible rfl
                rotate_left
                · simp only [Act.put, List.setIfInBounds_toArray, List.set_cons_zero, List.set_cons_succ, i64_w, i32_w]
                  rfl
                refine take_ (i := 1) (N := some 185) (v := ?_) (a' := ?_) #[true, true, false, false, true, false, false, false, false, false] rfl rfl (by kernel_rfl) (fun _ _ _ h => h) (Or.inl ⟨by rfl, ?_⟩) hHeld ?_ ?_
                rotate_left
                · rintro w' ⟨s0, s1, s2⟩
                  go_simp
                  with_reducible rfl
                rotate_left
                · simp only [Act.put, List.setIfInBounds_toArray, List.set_cons_zero, List.set_cons_succ, i64_w, i32_w]
                  rfl
                refine pure_ (i := 2) (N := some 186) (v := ?_) (a' := ?_) #[true, true, true, false, true, false, false, false, false, false] rfl rfl (by kernel_rfl) (fun _ _ _ h => h) (Or.inl ⟨by rfl, ?_⟩) ?_ ?_
                rotate_left
                · intro w'
                  go_simp
                  with_reducible rfl
                rotate_left
                · simp only [Act.put, List.setIfInBounds_toArray, List.set_cons_zero, List.set_cons_succ, i64_w, i32_w]
                  rfl
                refine take_ (i := 3) (N := some 187) (v := ?_) (a' := ?_) #[true, true, true, true, true, false, false, false, false, false] rfl rfl (by kernel_rfl) (fun _ _ _ h => h) (Or.inl ⟨by rfl, ?_⟩) hHeld ?_ ?_
                rotate_left
                · rintro w' ⟨s0, s1, s2⟩
                  go_simp
                  with_reducible rfl
                rotate_left
                · simp only [Act.put, List.setIfInBounds_toArray, List.set_cons_zero, List.set_cons_succ, i64_w, i32_w]
                  rfl
                refine take_ (i := 5) (N := some 189) (v := ?_) (a' := ?_) #[true, true, true, true, true, true, false, false, false, false] rfl rfl (by kernel_rfl) (fun _ _ _ h => h) (Or.inl ⟨by rfl, ?_⟩) hHeld ?_ ?_
                rotate_left
                · rintro w' ⟨s0, s1, s2⟩
                  go_simp
                  with_reducible rfl
                rotate_left
                · simp only [Act.put, List.setIfInBounds_toArray, List.set_cons_zero, List.set_cons_succ, i64_w, i32_w]
                  rfl
                refine pure_ (i := 6) (N := some 190) (v := ?_) (a' := ?_) #[true, true, true, true, true, true, true, false, false, false] rfl rfl (by kernel_rfl) (fun _ _ _ h => h) (Or.inl ⟨by rfl, ?_⟩) ?_ ?_
                rotate_left
                · intro w'
                  go_simp
                  with_reducible rfl
                rotate_left
                · simp only [Act.put, List.setIfInBounds_toArray, List.set_cons_zero, List.set_cons_succ, i64_w, i32_w]
                  rfl
                refine pure_ (i := 7) (N := some 191) (v := ?_) (a' := ?_) #[true, true, true, true, true, true, true, true, false, false] rfl rfl (by kernel_rfl) (fun _ _ _ h => h) (Or.inl ⟨by rfl, ?_⟩) ?_ ?_
                rotate_left
                · intro w'
                  go_simp
                  with_reducible rfl
                rotate_left
                · simp only [Act.put, List.setIfInBounds_toArray, List.set_cons_zero, List.set_cons_succ, i64_w, i32_w]
                  rfl
                refine pure_ (i := 8) (N := some 192) (v := ?_) (a' := ?_) #[true, true, true, true, true, true, true, true, true, false] rfl rfl (by kernel_rfl) (fun _ _ _ h => h) (Or.inl ⟨by rfl, ?_⟩) ?_ ?_
                rotate_left
                · intro w'
                  go_simp
                  with_reducible rfl
                rotate_left
                · simp only [Act.put, List.setIfInBounds_toArray, List.set_cons_zero, List.set_cons_succ, i64_w, i32_w]
                  rfl
                refine last_ (i := 9) (N := none) #[true, true, true, true, true, true, true, true, true, true] rfl rfl (by kernel_rfl) (by decide) (fun K hK => ?_)
                refine skip_part 37 (.tmp 192) (.tmp 191) (by rfl) rfl rfl (four ⟨(bits BinOp.xor IntKind.i64 x.f0 1), 0, 0, 0⟩) (g := gx) ?_ (.agg #[.int .i64 (bits BinOp.xor IntKind.i64 x.f0 1), .int .u64 0, .int .u64 0, .int .i64 0]) ?_ rfl (by kernel_rfl) (by simp [four, Value.oneCell']) (blk_below X0.out (below_drew B1918.out)) HC4.out ?_
                · rfl
                · rfl
                have C_1919 := Aside0.mk (blk_part (seg := four ⟨(bits BinOp.xor IntKind.i64 x.f0 1), 0, 0, 0⟩) (blk_drew C_1916.out) (show wc.heap.size ≠ gx by have := HLX.out; have := L_C.out; omega))
                have O_1920 := Aside0.mk (blk_part (seg := four ⟨(bits BinOp.xor IntKind.i64 x.f0 1), 0, 0, 0⟩) (blk_drew O_1917.out) (show w_1909.heap.size ≠ gx by have := HLX.out; have := L_O.out; omega))
                have S_2000 := Aside0.mk (blk_part (seg := four ⟨(bits BinOp.xor IntKind.i64 x.f0 1), 0, 0, 0⟩) (blk_below S_1904.out (below_drew B1918.out)) (show w.heap.size ≠ gx by have := SLT.out; have := HBX.out; omega))
                have BT := Aside0.mk (below_part (seg := four ⟨(bits BinOp.xor IntKind.i64 x.f0 1), 0, 0, 0⟩) (below_step (below_step (below_step B8.out B907.out) B1906.out) (below_drew B1918.out)) (show w.heap.size ≤ gx by have := HBX.out; have := HWW.out; omega))
                have HE2 := Aside0.mk (int_part (seg := four ⟨(bits BinOp.xor IntKind.i64 x.f0 1), 0, 0, 0⟩) (Kd.R_below HRe.out (below_drew B1918.out)) (blk_below X0.out (below_drew B1918.out)))
                have HP2 := Aside0.mk (HPUT.out _ (below_drew B1918.out) ⟨(bits BinOp.xor IntKind.i64 x.f0 1), 0, 0, 0⟩)
                refine hK.out _ _ ?_
                clear hK K
                refine done_ (by kernel_rfl) ?_
                go_wp2_with fail
                have n0 : (x.f0 != x.f0) = false := by simp
                have n1 : (x.f1 != x.f1) = false := by simp
                have n2 : (x.f2 != x.f2) = false := by simp
                have n3 : (x.f3 != x.f3) = false := by simp
                refine start_ (n := 13) (S := fun w' => w'.cell? ⟨w.heap.size, 5, none⟩ = some (.slice (some as_) l5.length c5) ∧ w'.cell? as_ = some (.slice (some bs_) m0 cxs) ∧ w'.cell? bs_ = some (.int .i64 x.f0) ∧ w'.cell? ⟨bs_.block, bs_.off + 1, none⟩ = some (.int .u64 x.f1) ∧ w'.cell? ⟨bs_.block, bs_.off + 2, none⟩ = some (.int .u64 x.f2) ∧ w'.cell? ⟨bs_.block, bs_.off + 3, none⟩ = some (.int .i64 x.f3) ∧ w'.heap[w_1909.heap.size]? = some (.cells (#[.int .i64 x.f0, .int .u64 x.f1, .int .u64 x.f2, .int .i64 x.f3]) 37 (0, 0)) ∧ w'.heap[wc.heap.size]? = some (.cells (#[.int .i64 a, .int .i64 b, .int .i64 c, .int .i64 d, .int .i64 e, .slice (some ⟨gd, 0, none⟩) l5.length cd, .slice Ae l6.length ce]) 49 (0, 0)) ∧ w'.heap[w.heap.size]? = some (.cells (#[.int .i64 a, .int .i64 b, .int .i64 c, .int .i64 d, .int .i64 e, .slice (some as_) l5.length c5, .slice A6 l6.length c6]) 49 (0, 0))) (ds := []) #[false, false, false, false, false, false, false, false, false, false, false, false, false] (by kernel_rfl) rfl rfl ⟨(blk_cell (blk_drew S_2000.out) 5).trans rfl, ((below_drew BT.out).cell (World.block_lt_of_cell? w _ I0.out)).trans I0.out, ((below_drew BT.out).cell (World.block_lt_of_cell? w _ J0.out)).trans J0.out, ((below_drew BT.out).cell (World.block_lt_of_cell? w _ J1.out)).trans J1.out, ((below_drew BT.out).cell (World.block_lt_of_cell? w _ J2.out)).trans J2.out, ((below_drew BT.out).cell (World.block_lt_of_cell? w _ J3.out)).trans J3.out, blk_drew O_1920.out, blk_drew C_1919.out, blk_drew S_2000.out⟩ (fun hHeld => ?_)
                refine pure_ (i := 0) (N := some 193) (v := ?_) (a' := ?_) #[true, false, false, false, false, false, false, false, false, false, false, false, false] rfl rfl (by kernel_rfl) (fun _ _ _ h => h) (Or.inl ⟨by rfl, ?_⟩) ?_ ?_
                rotate_left
                · intro w'
                  go_simp
                  with_reducible rfl
                rotate_left
                · simp only [Act.put, List.setIfInBounds_toArray, List.set_cons_zero, List.set_cons_succ, i64_w, i32_w]
                  rfl
                refine take_ (i := 1) (N := some 194) (v := ?_) (a' := ?_) #[true, true, false, false, false, false, false, false, false, false, false, false, false] rfl rfl (by kernel_rfl) (fun _ _ _ h => h) (Or.inl ⟨by rfl, ?_⟩) hHeld ?_ ?_
                rotate_left
                · rintro w' ⟨s0, s1, s2, s3, s4, s5, s6, s7, s8⟩
                  go_simp
                  with_reducible rfl
                rotate_left
                · simp only [Act.put, List.setIfInBounds_toArray, List.set_cons_zero, List.set_cons_succ, i64_w, i32_w]
                  rfl
                refine pure_ (i := 2) (N := some 195) (v := ?_) (a' := ?_) #[true, true, true, false, false, false, false, false, false, false, false, false, false] rfl rfl (by kernel_rfl) (fun _ _ _ h => h) (Or.inl ⟨by rfl, ?_⟩) ?_ ?_
                rotate_left
                · intro w'
                  go_simp
                  with_reducible rfl
                rotate_left
                · simp only [Act.put, List.setIfInBounds_toArray, List.set_cons_zero, List.set_cons_succ, i64_w, i32_w]
                  rfl
                refine take_ (i := 3) (N := some 196) (v := ?_) (a' := ?_) #[true, true, true, true, false, false, false, false, false, false, false, false, false] rfl rfl (by kernel_rfl) (fun _ _ _ h => h) (Or.inl ⟨by rfl, ?_⟩) hHeld ?_ ?_
                rotate_left
                · rintro w' ⟨s0, s1, s2, s3, s4, s5, s6, s7, s8⟩
                  go_simp
                  with_reducible rfl
                rotate_left
                · simp only [Act.put, List.setIfInBounds_toArray, List.set_cons_zero, List.set_cons_succ, i64_w, i32_w]
                  rfl
                refine pure_ (i := 4) (N := some 197) (v := ?_) (a' := ?_) #[true, true, true, true, true, false, false, false, false, false, false, false, false] rfl rfl (by kernel_rfl) (fun _ _ _ h => h) (Or.inl ⟨by rfl, ?_⟩) ?_ ?_
                rotate_left
                · intro w'
                  go_simp
                  with_reducible rfl
                rotate_left
                · simp only [Act.put, List.setIfInBounds_toArray, List.set_cons_zero, List.set_cons_succ, i64_w, i32_w]
                  rfl
                refine take_ (i := 5) (N := some 198) (v := ?_) (a' := ?_) #[true, true, true, true, true, true, false, false, false, false, false, false, false] rfl rfl (by kernel_rfl) (fun _ _ _ h => h) (Or.inl ⟨by rfl, ?_⟩) hHeld ?_ ?_
                rotate_left
                · rintro w' ⟨s0, s1, s2, s3, s4, s5, s6, s7, s8⟩
                  go_simp
                  with_reducible rfl
                rotate_left
                · simp only [Act.put, List.setIfInBounds_toArray, List.set_cons_zero, List.set_cons_succ, i64_w, i32_w]
                  rfl
                refine take_ (i := 6) (N := some 199) (v := ?_) (a' := ?_) #[true, true, true, true, true, true, true, false, false, false, false, false, false] rfl rfl (by kernel_rfl) (fun _ _ _ h => h) (Or.inl ⟨by rfl, ?_⟩) hHeld ?_ ?_
                rotate_left
                · rintro w' ⟨s0, s1, s2, s3, s4, s5, s6, s7, s8⟩
                  refine exec_load_row 37 (.tmp 14) ?_ _ ?_ 37 (#[.int .i64 x.f0, .int .u64 x.f1, .int .u64 x.f2, .int .i64 x.f3]) (0, 0) _ s6 Try.underlying37 rfl (by kernel_rfl) <;> rfl
                rotate_left
                · simp only [Act.put, List.setIfInBounds_toArray, List.set_cons_zero, List.set_cons_succ, i64_w, i32_w]
                  rfl
                refine pure_ (i := 7) (N := some 200) (v := ?_) (a' := ?_) #[true, true, true, true, true, true, true, true, false, false, false, false, false] rfl rfl (by kernel_rfl) (fun _ _ _ h => h) (Or.inl ⟨by rfl, ?_⟩) ?_ ?_
                rotate_left
                · intro w'
                  go_simp
                  with_reducible rfl
                rotate_left
                · simp only [Act.put, List.setIfInBounds_toArray, List.set_cons_zero, List.set_cons_succ, i64_w, i32_w]
                  rfl
                refine pure_ (i := 8) (N := some 201) (v := ?_) (a' := ?_) #[true, true, true, true, true, true, true, true, true, false, false, false, false] rfl rfl (by kernel_rfl) (fun _ _ _ h => h) (Or.inl ⟨by rfl, ?_⟩) ?_ ?_
                rotate_left
                · intro w'
                  go_simp
                  with_reducible rfl
                rotate_left
                · simp only [Act.put, List.setIfInBounds_toArray, List.set_cons_zero, List.set_cons_succ, i64_w, i32_w]
                  rfl
                refine take_ (i := 9) (N := some 202) (v := ?_) (a' := ?_) #[true, true, true, true, true, true, true, true, true, true, false, false, false] rfl rfl (by kernel_rfl) (fun _ _ _ h => h) (Or.inl ⟨by rfl, ?_⟩) hHeld ?_ ?_
                rotate_left
                · rintro w' ⟨s0, s1, s2, s3, s4, s5, s6, s7, s8⟩
                  refine exec_load_row 49 (.tmp 13) ?_ _ ?_ 49 (#[.int .i64 a, .int .i64 b, .int .i64 c, .int .i64 d, .int .i64 e, .slice (some ⟨gd, 0, none⟩) l5.length cd, .slice Ae l6.length ce]) (0, 0) _ s7 Try.underlying49 rfl (by kernel_rfl) <;> rfl
                rotate_left
                · simp only [Act.put, List.setIfInBounds_toArray, List.set_cons_zero, List.set_cons_succ, i64_w, i32_w]
                  rfl
                refine take_ (i := 10) (N := some 203) (v := ?_) (a' := ?_) #[true, true, true, true, true, true, true, true, true, true, true, false, false] rfl rfl (by kernel_rfl) (fun _ _ _ h => h) (Or.inl ⟨by rfl, ?_⟩) hHeld ?_ ?_
                rotate_left
                · rintro w' ⟨s0, s1, s2, s3, s4, s5, s6, s7, s8⟩
                  refine exec_load_row 49 (.tmp 3) ?_ _ ?_ 49 (#[.int .i64 a, .int .i64 b, .int .i64 c, .int .i64 d, .int .i64 e, .slice (some as_) l5.length c5, .slice A6 l6.length c6]) (0, 0) _ s8 Try.underlying49 rfl (by kernel_rfl) <;> rfl
                rotate_left
                · simp only [Act.put, List.setIfInBounds_toArray, List.set_cons_zero, List.set_cons_succ, i64_w, i32_w]
                  rfl
                refine one_ (i := 11) (N := some 204) #[true, true, true, true, true, true, true, true, true, true, true, true, false] rfl rfl (by kernel_rfl) (by decide) (fun K hK => ?_)
                refine goes_ Try.func22 (by kernel_rfl) rfl #[.agg #[.int .i64 a, .int .i64 b, .int .i64 c, .int .i64 d, .int .i64 e, .slice (some ⟨gd, 0, none⟩) l5.length cd, .slice Ae l6.length ce], .agg #[.int .i64 a, .int .i64 b, .int .i64 c, .int .i64 d, .int .i64 e, .slice (some as_) l5.length c5, .slice A6 l6.length c6]] (by rfl) rfl rfl (by simp only [List.map_toArray, List.map_cons, List.map_nil]; rfl) ?_
                with_reducible refine (same_L a b c d e (some ⟨gd, 0, none⟩) cd l5.length ((⟨(bits BinOp.xor IntKind.i64 x.f0 1), 0, 0, 0⟩ :: xs) :: ls) Ae ce l6 a b c d e (some as_) c5 l5 A6 c6 l6 _ (by rw [HLL.out, List.length_cons, List.length_cons]) (Kd.C_drew HP2.out) (Kd.C_drew (Kd.R_reads' HE2.out).2.2) HRel.out (Kd.C_below XhC5.out (below_drew BT.out)) (Kd.C_below XhC6.out (below_drew BT.out)) Xhc6.out (fun h => absurd (show bits BinOp.xor IntKind.i64 x.f0 1 = x.f0 by have h2 := h.trans HLL.out; injection h2 with h3 _; injection h3 with h4 _; exact congrArg S37.f0 h4) (xor_ne x.f0))).mono ?_
                rintro e_ wz ⟨rfl, hb⟩
                refine ⟨_, rfl, ?_⟩
                have S_2001 := Aside0.mk (blk_below (blk_drew S_2000.out) hb)
                have O_2001 := Aside0.mk (blk_below (blk_drew O_1920.out) hb)
                have C_2001 := Aside0.mk (blk_below (blk_drew C_1919.out) hb)
                have BZ := Aside0.mk (below_step (below_drew BT.out) hb)
                refine hK.out _ _ ⟨(blk_cell S_2001.out 5).trans rfl, (BZ.out.cell (World.block_lt_of_cell? w _ I0.out)).trans I0.out, (BZ.out.cell (World.block_lt_of_cell? w _ J0.out)).trans J0.out, (BZ.out.cell (World.block_lt_of_cell? w _ J1.out)).trans J1.out, (BZ.out.cell (World.block_lt_of_cell? w _ J2.out)).trans J2.out, (BZ.out.cell (World.block_lt_of_cell? w _ J3.out)).trans J3.out, O_2001.out, C_2001.out, S_2001.out⟩ (fun hHeld => ?_)
                clear hK K
                refine norm_ (a' := ?_) ?_ ?_
                rotate_left
                · show Act.put _ (some 204) _ = _
                  simp only [Act.put, List.setIfInBounds_toArray, List.set_cons_zero, List.set_cons_succ, i64_w, i32_w]
                  rfl
                refine pure_ (i := 12) (N := some 205) (v := ?_) (a' := ?_) #[true, true, true, true, true, true, true, true, true, true, true, true, true] rfl rfl (by kernel_rfl) (fun _ _ _ h => h) (Or.inl ⟨by rfl, ?_⟩) ?_ ?_
                rotate_left
                · intro w'
                  go_simp
                  with_reducible rfl
                rotate_left
                · simp only [Act.put, List.setIfInBounds_toArray, List.set_cons_zero, List.set_cons_succ, i64_w, i32_w]
                  rfl
                refine done_ (by kernel_rfl) ?_
                go_wp2_with fail
                go_ret
                exact ⟨rfl, BZ.out⟩
theorem turns_T (a b c d e : Int) (A5 : Option Addr) (c5 : Nat) (l5 : List (List S37)) (A6 : Option Addr) (c6 : Nat) (l6 : List Int) (t n : Int) (w : World) (hC5 : Kd.C (Kd.slice 37 k37) w A5 l5.length l5) (hc5 : l5.length ≤ c5) (hC6 : Kd.C (Kd.int .i64) w A6 l6.length l6) (hc6 : l6.length ≤ c6) :
    Calls Try.prog 8 #[.agg #[.int .i64 a, .int .i64 b, .int .i64 c, .int .i64 d, .int .i64 e, .slice A5 l5.length c5, .slice A6 l6.length c6], .int .i64 t, .int .i64 n] w fun e_ w' => e_ = .returned (.bool true) ∧ Below w.heap.size w w' := by
  obtain ⟨g, hg, hq⟩ := great_f a b c d e l5 l6 (k := 200) (Nat.le_refl _)
  cases g with
  | true => exact turns_g a b c d e A5 c5 l5 A6 c6 l6 t n 200 w hC5 hc5 hC6 hc6 hg
  | false =>
    obtain ⟨hm, h6, hin⟩ := hq rfl
    by_cases hb : 4096 < l6.length
    · exact turns_l a b c d e A5 c5 l5 A6 c6 l6 t n 200 w hC5 hc5 hC6 hc6 hg hb
    · exact turns_ok a b c d e A5 c5 l5 A6 c6 l6 t n 200 w hC5 hc5 hC6 hc6 hg (by omega) hm (fun l hl => by
        obtain ⟨i, hi, rfl⟩ := List.getElem_of_mem hl
        have h1 := hin (i : Int) (by omega) (by omega)
        have h2 : rd_L3 l5 (i : Int) = l5[i] := by simp [rd_L3, hi]
        rw [h2] at h1
        exact h1)
def revenantlaw22_ScriptTurns.f (a0_0 a0_1 a0_2 a0_3 a0_4 : Int) (l0_5 : List (List S37)) (l0_6 : List Int) (a1 a2 : Int) : Option Bool := some true
theorem revenantlaw22_ScriptTurns.calls (a0_0 a0_1 a0_2 a0_3 a0_4 : Int) (A0_5 : Option Addr) (c0_5 : Nat) (l0_5 : List (List S37)) (A0_6 : Option Addr) (c0_6 : Nat) (l0_6 : List Int) (a1 a2 : Int) (r : Bool) (w : World) (hr0_5 : Kd.C (Kd.slice 37 k37) w A0_5 l0_5.length l0_5) (hc0_5 : l0_5.length ≤ c0_5) (hr0_6 : Kd.C (Kd.int .i64) w A0_6 l0_6.length l0_6) (hc0_6 : l0_6.length ≤ c0_6)
    (h : revenantlaw22_ScriptTurns.f a0_0 a0_1 a0_2 a0_3 a0_4 l0_5 l0_6 a1 a2 = some r) :
    Calls Try.prog 8 #[.agg #[.int .i64 a0_0, .int .i64 a0_1, .int .i64 a0_2, .int .i64 a0_3, .int .i64 a0_4, .slice A0_5 l0_5.length c0_5, .slice A0_6 l0_6.length c0_6], .int .i64 a1, .int .i64 a2] w fun e w' => e = .returned (.bool r) ∧ Below w.heap.size w w' := by
  obtain rfl := Option.some.inj h
  exact turns_T _ _ _ _ _ _ _ _ _ _ _ _ _ w hr0_5 hc0_5 hr0_6 hc0_6
theorem RScriptTurns (a0_0 a0_1 a0_2 a0_3 a0_4 : Int) (l0_5 : List (List S37)) (l0_6 : List Int) (a1 a2 : Int) {P Q R : Prop} (_ : P) (_ : Q) (_ : R) : revenantlaw22_ScriptTurns.f a0_0 a0_1 a0_2 a0_3 a0_4 l0_5 l0_6 a1 a2 = some true := rfl
end Go.Proofs.Ytcphmelmieedfaa.PScriptTurns

