/-
script.Same tells whether two scripts are the same.
-/
import Derived.Test.YtcphmelmieedfaaTurnsA
namespace Go.Proofs.Ytcphmelmieedfaa.PScriptTurns
open Go.RowKit Go.Proofs.YtcphmelmieedfaaW.PrintWords Go.Proofs.YtcphmelmieedfaaW.PrintLast Go.Proofs.YtcphmelmieedfaaW.PrintMore
attribute [local go_sem] max2_int min2_int max_two min_two max_three min_three max_four min_four
set_option linter.unusedVariables false
set_option linter.unusedSimpArgs false
set_option maxHeartbeats 8000000 in
set_option maxRecDepth 100000 in
theorem equalFunc_T (A0 : Option Addr) (c0 : Nat) (l0 : List (List S37)) (A1 : Option Addr) (c1 : Nat) (l1 : List (List S37)) (w : World) (hr0 : Kd.C (Kd.slice 37 k37) w A0 l0.length l0) (hr1 : Kd.C (Kd.slice 37 k37) w A1 l1.length l1) :
    Calls Try.prog 43 #[.slice A0 l0.length c0, .slice A1 l1.length c1, .func (.func 44) #[] #[]] w fun e w' => e = .returned (.bool (decide (l0 = l1))) ∧ Below w.heap.size w w' := by
  have HR0 := Aside0.mk hr0
  have HR1 := Aside0.mk hr1
  have HL := Aside0.mk hr0.2.1
  clear hr0 hr1
  by_cases hl : l0.length = l1.length
  · have HLL := Aside0.mk hl
    have tl : ((l0.length : Int) != (l1.length : Int)) = false := bne_eq_false_iff_eq.mpr (by omega)
    have HA := Aside0.mk (show decide (l0.drop 0 = l1.drop 0) = decide (l0 = l1) from rfl)
    generalize decide (l0 = l1) = r at *
    clear hl
    go_enter Try.func43, Try.ntmps43
    go_wp2_with fail
    go_loopg [6, 17] l0.length (fun kq v6 v17 w' => ∃ (i : Int), v6 = .bool false ∧ v17 = .int .i64 i ∧ Aside0 (0 ≤ i ∧ i + kq = l0.length) ∧ Aside0 (decide (l0.drop i.toNat = l1.drop i.toNat) = r) ∧ Aside0 (Below w.heap.size w w'))
    case atStart => exact ⟨0, rfl, rfl, ⟨by omega⟩, HA, ⟨Below.refl _ _⟩⟩
    case round =>
      clear HA
      obtain ⟨i, rfl, rfl, HK, HA, HB⟩ := hrel
      by_cases hi : i < (l0.length : Int)
      · have t1 : decide (i < (l0.length : Int)) = true := decide_eq_true hi
        have t2 : decide (i < (l1.length : Int)) = true := decide_eq_true (by have := HLL.out; omega)
        have p0 : (0 : Int) ≤ i := HK.out.1
        have q0 : i < (l0.length : Int) := hi
        have q1 : i < (l1.length : Int) := by have := HLL.out; omega
        clear hi
        obtain ⟨ko, rfl⟩ : ∃ m, gk = m + 1 := ⟨gk - 1, by have := HK.out; omega⟩
        obtain ⟨ad0, B0, d0, e0, hx0, hd0, hC0⟩ := at_L3 HR0.out i p0 q0
        obtain ⟨ad1, B1, d1, e1, hx1, hd1, hC1⟩ := at_L3 HR1.out i p0 q1
        cases e0
        cases e1
        have hd := HA.out
        rw [drop_rdL l0 i p0 q0, drop_rdL l1 i p0 q1] at hd
        have HD := Aside0.mk hd
        have HC0 := Aside0.mk (Kd.C_below hC0 HB.out)
        have HC1 := Aside0.mk (Kd.C_below hC1 HB.out)
        have HD0 := Aside0.mk hd0
        have HD1 := Aside0.mk hd1
        replace hx0 := (HB.out.cell (World.block_lt_of_cell? w _ hx0)).trans hx0
        replace hx1 := (HB.out.cell (World.block_lt_of_cell? w _ hx1)).trans hx1
        clear hd HA hC0 hC1 hd0 hd1
        have p0b : decide (0 ≤ i) = true := decide_eq_true p0
        have p0c := Aside0.mk p0
        have q0c := Aside0.mk q0
        replace p0 := eq_true p0
        replace q0 := eq_true q0
        replace q1 := eq_true q1
        go_wp2_with fail
        refine (api_Op_44.calls ((rd_L3 l0 i).length + 2) B0 d0 _ B1 d1 _ (decide (rd_L3 l0 i = rd_L3 l1 i)) wr HC0.out HD0.out HC1.out HD1.out (eqOp_f HC0.out.2.1)).mono ?_
        rintro e w5 ⟨rfl, ⟨n, rfl⟩⟩
        have b3 : i < 9223372036854775807 := by have := q0c.out; have := HL.out; omega
        have b4 : 0 ≤ i := p0c.out
        by_cases he : rd_L3 l0 i = rd_L3 l1 i
        · rw [decide_eq_true he]
          have HE := Aside0.mk he
          clear he
          go_wp2_with fail
          go_roundg ko
          case rel =>
            refine ⟨i + 1, rfl, rfl, ⟨by have := HK.out; omega⟩, ⟨?_⟩, ⟨pw_below_drewN HB.out _⟩⟩
            have := HD.out
            rw [HE.out] at this
            simpa using this
          case measure => exact Nat.lt_succ_self _
        · rw [decide_eq_false he]
          obtain rfl : r = false := by
            have := HD.out
            rw [← this, decide_eq_false_iff_not]
            intro e
            exact he (List.cons.inj e).1
          clear he HD
          go_wp2_with fail
          go_ret
          exact ⟨rfl, pw_below_drewN HB.out _⟩
      · have t1 : decide (i < (l0.length : Int)) = false := decide_eq_false hi
        obtain rfl : r = true := by
          have := HA.out
          rw [List.drop_of_length_le (by omega), List.drop_of_length_le (by have := HLL.out; omega)] at this
          simpa using this.symm
        clear hi HA
        go_wp2_with fail
        go_ret
        exact ⟨rfl, HB.out⟩
  · have tl : ((l0.length : Int) != (l1.length : Int)) = true := bne_iff_ne.mpr (by omega)
    have HE := Aside0.mk (show decide (l0 = l1) = false from decide_eq_false (fun e => hl (by rw [e])))
    clear hl
    go_enter Try.func43, Try.ntmps43
    go_wp2_with fail
    go_ret
    exact ⟨by rw [HE.out]; rfl, Below.refl _ _⟩
/-- Whether two structures are the same. -/
def cfgEq (a b : Int × Int × Int × Int × Int) : Bool := decide (a = b)
set_option maxHeartbeats 8000000 in
set_option maxRecDepth 100000 in
theorem same_T (a0 a1 a2 a3 a4 : Int) (A5 : Option Addr) (c5 : Nat) (l5 : List (List S37)) (A6 : Option Addr) (c6 : Nat) (l6 : List Int) (b0 b1 b2 b3 b4 : Int) (B5 : Option Addr) (d5 : Nat) (m5 : List (List S37)) (B6 : Option Addr) (d6 : Nat) (m6 : List Int) (w : World)
    (ha5 : Kd.C (Kd.slice 37 k37) w A5 l5.length l5) (ha6 : Kd.C (Kd.int .i64) w A6 l6.length l6) (hc6 : l6.length ≤ c6) (hb5 : Kd.C (Kd.slice 37 k37) w B5 m5.length m5) (hb6 : Kd.C (Kd.int .i64) w B6 m6.length m6) (hd6 : m6.length ≤ d6) :
    Calls Try.prog 22 #[.agg #[.int .i64 a0, .int .i64 a1, .int .i64 a2, .int .i64 a3, .int .i64 a4, .slice A5 l5.length c5, .slice A6 l6.length c6], .agg #[.int .i64 b0, .int .i64 b1, .int .i64 b2, .int .i64 b3, .int .i64 b4, .slice B5 m5.length d5, .slice B6 m6.length d6]] w
      fun e w' => e = .returned (.bool (decide (((a0, a1, a2, a3, a4) = (b0, b1, b2, b3, b4) ∧ l5 = m5) ∧ l6 = m6))) ∧ Below w.heap.size w w' := by
  have hu49 := Try.underlying49
  have hu31 := Try.underlying31
  have HA5 := Aside0.mk ha5
  have HA6 := Aside0.mk ha6
  have HB5 := Aside0.mk hb5
  have HB6 := Aside0.mk hb6
  have HC6 := Aside0.mk hc6
  have HD6 := Aside0.mk hd6
  clear ha5 ha6 hb5 hb6 hc6 hd6
  by_cases e : (a0, a1, a2, a3, a4) = (b0, b1, b2, b3, b4)
  · simp only [Prod.mk.injEq] at e
    obtain ⟨rfl, rfl, rfl, rfl, rfl⟩ := e
    go_enter Try.func22, Try.ntmps22
    go_wp2_with fail
    refine (equalFunc_T A5 c5 l5 B5 d5 m5 _ (Kd.C_below HA5.out (below_alloc (below_alloc (Below.refl _ _) _) _)) (Kd.C_below HB5.out (below_alloc (below_alloc (Below.refl _ _) _) _))).mono ?_
    rintro e w5 ⟨rfl, hb⟩
    have HBB := Aside0.mk (below_step (below_alloc (below_alloc (Below.refl w.heap.size w) _) _) hb)
    by_cases e5 : l5 = m5
    · rw [decide_eq_true e5]
      have E5 := Aside0.mk e5
      have hx6 : w5.cell? ⟨w.heap.size, 6, none⟩ = some (.slice A6 l6.length c6) := (blk_cell (blk_below (blk_alloc (blk_new w _) _) hb) 6).trans rfl
      have hy6 : w5.cell? ⟨w.heap.size + 1, 6, none⟩ = some (.slice B6 m6.length d6) := (blk_cell (blk_below (g := w.heap.size + 1) (by have := blk_new (w.alloc (.cells #[.int .i64 a0, .int .i64 a1, .int .i64 a2, .int .i64 a3, .int .i64 a4, .slice A5 l5.length c5, .slice A6 l6.length c6] 49)) (.cells #[.int .i64 a0, .int .i64 a1, .int .i64 a2, .int .i64 a3, .int .i64 a4, .slice B5 m5.length d5, .slice B6 m6.length d6] 49); simpa using this) hb) 6).trans rfl
      clear e5 hb
      go_wp2_with fail
      refine (slices_Equal_int_int.calls (l6.length + 2) A6 c6 l6 B6 d6 m6 (decide (l6 = m6)) _ (Kd.C_below HA6.out HBB.out) HC6.out (Kd.C_below HB6.out HBB.out) HD6.out (eqInt_f HA6.out.2.1)).mono ?_
      rintro e w6 ⟨rfl, ⟨n, rfl⟩⟩
      go_wp2_with fail
      go_ret
      exact ⟨by simp [E5.out], pw_below_drewN HBB.out n⟩
    · rw [decide_eq_false e5]
      have E5 := Aside0.mk e5
      clear e5 hb
      go_wp2_with fail
      go_ret
      exact ⟨by simp [E5.out], HBB.out⟩
  · have E := Aside0.mk (show decide (((a0, a1, a2, a3, a4) = (b0, b1, b2, b3, b4) ∧ l5 = m5) ∧ l6 = m6) = false from decide_eq_false (fun h => e h.1.1))
    have te : (binOp .eql 31 (.agg #[.int .i64 a0, .int .i64 a1, .int .i64 a2, .int .i64 a3, .int .i64 a4]) (.agg #[.int .i64 b0, .int .i64 b1, .int .i64 b2, .int .i64 b3, .int .i64 b4])).run Try.prog = fun w => .ok (.bool false) w := by
      funext w
      simp only [Prod.mk.injEq, not_and] at e
      go_simp
      by_cases e0 : a0 = b0 <;> by_cases e1 : a1 = b1 <;> by_cases e2 : a2 = b2 <;> by_cases e3 : a3 = b3 <;> by_cases e4 : a4 = b4 <;> simp_all
    rw [E.out]
    clear e E
    go_enter Try.func22, Try.ntmps22
    go_wp2_with fail
    all_goals
      go_ret
      exact ⟨rfl, below_alloc (below_alloc (Below.refl _ _) _) _⟩
end Go.Proofs.Ytcphmelmieedfaa.PScriptTurns

