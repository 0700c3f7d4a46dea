-- WRITTEN BY A PROGRAM OF THIS SESSION (xprint.sh): the walks of plain functions over contracts of my own.
import Derived.Test.YtcphmelmieedfaaPMintScriptsx0
import Derived.Test.YtcphmelmieedfaaPMintScriptsx1
namespace Go.Proofs.Ytcphmelmieedfaa.PMintScripts
open Go.RowKit Go.Proofs.YtcphmelmieedfaaW.PrintWords Go.Proofs.YtcphmelmieedfaaW.PrintLast Go.Proofs.YtcphmelmieedfaaW.PrintMore
attribute [local go_sem] max2_int min2_int max_two min_two max_three min_three max_four min_four   -- for this text's walks alone
set_option linter.unusedVariables false
set_option linter.unusedSimpArgs false

attribute [local go_sem high] eqA37
/-! ### revenantref03_Check: function 21 -/
mutual
def revenantref03_Check.j0 : Nat → Bool → Int → Int → Int → Int → Int → Option (Int)
  | 0, _, _, _, _, _, _ => none
  | k + 1, x10, x226000, x226001, x226002, x226003, x226004 => if x10 = true then (some 8) else (if x226001 < 1 then (revenantref03_Check.j1 k true x226000 x226001 x226002 x226003 x226004) else (if x226001 > 8388607 then (revenantref03_Check.j1 k true x226000 x226001 x226002 x226003 x226004) else (if x226004 < 2 then (revenantref03_Check.j1 k true x226000 x226001 x226002 x226003 x226004) else (revenantref03_Check.j1 k (decide (x226004 > 1099511627775)) x226000 x226001 x226002 x226003 x226004))))
def revenantref03_Check.j1 : Nat → Bool → Int → Int → Int → Int → Int → Option (Int)
  | 0, _, _, _, _, _, _ => none
  | k + 1, x28, x226000, x226001, x226002, x226003, x226004 => if x28 = true then (some 3) else (if x226000 = 2 then (if x226002 < 1 then (revenantref03_Check.j2 k true x226000 x226001 x226002 x226003 x226004) else (if x226002 > 64 then (revenantref03_Check.j2 k true x226000 x226001 x226002 x226003 x226004) else (revenantref03_Check.j2 k false x226000 x226001 x226002 x226003 x226004))) else (revenantref03_Check.j2 k (x226002 != 0) x226000 x226001 x226002 x226003 x226004))
def revenantref03_Check.j2 : Nat → Bool → Int → Int → Int → Int → Int → Option (Int)
  | 0, _, _, _, _, _, _ => none
  | k + 1, x51, x226000, x226001, x226002, x226003, x226004 => if x51 = true then (some 3) else (if x226000 = 3 then (if x226003 < 1 then (some 3) else (if x226003 > 16 then (some 3) else (some 0))) else (if x226003 = 1 then (some 0) else (some 3)))
end
def revenantref03_Check.f (k : Nat) (a0_0 : Int) (a0_1 : Int) (a0_2 : Int) (a0_3 : Int) (a0_4 : Int) : Option (Int) := if a0_0 < 1 then (revenantref03_Check.j0 k true a0_0 a0_1 a0_2 a0_3 a0_4) else (revenantref03_Check.j0 k (decide (a0_0 > 3)) a0_0 a0_1 a0_2 a0_3 a0_4)
set_option maxHeartbeats 8000000 in
set_option maxRecDepth 100000 in
theorem revenantref03_Check.calls (k : Nat) (a0_0 : Int) (a0_1 : Int) (a0_2 : Int) (a0_3 : Int) (a0_4 : Int) (r : Int) (w : World) (h : revenantref03_Check.f k a0_0 a0_1 a0_2 a0_3 a0_4 = some r) :
    Calls Try.prog 21 #[.agg #[.int .i64 a0_0, .int .i64 a0_1, .int .i64 a0_2, .int .i64 a0_3, .int .i64 a0_4]] w fun e w' => e = .returned (.int .i64 r) ∧ Below w.heap.size w w' := by
  have hu31 := Try.underlying31
  have HB := Aside0.mk (Below.refl w.heap.size w)
  have H : (if a0_0 < 1 then (revenantref03_Check.j0 k true a0_0 a0_1 a0_2 a0_3 a0_4) else (revenantref03_Check.j0 k (decide (a0_0 > 3)) a0_0 a0_1 a0_2 a0_3 a0_4)) = some r := h
  clear h
  have HC2 := Aside0.mk H
  clear H
  go_enter Try.func21, Try.ntmps21
  go_upto_region 1 with (first | ((with_reducible refine gate_dst (N := 1) rfl ?_); refine box_event ?hg (N := 1) ?hd (cs := #[.int .i64 a0_0, .int .i64 a0_1, .int .i64 a0_2, .int .i64 a0_3, .int .i64 a0_4]) (t := 31) ?hr ?_; (case hd => rfl); (case hg => rfl); (case hr => first | (go_simp; done) | (go_simp; rfl)); intro gb225 hg w3 hbox hb; have n0_ := Aside0.mk (below_step (by repeat (first | (with_reducible first | exact HB.out | apply below_alloc | apply pw_below_drewN | apply below_drew1) | exact HB.out)) hb); have n1_ := Aside0.mk (hbox); have n2_ := Aside0.mk ((by rw [hg]; exact (below_size (by repeat (first | (with_reducible first | exact HB.out | apply below_alloc | apply pw_below_drewN | apply below_drew1) | exact HB.out))) : w.heap.size ≤ gb225)); have n3_ := Aside0.mk ((by rw [hg]; exact (below_size (by repeat (first | (with_reducible first | exact HB.out | apply below_alloc | apply pw_below_drewN | apply below_drew1) | exact HB.out))) : w.heap.size ≤ gb225)); clear HB; have HB := n0_; have BK225 := n1_; have GW225 := n2_; have GE225 := n3_; clear n0_ n1_ n2_ n3_; clear hb hbox hg))
  (try simp only [Act.put, List.setIfInBounds_toArray, List.set_cons_zero, List.set_cons_succ])
  go_cut [10] (fun v10 wc => ∃ (kq : Nat) (x10_1 : Bool), v10 = .bool x10_1 ∧ Aside0 (revenantref03_Check.j0 kq x10_1 a0_0 a0_1 a0_2 a0_3 a0_4 = some r) ∧ Aside0 (kq ≤ k) ∧ Aside0 (wc.heap[gb225]? = some (.cells #[.int .i64 a0_0, .int .i64 a0_1, .int .i64 a0_2, .int .i64 a0_3, .int .i64 a0_4] 31 (0, 0))) ∧ Aside0 (Below w.heap.size w wc))
  case first =>
    have H := HC2.out
    clear HC2
    by_cases c4 : a0_0 < 1
    · rw [if_pos c4] at H
      have c4b0 : decide (a0_0 < 1) = true := decide_eq_true c4
      clear c4
      (first | rw [c4b0] | (simp only [i64_w, i32_w]; rw [c4b0]) | skip)
      have H' := Aside0.mk H
      clear H
      have hcz5_0 : w3.cell? ⟨gb225, 0, none⟩ = some (.int .i64 a0_0) := (blk_cell BK225.out 0).trans rfl
      have hcz5_1 : w3.cell? ⟨gb225, 1, none⟩ = some (.int .i64 a0_1) := (blk_cell BK225.out 1).trans rfl
      have hcz5_2 : w3.cell? ⟨gb225, 2, none⟩ = some (.int .i64 a0_2) := (blk_cell BK225.out 2).trans rfl
      have hcz5_3 : w3.cell? ⟨gb225, 3, none⟩ = some (.int .i64 a0_3) := (blk_cell BK225.out 3).trans rfl
      have hcz5_4 : w3.cell? ⟨gb225, 4, none⟩ = some (.int .i64 a0_4) := (blk_cell BK225.out 4).trans rfl
      have hfz5_0 := blk_frozen BK225.out 0
      have hfz5_1 := blk_frozen BK225.out 1
      have hfz5_2 := blk_frozen BK225.out 2
      have hfz5_3 := blk_frozen BK225.out 3
      have hfz5_4 := blk_frozen BK225.out 4
      go_wp2
      go_meet
      case rel => exact ⟨_, (true), (by first | rfl | (simp; done) | (simp [*]; done)), H', ⟨by first | omega | exact Nat.le_refl _⟩, ⟨by (with_reducible repeat (first | refine blk_drewN ?_ _ | refine blk_drew ?_ | refine blk_alloc ?_ _)); exact BK225.out⟩, ⟨by repeat (first | (with_reducible first | exact HB.out | apply below_alloc | apply pw_below_drewN | apply below_drew1 | refine below_set ?_ GE225.out) | exact HB.out)⟩⟩
    · rw [if_neg c4] at H
      have c4b0 : decide (a0_0 < 1) = false := decide_eq_false c4
      clear c4
      (first | rw [c4b0] | (simp only [i64_w, i32_w]; rw [c4b0]) | skip)
      have H' := Aside0.mk H
      clear H
      have hcz6_0 : w3.cell? ⟨gb225, 0, none⟩ = some (.int .i64 a0_0) := (blk_cell BK225.out 0).trans rfl
      have hcz6_1 : w3.cell? ⟨gb225, 1, none⟩ = some (.int .i64 a0_1) := (blk_cell BK225.out 1).trans rfl
      have hcz6_2 : w3.cell? ⟨gb225, 2, none⟩ = some (.int .i64 a0_2) := (blk_cell BK225.out 2).trans rfl
      have hcz6_3 : w3.cell? ⟨gb225, 3, none⟩ = some (.int .i64 a0_3) := (blk_cell BK225.out 3).trans rfl
      have hcz6_4 : w3.cell? ⟨gb225, 4, none⟩ = some (.int .i64 a0_4) := (blk_cell BK225.out 4).trans rfl
      have hfz6_0 := blk_frozen BK225.out 0
      have hfz6_1 := blk_frozen BK225.out 1
      have hfz6_2 := blk_frozen BK225.out 2
      have hfz6_3 := blk_frozen BK225.out 3
      have hfz6_4 := blk_frozen BK225.out 4
      go_wp2
      go_meet
      case rel => exact ⟨_, (decide (a0_0 > 3)), (by first | rfl | (simp; done) | (simp [*]; done)), H', ⟨by first | omega | exact Nat.le_refl _⟩, ⟨by (with_reducible repeat (first | refine blk_drewN ?_ _ | refine blk_drew ?_ | refine blk_alloc ?_ _)); exact BK225.out⟩, ⟨by repeat (first | (with_reducible first | exact HB.out | apply below_alloc | apply pw_below_drewN | apply below_drew1 | refine below_set ?_ GE225.out) | exact HB.out)⟩⟩
  case rest =>
    clear HC2
    (try clear c2); (try clear p2); (try clear c4); (try clear c4b0); (try clear hcz5_0); (try clear hcz5_1); (try clear hcz5_2); (try clear hcz5_3); (try clear hcz5_4); (try clear hcz6_0); (try clear hcz6_1); (try clear hcz6_2)
    (try clear hcz6_3); (try clear hcz6_4); (try clear hfz5_0); (try clear hfz5_1); (try clear hfz5_2); (try clear hfz5_3); (try clear hfz5_4); (try clear hfz6_0); (try clear hfz6_1); (try clear hfz6_2); (try clear hfz6_3); (try clear hfz6_4)
    obtain ⟨kq, x10_1, rfl, HA, HJ1, BK225, HB⟩ := hcut
    cases kq with
    | zero => exact absurd HA.out (by simp [revenantref03_Check.j0])
    | succ kj1 =>
      have H := HA.out
      clear HA
      simp only [revenantref03_Check.j0] at H
      by_cases c7 : x10_1 = true
      · subst c7
        have H1 : (some 8) = some r := by rw [if_pos rfl] at H; exact H
        clear H
        have H := H1
        clear H1
        obtain rfl := Option.some.inj H
        go_wp2
        go_ret
        exact ⟨by first | rfl | (simp [errW_none, errW_some] <;> rfl) | (simp [*, errW_none, errW_some] <;> rfl), by repeat (first | (with_reducible first | exact HB.out | apply below_alloc | apply pw_below_drewN | apply below_drew1 | refine below_set ?_ GE225.out) | exact HB.out)⟩
      · replace c7 := Bool.eq_false_iff.mpr c7
        subst c7
        have H1 : (if a0_1 < 1 then (revenantref03_Check.j1 kj1 true a0_0 a0_1 a0_2 a0_3 a0_4) else (if a0_1 > 8388607 then (revenantref03_Check.j1 kj1 true a0_0 a0_1 a0_2 a0_3 a0_4) else (if a0_4 < 2 then (revenantref03_Check.j1 kj1 true a0_0 a0_1 a0_2 a0_3 a0_4) else (revenantref03_Check.j1 kj1 (decide (a0_4 > 1099511627775)) a0_0 a0_1 a0_2 a0_3 a0_4)))) = some r := by rw [if_neg (show ¬ (false = true) by decide)] at H; exact H
        clear H
        have H := H1
        clear H1
        have HC8 := Aside0.mk H
        clear H
        go_upto_region 3 with (fail)
        go_cut [28] (fun v28 wc => ∃ (kq : Nat) (x28_7 : Bool), v28 = .bool x28_7 ∧ Aside0 (revenantref03_Check.j1 kq x28_7 a0_0 a0_1 a0_2 a0_3 a0_4 = some r) ∧ Aside0 (kq ≤ kj1) ∧ Aside0 (wc.heap[gb225]? = some (.cells #[.int .i64 a0_0, .int .i64 a0_1, .int .i64 a0_2, .int .i64 a0_3, .int .i64 a0_4] 31 (0, 0))) ∧ Aside0 (Below w.heap.size w wc))
        case first =>
          have H := HC8.out
          clear HC8
          by_cases c9 : a0_1 < 1
          · rw [if_pos c9] at H
            have c9b0 : decide (a0_1 < 1) = true := decide_eq_true c9
            clear c9
            (first | rw [c9b0] | (simp only [i64_w, i32_w]; rw [c9b0]) | skip)
            have H' := Aside0.mk H
            clear H
            have hcz10_0 : wc.cell? ⟨gb225, 0, none⟩ = some (.int .i64 a0_0) := (blk_cell BK225.out 0).trans rfl
            have hcz10_1 : wc.cell? ⟨gb225, 1, none⟩ = some (.int .i64 a0_1) := (blk_cell BK225.out 1).trans rfl
            have hcz10_2 : wc.cell? ⟨gb225, 2, none⟩ = some (.int .i64 a0_2) := (blk_cell BK225.out 2).trans rfl
            have hcz10_3 : wc.cell? ⟨gb225, 3, none⟩ = some (.int .i64 a0_3) := (blk_cell BK225.out 3).trans rfl
            have hcz10_4 : wc.cell? ⟨gb225, 4, none⟩ = some (.int .i64 a0_4) := (blk_cell BK225.out 4).trans rfl
            have hfz10_0 := blk_frozen BK225.out 0
            have hfz10_1 := blk_frozen BK225.out 1
            have hfz10_2 := blk_frozen BK225.out 2
            have hfz10_3 := blk_frozen BK225.out 3
            have hfz10_4 := blk_frozen BK225.out 4
            go_wp2
            go_meet
            case rel => exact ⟨_, (true), (by first | rfl | (simp; done) | (simp [*]; done)), H', ⟨by have := HJ1.out; first | omega | exact Nat.le_refl _⟩, ⟨by (with_reducible repeat (first | refine blk_drewN ?_ _ | refine blk_drew ?_ | refine blk_alloc ?_ _)); exact BK225.out⟩, ⟨by repeat (first | (with_reducible first | exact HB.out | apply below_alloc | apply pw_below_drewN | apply below_drew1 | refine below_set ?_ GE225.out) | exact HB.out)⟩⟩
          · rw [if_neg c9] at H
            have c9b0 : decide (a0_1 < 1) = false := decide_eq_false c9
            clear c9
            (first | rw [c9b0] | (simp only [i64_w, i32_w]; rw [c9b0]) | skip)
            by_cases c11 : a0_1 > 8388607
            · rw [if_pos c11] at H
              have c11b0 : decide (8388607 < a0_1) = true := decide_eq_true c11
              clear c11
              have H' := Aside0.mk H
              clear H
              have hcz12_0 : wc.cell? ⟨gb225, 0, none⟩ = some (.int .i64 a0_0) := (blk_cell BK225.out 0).trans rfl
              have hcz12_1 : wc.cell? ⟨gb225, 1, none⟩ = some (.int .i64 a0_1) := (blk_cell BK225.out 1).trans rfl
              have hcz12_2 : wc.cell? ⟨gb225, 2, none⟩ = some (.int .i64 a0_2) := (blk_cell BK225.out 2).trans rfl
              have hcz12_3 : wc.cell? ⟨gb225, 3, none⟩ = some (.int .i64 a0_3) := (blk_cell BK225.out 3).trans rfl
              have hcz12_4 : wc.cell? ⟨gb225, 4, none⟩ = some (.int .i64 a0_4) := (blk_cell BK225.out 4).trans rfl
              have hfz12_0 := blk_frozen BK225.out 0
              have hfz12_1 := blk_frozen BK225.out 1
              have hfz12_2 := blk_frozen BK225.out 2
              have hfz12_3 := blk_frozen BK225.out 3
              have hfz12_4 := blk_frozen BK225.out 4
              go_wp2
              go_meet
              case rel => exact ⟨_, (true), (by first | rfl | (simp; done) | (simp [*]; done)), H', ⟨by have := HJ1.out; first | omega | exact Nat.le_refl _⟩, ⟨by (with_reducible repeat (first | refine blk_drewN ?_ _ | refine blk_drew ?_ | refine blk_alloc ?_ _)); exact BK225.out⟩, ⟨by repeat (first | (with_reducible first | exact HB.out | apply below_alloc | apply pw_below_drewN | apply below_drew1 | refine below_set ?_ GE225.out) | exact HB.out)⟩⟩
            · rw [if_neg c11] at H
              have c11b0 : decide (8388607 < a0_1) = false := decide_eq_false c11
              clear c11
              by_cases c13 : a0_4 < 2
              · rw [if_pos c13] at H
                have c13b0 : decide (a0_4 < 2) = true := decide_eq_true c13
                clear c13
                have H' := Aside0.mk H
                clear H
                have hcz14_0 : wc.cell? ⟨gb225, 0, none⟩ = some (.int .i64 a0_0) := (blk_cell BK225.out 0).trans rfl
                have hcz14_1 : wc.cell? ⟨gb225, 1, none⟩ = some (.int .i64 a0_1) := (blk_cell BK225.out 1).trans rfl
                have hcz14_2 : wc.cell? ⟨gb225, 2, none⟩ = some (.int .i64 a0_2) := (blk_cell BK225.out 2).trans rfl
                have hcz14_3 : wc.cell? ⟨gb225, 3, none⟩ = some (.int .i64 a0_3) := (blk_cell BK225.out 3).trans rfl
                have hcz14_4 : wc.cell? ⟨gb225, 4, none⟩ = some (.int .i64 a0_4) := (blk_cell BK225.out 4).trans rfl
                have hfz14_0 := blk_frozen BK225.out 0
                have hfz14_1 := blk_frozen BK225.out 1
                have hfz14_2 := blk_frozen BK225.out 2
                have hfz14_3 := blk_frozen BK225.out 3
                have hfz14_4 := blk_frozen BK225.out 4
                go_wp2
                go_meet
                case rel => exact ⟨_, (true), (by first | rfl | (simp; done) | (simp [*]; done)), H', ⟨by have := HJ1.out; first | omega | exact Nat.le_refl _⟩, ⟨by (with_reducible repeat (first | refine blk_drewN ?_ _ | refine blk_drew ?_ | refine blk_alloc ?_ _)); exact BK225.out⟩, ⟨by repeat (first | (with_reducible first | exact HB.out | apply below_alloc | apply pw_below_drewN | apply below_drew1 | refine below_set ?_ GE225.out) | exact HB.out)⟩⟩
              · rw [if_neg c13] at H
                have c13b0 : decide (a0_4 < 2) = false := decide_eq_false c13
                clear c13
                have H' := Aside0.mk H
                clear H
                have hcz15_0 : wc.cell? ⟨gb225, 0, none⟩ = some (.int .i64 a0_0) := (blk_cell BK225.out 0).trans rfl
                have hcz15_1 : wc.cell? ⟨gb225, 1, none⟩ = some (.int .i64 a0_1) := (blk_cell BK225.out 1).trans rfl
                have hcz15_2 : wc.cell? ⟨gb225, 2, none⟩ = some (.int .i64 a0_2) := (blk_cell BK225.out 2).trans rfl
                have hcz15_3 : wc.cell? ⟨gb225, 3, none⟩ = some (.int .i64 a0_3) := (blk_cell BK225.out 3).trans rfl
                have hcz15_4 : wc.cell? ⟨gb225, 4, none⟩ = some (.int .i64 a0_4) := (blk_cell BK225.out 4).trans rfl
                have hfz15_0 := blk_frozen BK225.out 0
                have hfz15_1 := blk_frozen BK225.out 1
                have hfz15_2 := blk_frozen BK225.out 2
                have hfz15_3 := blk_frozen BK225.out 3
                have hfz15_4 := blk_frozen BK225.out 4
                go_wp2
                go_meet
                case rel => exact ⟨_, (decide (a0_4 > 1099511627775)), (by first | rfl | (simp; done) | (simp [*]; done)), H', ⟨by have := HJ1.out; first | omega | exact Nat.le_refl _⟩, ⟨by (with_reducible repeat (first | refine blk_drewN ?_ _ | refine blk_drew ?_ | refine blk_alloc ?_ _)); exact BK225.out⟩, ⟨by repeat (first | (with_reducible first | exact HB.out | apply below_alloc | apply pw_below_drewN | apply below_drew1 | refine below_set ?_ GE225.out) | exact HB.out)⟩⟩
        case rest =>
          clear HC8
          (try clear c1); (try clear c2); (try clear p2); (try clear c4); (try clear c4b0); (try clear c7); (try clear c9); (try clear c9b0); (try clear c11); (try clear c11b0); (try clear c13); (try clear c13b0)
          (try clear hcz10_0); (try clear hcz10_1); (try clear hcz10_2); (try clear hcz10_3); (try clear hcz10_4); (try clear hcz12_0); (try clear hcz12_1); (try clear hcz12_2); (try clear hcz12_3); (try clear hcz12_4); (try clear hcz14_0); (try clear hcz14_1)
          (try clear hcz14_2); (try clear hcz14_3); (try clear hcz14_4); (try clear hcz15_0); (try clear hcz15_1); (try clear hcz15_2); (try clear hcz15_3); (try clear hcz15_4); (try clear hcz5_0); (try clear hcz5_1); (try clear hcz5_2); (try clear hcz5_3)
          (try clear hcz5_4); (try clear hcz6_0); (try clear hcz6_1); (try clear hcz6_2); (try clear hcz6_3); (try clear hcz6_4); (try clear hfz10_0); (try clear hfz10_1); (try clear hfz10_2); (try clear hfz10_3); (try clear hfz10_4); (try clear hfz12_0)
          (try clear hfz12_1); (try clear hfz12_2); (try clear hfz12_3); (try clear hfz12_4); (try clear hfz14_0); (try clear hfz14_1); (try clear hfz14_2); (try clear hfz14_3); (try clear hfz14_4); (try clear hfz15_0); (try clear hfz15_1); (try clear hfz15_2)
          (try clear hfz15_3); (try clear hfz15_4); (try clear hfz5_0); (try clear hfz5_1); (try clear hfz5_2); (try clear hfz5_3); (try clear hfz5_4); (try clear hfz6_0); (try clear hfz6_1); (try clear hfz6_2); (try clear hfz6_3); (try clear hfz6_4)
          (try clear p2)
          obtain ⟨kq, x28_7, rfl, HA, HJ7, BK225, HB⟩ := hcut
          cases kq with
          | zero => exact absurd HA.out (by simp [revenantref03_Check.j1])
          | succ kj7 =>
            have H := HA.out
            clear HA
            simp only [revenantref03_Check.j1] at H
            by_cases c16 : x28_7 = true
            · subst c16
              have H1 : (some 3) = some r := by rw [if_pos rfl] at H; exact H
              clear H
              have H := H1
              clear H1
              obtain rfl := Option.some.inj H
              go_wp2
              go_ret
              exact ⟨by first | rfl | (simp [errW_none, errW_some] <;> rfl) | (simp [*, errW_none, errW_some] <;> rfl), by repeat (first | (with_reducible first | exact HB.out | apply below_alloc | apply pw_below_drewN | apply below_drew1 | refine below_set ?_ GE225.out) | exact HB.out)⟩
            · replace c16 := Bool.eq_false_iff.mpr c16
              subst c16
              have H1 : (if a0_0 = 2 then (if a0_2 < 1 then (revenantref03_Check.j2 kj7 true a0_0 a0_1 a0_2 a0_3 a0_4) else (if a0_2 > 64 then (revenantref03_Check.j2 kj7 true a0_0 a0_1 a0_2 a0_3 a0_4) else (revenantref03_Check.j2 kj7 false a0_0 a0_1 a0_2 a0_3 a0_4))) else (revenantref03_Check.j2 kj7 (a0_2 != 0) a0_0 a0_1 a0_2 a0_3 a0_4)) = some r := by rw [if_neg (show ¬ (false = true) by decide)] at H; exact H
              clear H
              have H := H1
              clear H1
              have HC17 := Aside0.mk H
              clear H
              go_upto_region 5 with (fail)
              go_cut [51] (fun v51 wc => ∃ (kq : Nat) (x51_16 : Bool), v51 = .bool x51_16 ∧ Aside0 (revenantref03_Check.j2 kq x51_16 a0_0 a0_1 a0_2 a0_3 a0_4 = some r) ∧ Aside0 (kq ≤ kj7) ∧ Aside0 (wc.heap[gb225]? = some (.cells #[.int .i64 a0_0, .int .i64 a0_1, .int .i64 a0_2, .int .i64 a0_3, .int .i64 a0_4] 31 (0, 0))) ∧ Aside0 (Below w.heap.size w wc))
              case first =>
                have H := HC17.out
                clear HC17
                by_cases c18 : a0_0 = 2
                · rw [if_pos c18] at H
                  have c18b0 : (a0_0 == 2) = true := beq_iff_eq.mpr c18
                  have c18b1 : (a0_0 != 2) = false := bne_eq_false_iff_eq.mpr c18
                  clear c18
                  (first | rw [c18b0] | (simp only [i64_w, i32_w]; rw [c18b0]) | skip)
                  by_cases c19 : a0_2 < 1
                  · rw [if_pos c19] at H
                    have c19b0 : decide (a0_2 < 1) = true := decide_eq_true c19
                    clear c19
                    have H' := Aside0.mk H
                    clear H
                    have hcz20_0 : wc.cell? ⟨gb225, 0, none⟩ = some (.int .i64 a0_0) := (blk_cell BK225.out 0).trans rfl
                    have hcz20_1 : wc.cell? ⟨gb225, 1, none⟩ = some (.int .i64 a0_1) := (blk_cell BK225.out 1).trans rfl
                    have hcz20_2 : wc.cell? ⟨gb225, 2, none⟩ = some (.int .i64 a0_2) := (blk_cell BK225.out 2).trans rfl
                    have hcz20_3 : wc.cell? ⟨gb225, 3, none⟩ = some (.int .i64 a0_3) := (blk_cell BK225.out 3).trans rfl
                    have hcz20_4 : wc.cell? ⟨gb225, 4, none⟩ = some (.int .i64 a0_4) := (blk_cell BK225.out 4).trans rfl
                    have hfz20_0 := blk_frozen BK225.out 0
                    have hfz20_1 := blk_frozen BK225.out 1
                    have hfz20_2 := blk_frozen BK225.out 2
                    have hfz20_3 := blk_frozen BK225.out 3
                    have hfz20_4 := blk_frozen BK225.out 4
                    go_wp2
                    go_meet
                    case rel => exact ⟨_, (true), (by first | rfl | (simp; done) | (simp [*]; done)), H', ⟨by have := HJ1.out; have := HJ7.out; first | omega | exact Nat.le_refl _⟩, ⟨by (with_reducible repeat (first | refine blk_drewN ?_ _ | refine blk_drew ?_ | refine blk_alloc ?_ _)); exact BK225.out⟩, ⟨by repeat (first | (with_reducible first | exact HB.out | apply below_alloc | apply pw_below_drewN | apply below_drew1 | refine below_set ?_ GE225.out) | exact HB.out)⟩⟩
                  · rw [if_neg c19] at H
                    have c19b0 : decide (a0_2 < 1) = false := decide_eq_false c19
                    clear c19
                    by_cases c21 : a0_2 > 64
                    · rw [if_pos c21] at H
                      have c21b0 : decide (64 < a0_2) = true := decide_eq_true c21
                      clear c21
                      have H' := Aside0.mk H
                      clear H
                      have hcz22_0 : wc.cell? ⟨gb225, 0, none⟩ = some (.int .i64 a0_0) := (blk_cell BK225.out 0).trans rfl
                      have hcz22_1 : wc.cell? ⟨gb225, 1, none⟩ = some (.int .i64 a0_1) := (blk_cell BK225.out 1).trans rfl
                      have hcz22_2 : wc.cell? ⟨gb225, 2, none⟩ = some (.int .i64 a0_2) := (blk_cell BK225.out 2).trans rfl
                      have hcz22_3 : wc.cell? ⟨gb225, 3, none⟩ = some (.int .i64 a0_3) := (blk_cell BK225.out 3).trans rfl
                      have hcz22_4 : wc.cell? ⟨gb225, 4, none⟩ = some (.int .i64 a0_4) := (blk_cell BK225.out 4).trans rfl
                      have hfz22_0 := blk_frozen BK225.out 0
                      have hfz22_1 := blk_frozen BK225.out 1
                      have hfz22_2 := blk_frozen BK225.out 2
                      have hfz22_3 := blk_frozen BK225.out 3
                      have hfz22_4 := blk_frozen BK225.out 4
                      go_wp2
                      go_meet
                      case rel => exact ⟨_, (true), (by first | rfl | (simp; done) | (simp [*]; done)), H', ⟨by have := HJ1.out; have := HJ7.out; first | omega | exact Nat.le_refl _⟩, ⟨by (with_reducible repeat (first | refine blk_drewN ?_ _ | refine blk_drew ?_ | refine blk_alloc ?_ _)); exact BK225.out⟩, ⟨by repeat (first | (with_reducible first | exact HB.out | apply below_alloc | apply pw_below_drewN | apply below_drew1 | refine below_set ?_ GE225.out) | exact HB.out)⟩⟩
                    · rw [if_neg c21] at H
                      have c21b0 : decide (64 < a0_2) = false := decide_eq_false c21
                      clear c21
                      have H' := Aside0.mk H
                      clear H
                      have hcz23_0 : wc.cell? ⟨gb225, 0, none⟩ = some (.int .i64 a0_0) := (blk_cell BK225.out 0).trans rfl
                      have hcz23_1 : wc.cell? ⟨gb225, 1, none⟩ = some (.int .i64 a0_1) := (blk_cell BK225.out 1).trans rfl
                      have hcz23_2 : wc.cell? ⟨gb225, 2, none⟩ = some (.int .i64 a0_2) := (blk_cell BK225.out 2).trans rfl
                      have hcz23_3 : wc.cell? ⟨gb225, 3, none⟩ = some (.int .i64 a0_3) := (blk_cell BK225.out 3).trans rfl
                      have hcz23_4 : wc.cell? ⟨gb225, 4, none⟩ = some (.int .i64 a0_4) := (blk_cell BK225.out 4).trans rfl
                      have hfz23_0 := blk_frozen BK225.out 0
                      have hfz23_1 := blk_frozen BK225.out 1
                      have hfz23_2 := blk_frozen BK225.out 2
                      have hfz23_3 := blk_frozen BK225.out 3
                      have hfz23_4 := blk_frozen BK225.out 4
                      go_wp2
                      go_meet
                      case rel => exact ⟨_, (false), (by first | rfl | (simp; done) | (simp [*]; done)), H', ⟨by have := HJ1.out; have := HJ7.out; first | omega | exact Nat.le_refl _⟩, ⟨by (with_reducible repeat (first | refine blk_drewN ?_ _ | refine blk_drew ?_ | refine blk_alloc ?_ _)); exact BK225.out⟩, ⟨by repeat (first | (with_reducible first | exact HB.out | apply below_alloc | apply pw_below_drewN | apply below_drew1 | refine below_set ?_ GE225.out) | exact HB.out)⟩⟩
                · rw [if_neg c18] at H
                  have c18b0 : (a0_0 == 2) = false := beq_eq_false_iff_ne.mpr c18
                  have c18b1 : (a0_0 != 2) = true := bne_iff_ne.mpr c18
                  (first | rw [c18b0] | (simp only [i64_w, i32_w]; rw [c18b0]) | skip)
                  have H' := Aside0.mk H
                  clear H
                  have hcz24_0 : wc.cell? ⟨gb225, 0, none⟩ = some (.int .i64 a0_0) := (blk_cell BK225.out 0).trans rfl
                  have hcz24_1 : wc.cell? ⟨gb225, 1, none⟩ = some (.int .i64 a0_1) := (blk_cell BK225.out 1).trans rfl
                  have hcz24_2 : wc.cell? ⟨gb225, 2, none⟩ = some (.int .i64 a0_2) := (blk_cell BK225.out 2).trans rfl
                  have hcz24_3 : wc.cell? ⟨gb225, 3, none⟩ = some (.int .i64 a0_3) := (blk_cell BK225.out 3).trans rfl
                  have hcz24_4 : wc.cell? ⟨gb225, 4, none⟩ = some (.int .i64 a0_4) := (blk_cell BK225.out 4).trans rfl
                  have hfz24_0 := blk_frozen BK225.out 0
                  have hfz24_1 := blk_frozen BK225.out 1
                  have hfz24_2 := blk_frozen BK225.out 2
                  have hfz24_3 := blk_frozen BK225.out 3
                  have hfz24_4 := blk_frozen BK225.out 4
                  go_wp2
                  go_meet
                  case rel => exact ⟨_, ((a0_2 != 0)), (by first | rfl | (simp; done) | (simp [*]; done)), H', ⟨by have := HJ1.out; have := HJ7.out; first | omega | exact Nat.le_refl _⟩, ⟨by (with_reducible repeat (first | refine blk_drewN ?_ _ | refine blk_drew ?_ | refine blk_alloc ?_ _)); exact BK225.out⟩, ⟨by repeat (first | (with_reducible first | exact HB.out | apply below_alloc | apply pw_below_drewN | apply below_drew1 | refine below_set ?_ GE225.out) | exact HB.out)⟩⟩
              case rest =>
                clear HC17
                (try clear c1); (try clear c2); (try clear p2); (try clear c4); (try clear c4b0); (try clear c7); (try clear c9); (try clear c9b0); (try clear c11); (try clear c11b0); (try clear c13); (try clear c13b0)
                (try clear c16); (try clear c18); (try clear c18b0); (try clear c18b1); (try clear c19); (try clear c19b0); (try clear c21); (try clear c21b0); (try clear hcz10_0); (try clear hcz10_1); (try clear hcz10_2); (try clear hcz10_3)
                (try clear hcz10_4); (try clear hcz12_0); (try clear hcz12_1); (try clear hcz12_2); (try clear hcz12_3); (try clear hcz12_4); (try clear hcz14_0); (try clear hcz14_1); (try clear hcz14_2); (try clear hcz14_3); (try clear hcz14_4); (try clear hcz15_0)
                (try clear hcz15_1); (try clear hcz15_2); (try clear hcz15_3); (try clear hcz15_4); (try clear hcz20_0); (try clear hcz20_1); (try clear hcz20_2); (try clear hcz20_3); (try clear hcz20_4); (try clear hcz22_0); (try clear hcz22_1); (try clear hcz22_2)
                (try clear hcz22_3); (try clear hcz22_4); (try clear hcz23_0); (try clear hcz23_1); (try clear hcz23_2); (try clear hcz23_3); (try clear hcz23_4); (try clear hcz24_0); (try clear hcz24_1); (try clear hcz24_2); (try clear hcz24_3); (try clear hcz24_4)
                (try clear hcz5_0); (try clear hcz5_1); (try clear hcz5_2); (try clear hcz5_3); (try clear hcz5_4); (try clear hcz6_0); (try clear hcz6_1); (try clear hcz6_2); (try clear hcz6_3); (try clear hcz6_4); (try clear hfz10_0); (try clear hfz10_1)
                (try clear hfz10_2); (try clear hfz10_3); (try clear hfz10_4); (try clear hfz12_0); (try clear hfz12_1); (try clear hfz12_2); (try clear hfz12_3); (try clear hfz12_4); (try clear hfz14_0); (try clear hfz14_1); (try clear hfz14_2); (try clear hfz14_3)
                (try clear hfz14_4); (try clear hfz15_0); (try clear hfz15_1); (try clear hfz15_2); (try clear hfz15_3); (try clear hfz15_4); (try clear hfz20_0); (try clear hfz20_1); (try clear hfz20_2); (try clear hfz20_3); (try clear hfz20_4); (try clear hfz22_0)
                (try clear hfz22_1); (try clear hfz22_2); (try clear hfz22_3); (try clear hfz22_4); (try clear hfz23_0); (try clear hfz23_1); (try clear hfz23_2); (try clear hfz23_3); (try clear hfz23_4); (try clear hfz24_0); (try clear hfz24_1); (try clear hfz24_2)
                (try clear hfz24_3); (try clear hfz24_4); (try clear hfz5_0); (try clear hfz5_1); (try clear hfz5_2); (try clear hfz5_3); (try clear hfz5_4); (try clear hfz6_0); (try clear hfz6_1); (try clear hfz6_2); (try clear hfz6_3); (try clear hfz6_4)
                (try clear p2)
                obtain ⟨kq, x51_16, rfl, HA, HJ16, BK225, HB⟩ := hcut
                cases kq with
                | zero => exact absurd HA.out (by simp [revenantref03_Check.j2])
                | succ kj16 =>
                  have H := HA.out
                  clear HA
                  simp only [revenantref03_Check.j2] at H
                  by_cases c25 : x51_16 = true
                  · subst c25
                    have H1 : (some 3) = some r := by rw [if_pos rfl] at H; exact H
                    clear H
                    have H := H1
                    clear H1
                    obtain rfl := Option.some.inj H
                    go_wp2
                    go_ret
                    exact ⟨by first | rfl | (simp [errW_none, errW_some] <;> rfl) | (simp [*, errW_none, errW_some] <;> rfl), by repeat (first | (with_reducible first | exact HB.out | apply below_alloc | apply pw_below_drewN | apply below_drew1 | refine below_set ?_ GE225.out) | exact HB.out)⟩
                  · replace c25 := Bool.eq_false_iff.mpr c25
                    subst c25
                    have H1 : (if a0_0 = 3 then (if a0_3 < 1 then (some 3) else (if a0_3 > 16 then (some 3) else (some 0))) else (if a0_3 = 1 then (some 0) else (some 3))) = some r := by rw [if_neg (show ¬ (false = true) by decide)] at H; exact H
                    clear H
                    have H := H1
                    clear H1
                    by_cases c26 : a0_0 = 3
                    · rw [if_pos c26] at H
                      have c26b0 : (a0_0 == 3) = true := beq_iff_eq.mpr c26
                      have c26b1 : (a0_0 != 3) = false := bne_eq_false_iff_eq.mpr c26
                      clear c26
                      by_cases c27 : a0_3 < 1
                      · rw [if_pos c27] at H
                        have c27b0 : decide (a0_3 < 1) = true := decide_eq_true c27
                        clear c27
                        obtain rfl := Option.some.inj H
                        have hcz28_0 : wc.cell? ⟨gb225, 0, none⟩ = some (.int .i64 a0_0) := (blk_cell BK225.out 0).trans rfl
                        have hcz28_1 : wc.cell? ⟨gb225, 1, none⟩ = some (.int .i64 a0_1) := (blk_cell BK225.out 1).trans rfl
                        have hcz28_2 : wc.cell? ⟨gb225, 2, none⟩ = some (.int .i64 a0_2) := (blk_cell BK225.out 2).trans rfl
                        have hcz28_3 : wc.cell? ⟨gb225, 3, none⟩ = some (.int .i64 a0_3) := (blk_cell BK225.out 3).trans rfl
                        have hcz28_4 : wc.cell? ⟨gb225, 4, none⟩ = some (.int .i64 a0_4) := (blk_cell BK225.out 4).trans rfl
                        have hfz28_0 := blk_frozen BK225.out 0
                        have hfz28_1 := blk_frozen BK225.out 1
                        have hfz28_2 := blk_frozen BK225.out 2
                        have hfz28_3 := blk_frozen BK225.out 3
                        have hfz28_4 := blk_frozen BK225.out 4
                        go_wp2
                        go_ret
                        exact ⟨by first | rfl | (simp [errW_none, errW_some] <;> rfl) | (simp [*, errW_none, errW_some] <;> rfl), by repeat (first | (with_reducible first | exact HB.out | apply below_alloc | apply pw_below_drewN | apply below_drew1 | refine below_set ?_ GE225.out) | exact HB.out)⟩
                      · rw [if_neg c27] at H
                        have c27b0 : decide (a0_3 < 1) = false := decide_eq_false c27
                        clear c27
                        by_cases c29 : a0_3 > 16
                        · rw [if_pos c29] at H
                          have c29b0 : decide (16 < a0_3) = true := decide_eq_true c29
                          clear c29
                          obtain rfl := Option.some.inj H
                          have hcz30_0 : wc.cell? ⟨gb225, 0, none⟩ = some (.int .i64 a0_0) := (blk_cell BK225.out 0).trans rfl
                          have hcz30_1 : wc.cell? ⟨gb225, 1, none⟩ = some (.int .i64 a0_1) := (blk_cell BK225.out 1).trans rfl
                          have hcz30_2 : wc.cell? ⟨gb225, 2, none⟩ = some (.int .i64 a0_2) := (blk_cell BK225.out 2).trans rfl
                          have hcz30_3 : wc.cell? ⟨gb225, 3, none⟩ = some (.int .i64 a0_3) := (blk_cell BK225.out 3).trans rfl
                          have hcz30_4 : wc.cell? ⟨gb225, 4, none⟩ = some (.int .i64 a0_4) := (blk_cell BK225.out 4).trans rfl
                          have hfz30_0 := blk_frozen BK225.out 0
                          have hfz30_1 := blk_frozen BK225.out 1
                          have hfz30_2 := blk_frozen BK225.out 2
                          have hfz30_3 := blk_frozen BK225.out 3
                          have hfz30_4 := blk_frozen BK225.out 4
                          go_wp2
                          go_ret
                          exact ⟨by first | rfl | (simp [errW_none, errW_some] <;> rfl) | (simp [*, errW_none, errW_some] <;> rfl), by repeat (first | (with_reducible first | exact HB.out | apply below_alloc | apply pw_below_drewN | apply below_drew1 | refine below_set ?_ GE225.out) | exact HB.out)⟩
                        · rw [if_neg c29] at H
                          have c29b0 : decide (16 < a0_3) = false := decide_eq_false c29
                          clear c29
                          obtain rfl := Option.some.inj H
                          have hcz31_0 : wc.cell? ⟨gb225, 0, none⟩ = some (.int .i64 a0_0) := (blk_cell BK225.out 0).trans rfl
                          have hcz31_1 : wc.cell? ⟨gb225, 1, none⟩ = some (.int .i64 a0_1) := (blk_cell BK225.out 1).trans rfl
                          have hcz31_2 : wc.cell? ⟨gb225, 2, none⟩ = some (.int .i64 a0_2) := (blk_cell BK225.out 2).trans rfl
                          have hcz31_3 : wc.cell? ⟨gb225, 3, none⟩ = some (.int .i64 a0_3) := (blk_cell BK225.out 3).trans rfl
                          have hcz31_4 : wc.cell? ⟨gb225, 4, none⟩ = some (.int .i64 a0_4) := (blk_cell BK225.out 4).trans rfl
                          have hfz31_0 := blk_frozen BK225.out 0
                          have hfz31_1 := blk_frozen BK225.out 1
                          have hfz31_2 := blk_frozen BK225.out 2
                          have hfz31_3 := blk_frozen BK225.out 3
                          have hfz31_4 := blk_frozen BK225.out 4
                          go_wp2
                          go_ret
                          exact ⟨by first | rfl | (simp [errW_none, errW_some] <;> rfl) | (simp [*, errW_none, errW_some] <;> rfl), by repeat (first | (with_reducible first | exact HB.out | apply below_alloc | apply pw_below_drewN | apply below_drew1 | refine below_set ?_ GE225.out) | exact HB.out)⟩
                    · rw [if_neg c26] at H
                      have c26b0 : (a0_0 == 3) = false := beq_eq_false_iff_ne.mpr c26
                      have c26b1 : (a0_0 != 3) = true := bne_iff_ne.mpr c26
                      by_cases c32 : a0_3 = 1
                      · rw [if_pos c32] at H
                        have c32b0 : (a0_3 == 1) = true := beq_iff_eq.mpr c32
                        have c32b1 : (a0_3 != 1) = false := bne_eq_false_iff_eq.mpr c32
                        clear c32
                        obtain rfl := Option.some.inj H
                        have hcz33_0 : wc.cell? ⟨gb225, 0, none⟩ = some (.int .i64 a0_0) := (blk_cell BK225.out 0).trans rfl
                        have hcz33_1 : wc.cell? ⟨gb225, 1, none⟩ = some (.int .i64 a0_1) := (blk_cell BK225.out 1).trans rfl
                        have hcz33_2 : wc.cell? ⟨gb225, 2, none⟩ = some (.int .i64 a0_2) := (blk_cell BK225.out 2).trans rfl
                        have hcz33_3 : wc.cell? ⟨gb225, 3, none⟩ = some (.int .i64 a0_3) := (blk_cell BK225.out 3).trans rfl
                        have hcz33_4 : wc.cell? ⟨gb225, 4, none⟩ = some (.int .i64 a0_4) := (blk_cell BK225.out 4).trans rfl
                        have hfz33_0 := blk_frozen BK225.out 0
                        have hfz33_1 := blk_frozen BK225.out 1
                        have hfz33_2 := blk_frozen BK225.out 2
                        have hfz33_3 := blk_frozen BK225.out 3
                        have hfz33_4 := blk_frozen BK225.out 4
                        go_wp2
                        go_ret
                        exact ⟨by first | rfl | (simp [errW_none, errW_some] <;> rfl) | (simp [*, errW_none, errW_some] <;> rfl), by repeat (first | (with_reducible first | exact HB.out | apply below_alloc | apply pw_below_drewN | apply below_drew1 | refine below_set ?_ GE225.out) | exact HB.out)⟩
                      · rw [if_neg c32] at H
                        have c32b0 : (a0_3 == 1) = false := beq_eq_false_iff_ne.mpr c32
                        have c32b1 : (a0_3 != 1) = true := bne_iff_ne.mpr c32
                        obtain rfl := Option.some.inj H
                        have hcz34_0 : wc.cell? ⟨gb225, 0, none⟩ = some (.int .i64 a0_0) := (blk_cell BK225.out 0).trans rfl
                        have hcz34_1 : wc.cell? ⟨gb225, 1, none⟩ = some (.int .i64 a0_1) := (blk_cell BK225.out 1).trans rfl
                        have hcz34_2 : wc.cell? ⟨gb225, 2, none⟩ = some (.int .i64 a0_2) := (blk_cell BK225.out 2).trans rfl
                        have hcz34_3 : wc.cell? ⟨gb225, 3, none⟩ = some (.int .i64 a0_3) := (blk_cell BK225.out 3).trans rfl
                        have hcz34_4 : wc.cell? ⟨gb225, 4, none⟩ = some (.int .i64 a0_4) := (blk_cell BK225.out 4).trans rfl
                        have hfz34_0 := blk_frozen BK225.out 0
                        have hfz34_1 := blk_frozen BK225.out 1
                        have hfz34_2 := blk_frozen BK225.out 2
                        have hfz34_3 := blk_frozen BK225.out 3
                        have hfz34_4 := blk_frozen BK225.out 4
                        go_wp2
                        go_ret
                        exact ⟨by first | rfl | (simp [errW_none, errW_some] <;> rfl) | (simp [*, errW_none, errW_some] <;> rfl), by repeat (first | (with_reducible first | exact HB.out | apply below_alloc | apply pw_below_drewN | apply below_drew1 | refine below_set ?_ GE225.out) | exact HB.out)⟩

-- NOT PRINTED: function 43 (api_Op_43)

/-! ### api_Op_44: function 44 -/
def api_Op_44.l0 : Nat → List (S37) → List (S37) → Int → Int → Option (Bool)
  | 0, _, _, _, _ => none
  | k + 1, x0, x1, x12, x13 => if x13 < x12 then (if 0 ≤ x13 then (if x13 < (x0.length : Int) then (if x13 < (x1.length : Int) then (if (!(((rd_T37 x0 x13).f0) == ((rd_T37 x1 x13).f0)) || (!(((rd_T37 x0 x13).f1) == ((rd_T37 x1 x13).f1)) || (!(((rd_T37 x0 x13).f2) == ((rd_T37 x1 x13).f2)) || (!(((rd_T37 x0 x13).f3) == ((rd_T37 x1 x13).f3)))))) = true then (some false) else (api_Op_44.l0 k x0 x1 x12 (wrap64 (x13 + 1)))) else (none)) else (none)) else (none)) else (some true)
def api_Op_44.f (k : Nat) (l0 : List (S37)) (l1 : List (S37)) : Option (Bool) := if (l0.length : Int) = (l1.length : Int) then (api_Op_44.l0 k l0 l1 (l0.length : Int) 0) else (some false)
set_option maxHeartbeats 8000000 in
set_option maxRecDepth 100000 in
theorem api_Op_44.calls (k : Nat) (A0 : Option Addr) (c0 : Nat) (l0 : List (S37)) (A1 : Option Addr) (c1 : Nat) (l1 : List (S37)) (r : Bool) (w : World) (hr0 : Kd.C k37 w A0 l0.length l0) (hc0 : l0.length ≤ c0) (hr1 : Kd.C k37 w A1 l1.length l1) (hc1 : l1.length ≤ c1) (h : api_Op_44.f k l0 l1 = some r) :
    Calls Try.prog 44 #[.slice A0 l0.length c0, .slice A1 l1.length c1] w fun e w' => e = .returned (.bool r) ∧ Drawn0 w w' := by
  have hu37 := Try.underlying37
  have HR0 := Aside0.mk hr0
  have HC0 := Aside0.mk hc0
  clear hr0 hc0
  have HR1 := Aside0.mk hr1
  have HC1 := Aside0.mk hc1
  clear hr1 hc1
  have H : (if (l0.length : Int) = (l1.length : Int) then (api_Op_44.l0 k l0 l1 (l0.length : Int) 0) else (some false)) = some r := h
  clear h
  by_cases c3 : (l0.length : Int) = (l1.length : Int)
  · rw [if_pos c3] at H
    have c3b0 : ((l0.length : Int) == (l1.length : Int)) = true := beq_iff_eq.mpr c3
    have c3b1 : ((l0.length : Int) != (l1.length : Int)) = false := bne_eq_false_iff_eq.mpr c3
    have c3b2 : (l0.length == l1.length) = true := by first | simpa using c3 | (simp at c3 ⊢; omega)
    clear c3
    have H' := Aside0.mk H
    clear H
    go_enter Try.func44, Try.ntmps44
    go_wp2
    repeat (go_quiet (fail); try go_wp2)
    go_loopg [13] k (fun kq v13 w' => ∃ (x13_1 : Int), v13 = .int .i64 x13_1 ∧ Aside0 (api_Op_44.l0 kq l0 l1 (l0.length : Int) x13_1 = some r) ∧ Aside0 (kq ≤ k) ∧ Drawn0 w w')
    case atStart => exact ⟨(0), (by first | rfl | (simp; done) | (simp [*]; done)), H', ⟨Nat.le_refl _⟩, by repeat (first | exact Drawn0.refl _ | apply Drawn0.step)⟩
    case round =>
      clear H'
      (try clear c1); (try clear p2); (try clear c3); (try clear c3b0); (try clear c3b1); (try clear c3b2)
      obtain ⟨x13_1, rfl, HA, HK1, ⟨m1, rfl⟩⟩ := hrel
      cases gk with
      | zero => exact absurd HA.out (by simp [api_Op_44.l0])
      | succ k1 =>
        have H := HA.out
        clear HA
        simp only [api_Op_44.l0] at H
        by_cases c4 : x13_1 < (l0.length : Int)
        · rw [if_pos c4] at H
          have c4b0 : decide (x13_1 < (l0.length : Int)) = true := decide_eq_true c4
          clear c4
          by_cases c5 : 0 ≤ x13_1
          · rw [if_pos c5] at H
            have c5b0 : decide (0 ≤ x13_1) = true := decide_eq_true c5
            clear c5
            by_cases c6 : x13_1 < (l0.length : Int)
            · rw [if_pos c6] at H
              have c6b0 : decide (x13_1 < (l0.length : Int)) = true := decide_eq_true c6
              clear c6
              by_cases c7 : x13_1 < (l1.length : Int)
              · rw [if_pos c7] at H
                have c7b0 : decide (x13_1 < (l1.length : Int)) = true := decide_eq_true c7
                clear c7
                by_cases c8 : (!(((rd_T37 l0 x13_1).f0) == ((rd_T37 l1 x13_1).f0)) || (!(((rd_T37 l0 x13_1).f1) == ((rd_T37 l1 x13_1).f1)) || (!(((rd_T37 l0 x13_1).f2) == ((rd_T37 l1 x13_1).f2)) || (!(((rd_T37 l0 x13_1).f3) == ((rd_T37 l1 x13_1).f3)))))) = true
                · rw [if_pos c8] at H
                  have c8b0 : (!(((rd_T37 l0 x13_1).f0) == ((rd_T37 l1 x13_1).f0)) || (!(((rd_T37 l0 x13_1).f1) == ((rd_T37 l1 x13_1).f1)) || (!(((rd_T37 l0 x13_1).f2) == ((rd_T37 l1 x13_1).f2)) || (!(((rd_T37 l0 x13_1).f3) == ((rd_T37 l1 x13_1).f3)))))) = true := c8
                  clear c8
                  obtain rfl := Option.some.inj H
                  have p226 : 0 ≤ (x13_1 : Int) := of_decide_eq_true (by first | (with_reducible assumption) | assumption)
                  have q226 : x13_1 < (l0.length : Int) := of_decide_eq_true (by first | (with_reducible assumption) | assumption)
                  obtain ⟨ad226, e226, hx226_0, hx226_1, hx226_2, hx226_3⟩ := at_T37 HR0.out x13_1 p226 q226
                  cases e226
                  replace p226 := eq_true p226
                  replace q226 := eq_true q226
                  have p227 : 0 ≤ (x13_1 : Int) := of_decide_eq_true (by first | (with_reducible assumption) | assumption)
                  have q227 : x13_1 < (l1.length : Int) := of_decide_eq_true (by first | (with_reducible assumption) | assumption)
                  obtain ⟨ad227, e227, hx227_0, hx227_1, hx227_2, hx227_3⟩ := at_T37 HR1.out x13_1 p227 q227
                  cases e227
                  replace p227 := eq_true p227
                  replace q227 := eq_true q227
                  go_wp2
                  repeat (go_quiet (fail); try go_wp2)
                  go_ret
                  exact ⟨by first | rfl | (simp; done) | (simp [*]; done), by repeat (first | exact Drawn0.refl _ | apply Drawn0.step)⟩
                · rw [if_neg c8] at H
                  have c8b0 : (!(((rd_T37 l0 x13_1).f0) == ((rd_T37 l1 x13_1).f0)) || (!(((rd_T37 l0 x13_1).f1) == ((rd_T37 l1 x13_1).f1)) || (!(((rd_T37 l0 x13_1).f2) == ((rd_T37 l1 x13_1).f2)) || (!(((rd_T37 l0 x13_1).f3) == ((rd_T37 l1 x13_1).f3)))))) = false := by simpa using c8
                  clear c8
                  have H' := Aside0.mk H
                  clear H
                  have p226 : 0 ≤ (x13_1 : Int) := of_decide_eq_true (by first | (with_reducible assumption) | assumption)
                  have q226 : x13_1 < (l0.length : Int) := of_decide_eq_true (by first | (with_reducible assumption) | assumption)
                  obtain ⟨ad226, e226, hx226_0, hx226_1, hx226_2, hx226_3⟩ := at_T37 HR0.out x13_1 p226 q226
                  cases e226
                  replace p226 := eq_true p226
                  replace q226 := eq_true q226
                  have p227 : 0 ≤ (x13_1 : Int) := of_decide_eq_true (by first | (with_reducible assumption) | assumption)
                  have q227 : x13_1 < (l1.length : Int) := of_decide_eq_true (by first | (with_reducible assumption) | assumption)
                  obtain ⟨ad227, e227, hx227_0, hx227_1, hx227_2, hx227_3⟩ := at_T37 HR1.out x13_1 p227 q227
                  cases e227
                  replace p227 := eq_true p227
                  replace q227 := eq_true q227
                  go_wp2
                  repeat (go_quiet (fail); try go_wp2)
                  go_roundg k1
                  case measure => have := HK1.out; omega
                  case rel => exact ⟨(wrap64 (x13_1 + 1)), (by first | rfl | (simp; done) | (simp [*]; done)), H', ⟨by have := HK1.out; omega⟩, by repeat (first | exact Drawn0.refl _ | apply Drawn0.step)⟩
              · rw [if_neg c7] at H
                exact absurd H (by simp)
            · rw [if_neg c6] at H
              exact absurd H (by simp)
          · rw [if_neg c5] at H
            exact absurd H (by simp)
        · rw [if_neg c4] at H
          have c4b0 : decide (x13_1 < (l0.length : Int)) = false := decide_eq_false c4
          clear c4
          obtain rfl := Option.some.inj H
          go_wp2
          repeat (go_quiet (fail); try go_wp2)
          go_ret
          exact ⟨by first | rfl | (simp; done) | (simp [*]; done), by repeat (first | exact Drawn0.refl _ | apply Drawn0.step)⟩
  · rw [if_neg c3] at H
    have c3b0 : ((l0.length : Int) == (l1.length : Int)) = false := beq_eq_false_iff_ne.mpr c3
    have c3b1 : ((l0.length : Int) != (l1.length : Int)) = true := bne_iff_ne.mpr c3
    have c3b2 : (l0.length == l1.length) = false := by first | simpa using c3 | (simp at c3 ⊢; omega)
    obtain rfl := Option.some.inj H
    go_enter Try.func44, Try.ntmps44
    go_wp2
    repeat (go_quiet (fail); try go_wp2)
    go_ret
    exact ⟨by first | rfl | (simp; done) | (simp [*]; done), by repeat (first | exact Drawn0.refl _ | apply Drawn0.step)⟩

end Go.Proofs.Ytcphmelmieedfaa.PMintScripts
