-- WRITTEN BY A PROGRAM OF THIS SESSION (xprint.sh): the walks of plain functions over contracts of my own.
import Derived.Test.YtcphmelmieedfaaPScriptTurnsx0
namespace Go.Proofs.Ytcphmelmieedfaa.PScriptTurns
open Go.RowKit Go.Proofs.YtcphmelmieedfaaW.PrintWords Go.Proofs.YtcphmelmieedfaaW.PrintLast Go.Proofs.YtcphmelmieedfaaW.PrintMore
attribute [local go_sem] max2_int min2_int max_two min_two max_three min_three max_four min_four   -- for this text's walks alone
set_option linter.unusedVariables false
set_option linter.unusedSimpArgs false

/-! ### revenantlaw22_great: function 28 -/
mutual
def revenantlaw22_great.j0 : Nat → Bool → Int → Int → Int → Int → Int → List (List (S37)) → List Int → Option (Bool)
  | 0, _, _, _, _, _, _, _, _ => none
  | k + 1, x13, x190000, x190001, x190002, x190003, x190004, x190005, x190006 => if x13 = true then (some true) else (revenantlaw22_great.l0 k 0 x190000 x190001 x190002 x190003 x190004 x190005 x190006)
def revenantlaw22_great.l0 : Nat → Int → Int → Int → Int → Int → Int → List (List (S37)) → List Int → Option (Bool)
  | 0, _, _, _, _, _, _, _, _ => none
  | k + 1, x3, x190000, x190001, x190002, x190003, x190004, x190005, x190006 => if x3 < (x190005.length : Int) then (if 0 ≤ x3 then (if ((rd_L3 x190005 x3).length : Int) > 100 then (some true) else (revenantlaw22_great.l0 k (wrap64 (x3 + 1)) x190000 x190001 x190002 x190003 x190004 x190005 x190006)) else (none)) else (some false)
end
def revenantlaw22_great.f (k : Nat) (a0_0 : Int) (a0_1 : Int) (a0_2 : Int) (a0_3 : Int) (a0_4 : Int) (l0_5 : List (List (S37))) (l0_6 : List Int) : Option (Bool) := if (l0_5.length : Int) > 100 then (revenantlaw22_great.j0 k true a0_0 a0_1 a0_2 a0_3 a0_4 l0_5 l0_6) else (revenantlaw22_great.j0 k (decide ((l0_6.length : Int) > 262154)) a0_0 a0_1 a0_2 a0_3 a0_4 l0_5 l0_6)
theorem revenantlaw22_great.mono_l : ∀ k, (∀ y0 y1 y2 y3 y4 y5 y6 y7, LeO (revenantlaw22_great.j0 k y0 y1 y2 y3 y4 y5 y6 y7) (revenantlaw22_great.j0 (k + 1) y0 y1 y2 y3 y4 y5 y6 y7)) ∧ (∀ y0 y1 y2 y3 y4 y5 y6 y7, LeO (revenantlaw22_great.l0 k y0 y1 y2 y3 y4 y5 y6 y7) (revenantlaw22_great.l0 (k + 1) y0 y1 y2 y3 y4 y5 y6 y7))
  | 0 => ⟨fun _ _ _ _ _ _ _ _ r h => by simp [revenantlaw22_great.j0] at h, fun _ _ _ _ _ _ _ _ r h => by simp [revenantlaw22_great.l0] at h⟩
  | k + 1 => by
    obtain ⟨ih0, ih1⟩ := revenantlaw22_great.mono_l k
    refine ⟨?_, ?_⟩
    · intro y0 y1 y2 y3 y4 y5 y6 y7
      unfold revenantlaw22_great.j0
      repeat' first
      | (with_reducible exact ih0 _ _ _ _ _ _ _ _)
      | (with_reducible exact ih1 _ _ _ _ _ _ _ _)
      | (with_reducible exact LeO.refl _)
      | (with_reducible exact LeO.none _)
      | (with_reducible refine LeO.ite ?_ ?_)
      | (with_reducible refine LeO.bind ?_ (fun _ => ?_))
      | exact ih0 _ _ _ _ _ _ _ _
      | exact ih1 _ _ _ _ _ _ _ _
      | exact LeO.none _
      | refine LeO.ite ?_ ?_
      | refine LeO.bind ?_ (fun _ => ?_)
    · intro y0 y1 y2 y3 y4 y5 y6 y7
      unfold revenantlaw22_great.l0
      repeat' first
      | (with_reducible exact ih0 _ _ _ _ _ _ _ _)
      | (with_reducible exact ih1 _ _ _ _ _ _ _ _)
      | (with_reducible exact LeO.refl _)
      | (with_reducible exact LeO.none _)
      | (with_reducible refine LeO.ite ?_ ?_)
      | (with_reducible refine LeO.bind ?_ (fun _ => ?_))
      | exact ih0 _ _ _ _ _ _ _ _
      | exact ih1 _ _ _ _ _ _ _ _
      | exact LeO.none _
      | refine LeO.ite ?_ ?_
      | refine LeO.bind ?_ (fun _ => ?_)
theorem revenantlaw22_great.mono : ∀ a0 a1 a2 a3 a4 a5 a6 k, LeO (revenantlaw22_great.f k a0 a1 a2 a3 a4 a5 a6) (revenantlaw22_great.f (k + 1) a0 a1 a2 a3 a4 a5 a6) := by
  intro a0 a1 a2 a3 a4 a5 a6 k
  obtain ⟨ih0, ih1⟩ := revenantlaw22_great.mono_l k
  unfold revenantlaw22_great.f
  repeat' first
      | (with_reducible exact ih0 _ _ _ _ _ _ _ _)
      | (with_reducible exact ih1 _ _ _ _ _ _ _ _)
      | (with_reducible exact LeO.refl _)
      | (with_reducible exact LeO.none _)
      | (with_reducible refine LeO.ite ?_ ?_)
      | (with_reducible refine LeO.bind ?_ (fun _ => ?_))
      | exact ih0 _ _ _ _ _ _ _ _
      | exact ih1 _ _ _ _ _ _ _ _
      | exact LeO.none _
      | refine LeO.ite ?_ ?_
      | refine LeO.bind ?_ (fun _ => ?_)
set_option maxHeartbeats 8000000 in
set_option maxRecDepth 100000 in
theorem revenantlaw22_great.calls (k : Nat) (a0_0 : Int) (a0_1 : Int) (a0_2 : Int) (a0_3 : Int) (a0_4 : Int) (A0_5 : Option Addr) (c0_5 : Nat) (l0_5 : List (List (S37))) (A0_6 : Option Addr) (c0_6 : Nat) (l0_6 : List Int) (r : Bool) (w : World) (hr0_5 : Kd.C (Kd.slice 37 k37) w A0_5 l0_5.length l0_5) (hc0_5 : l0_5.length ≤ c0_5) (hr0_6 : Kd.C (Kd.int .i64) w A0_6 l0_6.length l0_6) (hc0_6 : l0_6.length ≤ c0_6) (h : revenantlaw22_great.f k a0_0 a0_1 a0_2 a0_3 a0_4 l0_5 l0_6 = some r) :
    Calls Try.prog 28 #[.agg #[.int .i64 a0_0, .int .i64 a0_1, .int .i64 a0_2, .int .i64 a0_3, .int .i64 a0_4, .slice A0_5 l0_5.length c0_5, .slice A0_6 l0_6.length c0_6]] w fun e w' => e = .returned (.bool r) ∧ Below w.heap.size w w' := by
  have hu49 := Try.underlying49
  have HR0_5 := Aside0.mk hr0_5
  have HC0_5 := Aside0.mk hc0_5
  clear hr0_5 hc0_5
  have HR0_6 := Aside0.mk hr0_6
  have HC0_6 := Aside0.mk hc0_6
  clear hr0_6 hc0_6
  have HB := Aside0.mk (Below.refl w.heap.size w)
  have H : (if (l0_5.length : Int) > 100 then (revenantlaw22_great.j0 k true a0_0 a0_1 a0_2 a0_3 a0_4 l0_5 l0_6) else (revenantlaw22_great.j0 k (decide ((l0_6.length : Int) > 262154)) a0_0 a0_1 a0_2 a0_3 a0_4 l0_5 l0_6)) = some r := h
  clear h
  have HC2 := Aside0.mk H
  clear H
  go_enter Try.func28, Try.ntmps28
  go_upto_region 1 with (first | ((with_reducible refine gate_dst (N := 1) rfl ?_); (try (refine gate_guard (by rfl) ?_; dsimp only)); refine box_event ?hg (N := 1) ?hd (cs := #[.int .i64 a0_0, .int .i64 a0_1, .int .i64 a0_2, .int .i64 a0_3, .int .i64 a0_4, .slice A0_5 l0_5.length c0_5, .slice A0_6 l0_6.length c0_6]) (t := 49) ?hr ?_; (case hd => rfl); (case hg => rfl); (case hr => first | (go_simp; done) | (go_simp; rfl)); intro gb189 hg w3 hbox hb; have n0_ := Aside0.mk (below_step (by repeat (first | (with_reducible first | exact HB.out | apply below_alloc | apply pw_below_drewN | apply below_drew1) | exact HB.out)) hb); have n1_ := Aside0.mk (hbox); have n2_ := Aside0.mk ((by rw [hg]; exact (below_size (by repeat (first | (with_reducible first | exact HB.out | apply below_alloc | apply pw_below_drewN | apply below_drew1) | exact HB.out))) : w.heap.size ≤ gb189)); have n3_ := Aside0.mk ((by rw [hg]; exact (below_size (by repeat (first | (with_reducible first | exact HB.out | apply below_alloc | apply pw_below_drewN | apply below_drew1) | exact HB.out))) : w.heap.size ≤ gb189)); clear HB; have HB := n0_; have BK189 := n1_; have GW189 := n2_; have GE189 := n3_; clear n0_ n1_ n2_ n3_; clear hb hbox hg))
  (try simp only [Act.put, List.setIfInBounds_toArray, List.set_cons_zero, List.set_cons_succ])
  go_cut [13] (fun v13 wc => ∃ (kq : Nat) (x13_1 : Bool), v13 = .bool x13_1 ∧ Aside0 (revenantlaw22_great.j0 kq x13_1 a0_0 a0_1 a0_2 a0_3 a0_4 l0_5 l0_6 = some r) ∧ Aside0 (kq ≤ k) ∧ Aside0 (wc.heap[gb189]? = some (.cells #[.int .i64 a0_0, .int .i64 a0_1, .int .i64 a0_2, .int .i64 a0_3, .int .i64 a0_4, (.slice A0_5 l0_5.length c0_5), (.slice A0_6 l0_6.length c0_6)] 49 (0, 0))) ∧ Aside0 (Below w.heap.size w wc))
  case first =>
    have H := HC2.out
    clear HC2
    by_cases c4 : (l0_5.length : Int) > 100
    · rw [if_pos c4] at H
      have c4b0 : decide (100 < (l0_5.length : Int)) = true := decide_eq_true c4
      have c4b1 : decide (100 < l0_5.length) = true := decide_eq_true (by omega)
      clear c4
      (first | rw [c4b0] | (simp only [i64_w, i32_w]; rw [c4b0]) | skip)
      have H' := Aside0.mk H
      clear H
      have hcz5_0 : w3.cell? ⟨gb189, 0, none⟩ = some (.int .i64 a0_0) := (blk_cell BK189.out 0).trans rfl
      have hcz5_1 : w3.cell? ⟨gb189, 1, none⟩ = some (.int .i64 a0_1) := (blk_cell BK189.out 1).trans rfl
      have hcz5_2 : w3.cell? ⟨gb189, 2, none⟩ = some (.int .i64 a0_2) := (blk_cell BK189.out 2).trans rfl
      have hcz5_3 : w3.cell? ⟨gb189, 3, none⟩ = some (.int .i64 a0_3) := (blk_cell BK189.out 3).trans rfl
      have hcz5_4 : w3.cell? ⟨gb189, 4, none⟩ = some (.int .i64 a0_4) := (blk_cell BK189.out 4).trans rfl
      have hcz5_5 : w3.cell? ⟨gb189, 5, none⟩ = some (.slice A0_5 l0_5.length c0_5) := (blk_cell BK189.out 5).trans rfl
      have hcz5_6 : w3.cell? ⟨gb189, 6, none⟩ = some (.slice A0_6 l0_6.length c0_6) := (blk_cell BK189.out 6).trans rfl
      have hfz5_0 := blk_frozen BK189.out 0
      have hfz5_1 := blk_frozen BK189.out 1
      have hfz5_2 := blk_frozen BK189.out 2
      have hfz5_3 := blk_frozen BK189.out 3
      have hfz5_4 := blk_frozen BK189.out 4
      have hfz5_5 := blk_frozen BK189.out 5
      have hfz5_6 := blk_frozen BK189.out 6
      go_wp2
      go_meet
      case rel => exact ⟨_, (true), (by first | rfl | (simp; done) | (simp [*]; done)), H', ⟨by first | omega | exact Nat.le_refl _⟩, ⟨by (with_reducible repeat (first | refine blk_drewN ?_ _ | refine blk_drew ?_ | refine blk_alloc ?_ _)); exact BK189.out⟩, ⟨by repeat (first | (with_reducible first | exact HB.out | apply below_alloc | apply pw_below_drewN | apply below_drew1 | refine below_set ?_ GE189.out) | exact HB.out)⟩⟩
    · rw [if_neg c4] at H
      have c4b0 : decide (100 < (l0_5.length : Int)) = false := decide_eq_false c4
      have c4b1 : decide (100 < l0_5.length) = false := decide_eq_false (by omega)
      clear c4
      (first | rw [c4b0] | (simp only [i64_w, i32_w]; rw [c4b0]) | skip)
      have H' := Aside0.mk H
      clear H
      have hcz6_0 : w3.cell? ⟨gb189, 0, none⟩ = some (.int .i64 a0_0) := (blk_cell BK189.out 0).trans rfl
      have hcz6_1 : w3.cell? ⟨gb189, 1, none⟩ = some (.int .i64 a0_1) := (blk_cell BK189.out 1).trans rfl
      have hcz6_2 : w3.cell? ⟨gb189, 2, none⟩ = some (.int .i64 a0_2) := (blk_cell BK189.out 2).trans rfl
      have hcz6_3 : w3.cell? ⟨gb189, 3, none⟩ = some (.int .i64 a0_3) := (blk_cell BK189.out 3).trans rfl
      have hcz6_4 : w3.cell? ⟨gb189, 4, none⟩ = some (.int .i64 a0_4) := (blk_cell BK189.out 4).trans rfl
      have hcz6_5 : w3.cell? ⟨gb189, 5, none⟩ = some (.slice A0_5 l0_5.length c0_5) := (blk_cell BK189.out 5).trans rfl
      have hcz6_6 : w3.cell? ⟨gb189, 6, none⟩ = some (.slice A0_6 l0_6.length c0_6) := (blk_cell BK189.out 6).trans rfl
      have hfz6_0 := blk_frozen BK189.out 0
      have hfz6_1 := blk_frozen BK189.out 1
      have hfz6_2 := blk_frozen BK189.out 2
      have hfz6_3 := blk_frozen BK189.out 3
      have hfz6_4 := blk_frozen BK189.out 4
      have hfz6_5 := blk_frozen BK189.out 5
      have hfz6_6 := blk_frozen BK189.out 6
      go_wp2
      go_meet
      case rel => exact ⟨_, (decide ((l0_6.length : Int) > 262154)), (by first | rfl | (simp; done) | (simp [*]; done)), H', ⟨by first | omega | exact Nat.le_refl _⟩, ⟨by (with_reducible repeat (first | refine blk_drewN ?_ _ | refine blk_drew ?_ | refine blk_alloc ?_ _)); exact BK189.out⟩, ⟨by repeat (first | (with_reducible first | exact HB.out | apply below_alloc | apply pw_below_drewN | apply below_drew1 | refine below_set ?_ GE189.out) | exact HB.out)⟩⟩
  case rest =>
    clear HC2
    try clear c2
    try clear p2
    try clear c4
    try clear c4b0
    try clear c4b1
    try clear hcz5_0
    try clear hcz5_1
    try clear hcz5_2
    try clear hcz5_3
    try clear hcz5_4
    try clear hcz5_5
    try clear hcz5_6
    try clear hcz6_0
    try clear hcz6_1
    try clear hcz6_2
    try clear hcz6_3
    try clear hcz6_4
    try clear hcz6_5
    try clear hcz6_6
    try clear hfz5_0
    try clear hfz5_1
    try clear hfz5_2
    try clear hfz5_3
    try clear hfz5_4
    try clear hfz5_5
    try clear hfz5_6
    try clear hfz6_0
    try clear hfz6_1
    try clear hfz6_2
    try clear hfz6_3
    try clear hfz6_4
    try clear hfz6_5
    try clear hfz6_6
    obtain ⟨kq, x13_1, rfl, HA, HJ1, BK189, HB⟩ := hcut
    cases kq with
    | zero => exact absurd HA.out (by simp [revenantlaw22_great.j0])
    | succ kj1 =>
      have H := HA.out
      clear HA
      simp only [revenantlaw22_great.j0] at H
      by_cases c7 : x13_1 = true
      · subst c7
        have H1 : (some true) = some r := by rw [if_pos rfl] at H; exact H
        clear H
        have H := H1
        clear H1
        obtain rfl := Option.some.inj H
        go_wp2
        go_ret
        exact ⟨by first | rfl | (simp [errW_none, errW_some] <;> rfl) | (simp [*, errW_none, errW_some] <;> rfl), by repeat (first | (with_reducible first | exact HB.out | apply below_alloc | apply pw_below_drewN | apply below_drew1 | refine below_set ?_ GE189.out) | exact HB.out)⟩
      · replace c7 := Bool.eq_false_iff.mpr c7
        subst c7
        have H1 : (revenantlaw22_great.l0 kj1 0 a0_0 a0_1 a0_2 a0_3 a0_4 l0_5 l0_6) = some r := by rw [if_neg (show ¬ (false = true) by decide)] at H; exact H
        clear H
        have H := H1
        clear H1
        have H' := Aside0.mk H
        clear H
        go_wp2
        go_loopg [3] kj1 (fun kq v3 w' => ∃ (x3_2 : Int), v3 = .int .i64 x3_2 ∧ Aside0 (revenantlaw22_great.l0 kq x3_2 a0_0 a0_1 a0_2 a0_3 a0_4 l0_5 l0_6 = some r) ∧ Aside0 (kq ≤ kj1) ∧ Aside0 (w'.heap[gb189]? = some (.cells #[.int .i64 a0_0, .int .i64 a0_1, .int .i64 a0_2, .int .i64 a0_3, .int .i64 a0_4, (.slice A0_5 l0_5.length c0_5), (.slice A0_6 l0_6.length c0_6)] 49 (0, 0))) ∧ Aside0 (Below w.heap.size w w'))
        case atStart => exact ⟨(0), (by first | rfl | (simp; done) | (simp [*]; done)), H', ⟨Nat.le_refl _⟩, ⟨by (with_reducible repeat (first | refine blk_drewN ?_ _ | refine blk_drew ?_ | refine blk_alloc ?_ _)); exact BK189.out⟩, ⟨by repeat (first | (with_reducible first | exact HB.out | apply below_alloc | apply pw_below_drewN | apply below_drew1 | refine below_set ?_ GE189.out) | exact HB.out)⟩⟩
        case round =>
          clear H'
          try clear c2
          try clear p2
          try clear c4
          try clear c4b0
          try clear c4b1
          try clear c7
          try clear hcz5_0
          try clear hcz5_1
          try clear hcz5_2
          try clear hcz5_3
          try clear hcz5_4
          try clear hcz5_5
          try clear hcz5_6
          try clear hcz6_0
          try clear hcz6_1
          try clear hcz6_2
          try clear hcz6_3
          try clear hcz6_4
          try clear hcz6_5
          try clear hcz6_6
          try clear hfz5_0
          try clear hfz5_1
          try clear hfz5_2
          try clear hfz5_3
          try clear hfz5_4
          try clear hfz5_5
          try clear hfz5_6
          try clear hfz6_0
          try clear hfz6_1
          try clear hfz6_2
          try clear hfz6_3
          try clear hfz6_4
          try clear hfz6_5
          try clear hfz6_6
          try clear p2
          obtain ⟨x3_2, rfl, HA, HK2, BK189, HB⟩ := hrel
          cases gk with
          | zero => exact absurd HA.out (by simp [revenantlaw22_great.l0])
          | succ k2 =>
            have H := HA.out
            clear HA
            simp only [revenantlaw22_great.l0] at H
            by_cases c8 : x3_2 < (l0_5.length : Int)
            · rw [if_pos c8] at H
              have c8b0 : decide (x3_2 < (l0_5.length : Int)) = true := decide_eq_true c8
              clear c8
              by_cases c9 : 0 ≤ x3_2
              · rw [if_pos c9] at H
                have c9b0 : decide (0 ≤ x3_2) = true := decide_eq_true c9
                clear c9
                by_cases c10 : ((rd_L3 l0_5 x3_2).length : Int) > 100
                · rw [if_pos c10] at H
                  have c10b0 : decide (100 < ((rd_L3 l0_5 x3_2).length : Int)) = true := decide_eq_true c10
                  have c10b1 : decide (100 < (rd_L3 l0_5 x3_2).length) = true := decide_eq_true (by omega)
                  clear c10
                  obtain rfl := Option.some.inj H
                  have hcz11_0 : wr.cell? ⟨gb189, 0, none⟩ = some (.int .i64 a0_0) := (blk_cell BK189.out 0).trans rfl
                  have hcz11_1 : wr.cell? ⟨gb189, 1, none⟩ = some (.int .i64 a0_1) := (blk_cell BK189.out 1).trans rfl
                  have hcz11_2 : wr.cell? ⟨gb189, 2, none⟩ = some (.int .i64 a0_2) := (blk_cell BK189.out 2).trans rfl
                  have hcz11_3 : wr.cell? ⟨gb189, 3, none⟩ = some (.int .i64 a0_3) := (blk_cell BK189.out 3).trans rfl
                  have hcz11_4 : wr.cell? ⟨gb189, 4, none⟩ = some (.int .i64 a0_4) := (blk_cell BK189.out 4).trans rfl
                  have hcz11_5 : wr.cell? ⟨gb189, 5, none⟩ = some (.slice A0_5 l0_5.length c0_5) := (blk_cell BK189.out 5).trans rfl
                  have hcz11_6 : wr.cell? ⟨gb189, 6, none⟩ = some (.slice A0_6 l0_6.length c0_6) := (blk_cell BK189.out 6).trans rfl
                  have hfz11_0 := blk_frozen BK189.out 0
                  have hfz11_1 := blk_frozen BK189.out 1
                  have hfz11_2 := blk_frozen BK189.out 2
                  have hfz11_3 := blk_frozen BK189.out 3
                  have hfz11_4 := blk_frozen BK189.out 4
                  have hfz11_5 := blk_frozen BK189.out 5
                  have hfz11_6 := blk_frozen BK189.out 6
                  have p190 : 0 ≤ (x3_2 : Int) := of_decide_eq_true (by first | (with_reducible assumption) | assumption)
                  have q190 : x3_2 < (l0_5.length : Int) := of_decide_eq_true (by first | (with_reducible assumption) | assumption)
                  obtain ⟨ad190, A190_0, c190_0, e190, hx190_0, hl190_0, hi190_0⟩ := at_L3 HR0_5.out x3_2 p190 q190
                  cases e190
                  replace hx190_0 := (HB.out.cell (World.block_lt_of_cell? w _ hx190_0)).trans hx190_0
                  have HR190_0 := Aside0.mk hi190_0
                  have HC190_0 := Aside0.mk hl190_0
                  clear hi190_0 hl190_0
                  replace p190 := eq_true p190
                  replace q190 := eq_true q190
                  go_wp2
                  go_ret
                  exact ⟨by first | rfl | (simp [errW_none, errW_some] <;> rfl) | (simp [*, errW_none, errW_some] <;> rfl), by repeat (first | (with_reducible first | exact HB.out | apply below_alloc | apply pw_below_drewN | apply below_drew1 | refine below_set ?_ GE189.out) | exact HB.out)⟩
                · rw [if_neg c10] at H
                  have c10b0 : decide (100 < ((rd_L3 l0_5 x3_2).length : Int)) = false := decide_eq_false c10
                  have c10b1 : decide (100 < (rd_L3 l0_5 x3_2).length) = false := decide_eq_false (by omega)
                  clear c10
                  have H' := Aside0.mk H
                  clear H
                  have hcz12_0 : wr.cell? ⟨gb189, 0, none⟩ = some (.int .i64 a0_0) := (blk_cell BK189.out 0).trans rfl
                  have hcz12_1 : wr.cell? ⟨gb189, 1, none⟩ = some (.int .i64 a0_1) := (blk_cell BK189.out 1).trans rfl
                  have hcz12_2 : wr.cell? ⟨gb189, 2, none⟩ = some (.int .i64 a0_2) := (blk_cell BK189.out 2).trans rfl
                  have hcz12_3 : wr.cell? ⟨gb189, 3, none⟩ = some (.int .i64 a0_3) := (blk_cell BK189.out 3).trans rfl
                  have hcz12_4 : wr.cell? ⟨gb189, 4, none⟩ = some (.int .i64 a0_4) := (blk_cell BK189.out 4).trans rfl
                  have hcz12_5 : wr.cell? ⟨gb189, 5, none⟩ = some (.slice A0_5 l0_5.length c0_5) := (blk_cell BK189.out 5).trans rfl
                  have hcz12_6 : wr.cell? ⟨gb189, 6, none⟩ = some (.slice A0_6 l0_6.length c0_6) := (blk_cell BK189.out 6).trans rfl
                  have hfz12_0 := blk_frozen BK189.out 0
                  have hfz12_1 := blk_frozen BK189.out 1
                  have hfz12_2 := blk_frozen BK189.out 2
                  have hfz12_3 := blk_frozen BK189.out 3
                  have hfz12_4 := blk_frozen BK189.out 4
                  have hfz12_5 := blk_frozen BK189.out 5
                  have hfz12_6 := blk_frozen BK189.out 6
                  have p190 : 0 ≤ (x3_2 : Int) := of_decide_eq_true (by first | (with_reducible assumption) | assumption)
                  have q190 : x3_2 < (l0_5.length : Int) := of_decide_eq_true (by first | (with_reducible assumption) | assumption)
                  obtain ⟨ad190, A190_0, c190_0, e190, hx190_0, hl190_0, hi190_0⟩ := at_L3 HR0_5.out x3_2 p190 q190
                  cases e190
                  replace hx190_0 := (HB.out.cell (World.block_lt_of_cell? w _ hx190_0)).trans hx190_0
                  have HR190_0 := Aside0.mk hi190_0
                  have HC190_0 := Aside0.mk hl190_0
                  clear hi190_0 hl190_0
                  replace p190 := eq_true p190
                  replace q190 := eq_true q190
                  go_wp2
                  go_roundg k2
                  case measure => have := HJ1.out; have := HK2.out; omega
                  case rel => exact ⟨(wrap64 (x3_2 + 1)), (by first | rfl | (simp; done) | (simp [*]; done)), H', ⟨by have := HJ1.out; have := HK2.out; omega⟩, ⟨by (with_reducible repeat (first | refine blk_drewN ?_ _ | refine blk_drew ?_ | refine blk_alloc ?_ _)); exact BK189.out⟩, ⟨by repeat (first | (with_reducible first | exact HB.out | apply below_alloc | apply pw_below_drewN | apply below_drew1 | refine below_set ?_ GE189.out) | exact HB.out)⟩⟩
              · rw [if_neg c9] at H
                exact absurd H (by simp)
            · rw [if_neg c8] at H
              have c8b0 : decide (x3_2 < (l0_5.length : Int)) = false := decide_eq_false c8
              clear c8
              obtain rfl := Option.some.inj H
              have hcz13_0 : wr.cell? ⟨gb189, 0, none⟩ = some (.int .i64 a0_0) := (blk_cell BK189.out 0).trans rfl
              have hcz13_1 : wr.cell? ⟨gb189, 1, none⟩ = some (.int .i64 a0_1) := (blk_cell BK189.out 1).trans rfl
              have hcz13_2 : wr.cell? ⟨gb189, 2, none⟩ = some (.int .i64 a0_2) := (blk_cell BK189.out 2).trans rfl
              have hcz13_3 : wr.cell? ⟨gb189, 3, none⟩ = some (.int .i64 a0_3) := (blk_cell BK189.out 3).trans rfl
              have hcz13_4 : wr.cell? ⟨gb189, 4, none⟩ = some (.int .i64 a0_4) := (blk_cell BK189.out 4).trans rfl
              have hcz13_5 : wr.cell? ⟨gb189, 5, none⟩ = some (.slice A0_5 l0_5.length c0_5) := (blk_cell BK189.out 5).trans rfl
              have hcz13_6 : wr.cell? ⟨gb189, 6, none⟩ = some (.slice A0_6 l0_6.length c0_6) := (blk_cell BK189.out 6).trans rfl
              have hfz13_0 := blk_frozen BK189.out 0
              have hfz13_1 := blk_frozen BK189.out 1
              have hfz13_2 := blk_frozen BK189.out 2
              have hfz13_3 := blk_frozen BK189.out 3
              have hfz13_4 := blk_frozen BK189.out 4
              have hfz13_5 := blk_frozen BK189.out 5
              have hfz13_6 := blk_frozen BK189.out 6
              go_wp2
              go_ret
              exact ⟨by first | rfl | (simp [errW_none, errW_some] <;> rfl) | (simp [*, errW_none, errW_some] <;> rfl), by repeat (first | (with_reducible first | exact HB.out | apply below_alloc | apply pw_below_drewN | apply below_drew1 | refine below_set ?_ GE189.out) | exact HB.out)⟩

-- NOT PRINTED: function 8 (revenantlaw22_ScriptTurns)

end Go.Proofs.Ytcphmelmieedfaa.PScriptTurns
