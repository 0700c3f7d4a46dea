import Derived.Test.YthdimjpofkapfaaPLinkExactx0
import Derived.Test.YthdimjpofkapfaaPLinkExactx1
import Derived.Test.YthdimjpofkapfaaPLinkExactx2
import Derived.Test.YthdimjpofkapfaaPLinkExactx3
import Derived.Test.YthdimjpofkapfaaPLinkExactx4
import Derived.Test.YthdimjpofkapfaaPLinkExactx5
import Derived.Test.YthdimjpofkapfaaQLinkExactx6
import Derived.Test.YthdimjpofkapfaaQLinkExactx7
import Derived.Test.YthdimjpofkapfaaQLinkExactx8
namespace Go.Proofs.Ythdimjpofkapfaa.PLinkExact
open Go.RowKit Go.Proofs.YthdimjpofkapfaaW.PrintWords Go.Proofs.YthdimjpofkapfaaW.PrintLast Go.Proofs.YthdimjpofkapfaaW.PrintMore
attribute [local go_sem] max2_int min2_int max_two min_two max_three min_three max_four min_four   -- for this text's walks alone
set_option linter.unusedVariables false
set_option linter.unusedSimpArgs false

/-! ### revenantlaw02_LinkNext: function 3 -/
mutual
def revenantlaw02_LinkNext.j0 : Nat → Int → Int → Int → Int → Int → Int → Int → Int → Option (Bool)
  | 0, _, _, _, _, _, _, _, _ => none
  | k + 1, x0, x1, x2, x7, x8, x10, x11, x12 => if x10 > x11 then (revenantlaw02_LinkNext.j1 k x0 x1 x2 x7 x8 x10 1) else (revenantlaw02_LinkNext.j1 k x0 x1 x2 x7 x8 x10 x12)
def revenantlaw02_LinkNext.j1 : Nat → Int → Int → Int → Int → Int → Int → Int → Option (Bool)
  | 0, _, _, _, _, _, _, _ => none
  | k + 1, x0, x1, x2, x7, x8, x10, x12 => (link_Newer.f k x0 x2).bind fun t203 => (if t203 = x12 then (if x1 < 0 then (revenantlaw02_LinkNext.j2 k x1 x7 x8 x10 true) else (revenantlaw02_LinkNext.j2 k x1 x7 x8 x10 (decide (x1 > 8388607)))) else (some false))
def revenantlaw02_LinkNext.j2 : Nat → Int → Int → Int → Int → Bool → Option (Bool)
  | 0, _, _, _, _, _ => none
  | k + 1, x1, x7, x8, x10, x44 => if x44 = true then (if x7 = 0 then (some (x8 == 3)) else (some false)) else (if x10 = 1099511627775 then (if x7 = 0 then (some (x8 == 7)) else (some false)) else (if x8 = 0 then ((revenantref02_Word.f false x1 (wrap64 (x10 + 1))).bind fun t204 => (some (x7 == t204))) else (some false)))
end
def revenantlaw02_LinkNext.f (k : Nat) (a0 : Int) (a1 : Int) (a2 : Int) : Option (Bool) := (revenantlaw02_awake.f k).bind fun t193 => (if t193 = true then ((link_Next.f k a0 a1).bind fun bt194 => ((revenantref02_Of.f a0).bind fun bt196 => ((revenantref02_Of.f a2).bind fun bt200 => (if bt196.2.2 < bt200.2.2 then (revenantlaw02_LinkNext.j0 k a0 a1 a2 bt194.1 bt194.2 bt196.2.2 bt200.2.2 (-1)) else (revenantlaw02_LinkNext.j0 k a0 a1 a2 bt194.1 bt194.2 bt196.2.2 bt200.2.2 0))))) else (some false))
theorem revenantlaw02_LinkNext.mono_l : ∀ k, (∀ y0 y1 y2 y3 y4 y5 y6 y7, LeO (revenantlaw02_LinkNext.j0 k y0 y1 y2 y3 y4 y5 y6 y7) (revenantlaw02_LinkNext.j0 (k + 1) y0 y1 y2 y3 y4 y5 y6 y7)) ∧ (∀ y0 y1 y2 y3 y4 y5 y6, LeO (revenantlaw02_LinkNext.j1 k y0 y1 y2 y3 y4 y5 y6) (revenantlaw02_LinkNext.j1 (k + 1) y0 y1 y2 y3 y4 y5 y6)) ∧ (∀ y0 y1 y2 y3 y4, LeO (revenantlaw02_LinkNext.j2 k y0 y1 y2 y3 y4) (revenantlaw02_LinkNext.j2 (k + 1) y0 y1 y2 y3 y4))
  | 0 => ⟨fun _ _ _ _ _ _ _ _ r h => by simp [revenantlaw02_LinkNext.j0] at h, fun _ _ _ _ _ _ _ r h => by simp [revenantlaw02_LinkNext.j1] at h, fun _ _ _ _ _ r h => by simp [revenantlaw02_LinkNext.j2] at h⟩
  | k + 1 => by
    obtain ⟨ih0, ih1, ih2⟩ := revenantlaw02_LinkNext.mono_l k
    refine ⟨?_, ?_, ?_⟩
    · intro y0 y1 y2 y3 y4 y5 y6 y7
      unfold revenantlaw02_LinkNext.j0
      repeat' first
      | (with_reducible exact ih0 _ _ _ _ _ _ _ _)
      | (with_reducible exact ih1 _ _ _ _ _ _ _)
      | (with_reducible exact ih2 _ _ _ _ _)
      | (with_reducible exact link_Newer.mono _ _ _)
      | (with_reducible exact link_Next.mono _ _ _)
      | (with_reducible exact revenantlaw02_awake.mono _)
      | (with_reducible exact LeO.refl _)
      | (with_reducible exact LeO.none _)
      | (with_reducible refine LeO.ite ?_ ?_)
      | (with_reducible refine LeO.bind ?_ (fun _ => ?_))
      | exact ih0 _ _ _ _ _ _ _ _
      | exact ih1 _ _ _ _ _ _ _
      | exact ih2 _ _ _ _ _
      | exact link_Newer.mono _ _ _
      | exact link_Next.mono _ _ _
      | exact revenantlaw02_awake.mono _
      | exact LeO.none _
      | refine LeO.ite ?_ ?_
      | refine LeO.bind ?_ (fun _ => ?_)
    · intro y0 y1 y2 y3 y4 y5 y6
      unfold revenantlaw02_LinkNext.j1
      repeat' first
      | (with_reducible exact ih0 _ _ _ _ _ _ _ _)
      | (with_reducible exact ih1 _ _ _ _ _ _ _)
      | (with_reducible exact ih2 _ _ _ _ _)
      | (with_reducible exact link_Newer.mono _ _ _)
      | (with_reducible exact link_Next.mono _ _ _)
      | (with_reducible exact revenantlaw02_awake.mono _)
      | (with_reducible exact LeO.refl _)
      | (with_reducible exact LeO.none _)
      | (with_reducible refine LeO.ite ?_ ?_)
      | (with_reducible refine LeO.bind ?_ (fun _ => ?_))
      | exact ih0 _ _ _ _ _ _ _ _
      | exact ih1 _ _ _ _ _ _ _
      | exact ih2 _ _ _ _ _
      | exact link_Newer.mono _ _ _
      | exact link_Next.mono _ _ _
      | exact revenantlaw02_awake.mono _
      | exact LeO.none _
      | refine LeO.ite ?_ ?_
      | refine LeO.bind ?_ (fun _ => ?_)
    · intro y0 y1 y2 y3 y4
      unfold revenantlaw02_LinkNext.j2
      repeat' first
      | (with_reducible exact ih0 _ _ _ _ _ _ _ _)
      | (with_reducible exact ih1 _ _ _ _ _ _ _)
      | (with_reducible exact ih2 _ _ _ _ _)
      | (with_reducible exact link_Newer.mono _ _ _)
      | (with_reducible exact link_Next.mono _ _ _)
      | (with_reducible exact revenantlaw02_awake.mono _)
      | (with_reducible exact LeO.refl _)
      | (with_reducible exact LeO.none _)
      | (with_reducible refine LeO.ite ?_ ?_)
      | (with_reducible refine LeO.bind ?_ (fun _ => ?_))
      | exact ih0 _ _ _ _ _ _ _ _
      | exact ih1 _ _ _ _ _ _ _
      | exact ih2 _ _ _ _ _
      | exact link_Newer.mono _ _ _
      | exact link_Next.mono _ _ _
      | exact revenantlaw02_awake.mono _
      | exact LeO.none _
      | refine LeO.ite ?_ ?_
      | refine LeO.bind ?_ (fun _ => ?_)
theorem revenantlaw02_LinkNext.mono : ∀ a0 a1 a2 k, LeO (revenantlaw02_LinkNext.f k a0 a1 a2) (revenantlaw02_LinkNext.f (k + 1) a0 a1 a2) := by
  intro a0 a1 a2 k
  obtain ⟨ih0, ih1, ih2⟩ := revenantlaw02_LinkNext.mono_l k
  unfold revenantlaw02_LinkNext.f
  repeat' first
      | (with_reducible exact ih0 _ _ _ _ _ _ _ _)
      | (with_reducible exact ih1 _ _ _ _ _ _ _)
      | (with_reducible exact ih2 _ _ _ _ _)
      | (with_reducible exact link_Newer.mono _ _ _)
      | (with_reducible exact link_Next.mono _ _ _)
      | (with_reducible exact revenantlaw02_awake.mono _)
      | (with_reducible exact LeO.refl _)
      | (with_reducible exact LeO.none _)
      | (with_reducible refine LeO.ite ?_ ?_)
      | (with_reducible refine LeO.bind ?_ (fun _ => ?_))
      | exact ih0 _ _ _ _ _ _ _ _
      | exact ih1 _ _ _ _ _ _ _
      | exact ih2 _ _ _ _ _
      | exact link_Newer.mono _ _ _
      | exact link_Next.mono _ _ _
      | exact revenantlaw02_awake.mono _
      | exact LeO.none _
      | refine LeO.ite ?_ ?_
      | refine LeO.bind ?_ (fun _ => ?_)
set_option maxHeartbeats 8000000 in
set_option maxRecDepth 100000 in
theorem revenantlaw02_LinkNext.callsT (k : Nat) (a0 : Int) (a1 : Int) (a2 : Int) (r : Bool) (w : World) (hr0 : r = true) (h : revenantlaw02_LinkNext.f k a0 a1 a2 = some r) :
    Calls Try.prog 3 #[.int .u64 a0, .int .i64 a1, .int .u64 a2] w fun e w' => e = .returned (.bool r) ∧ Below w.heap.size w w' := by
  have hu28 := Try.underlying28
  have hfl : ∀ (a : Bool) (b c : Int) (W : World), (Instr.field 28 (.agg #[.bool a, .int .i64 b, .int .i64 c]) 2).run Try.prog W = .ok (.int .i64 c) W := fun _ _ _ _ => by kernel_rfl
  have HB := Aside0.mk (Below.refl w.heap.size w)
  have HR := Aside0.mk hr0
  clear hr0
  have H : ((revenantlaw02_awake.f k).bind fun t193 => (if t193 = true then ((link_Next.f k a0 a1).bind fun bt194 => ((revenantref02_Of.f a0).bind fun bt196 => ((revenantref02_Of.f a2).bind fun bt200 => (if bt196.2.2 < bt200.2.2 then (revenantlaw02_LinkNext.j0 k a0 a1 a2 bt194.1 bt194.2 bt196.2.2 bt200.2.2 (-1)) else (revenantlaw02_LinkNext.j0 k a0 a1 a2 bt194.1 bt194.2 bt196.2.2 bt200.2.2 0))))) else (some false))) = some r := h
  clear h
  replace H := Option.bind_eq_some_iff.mp H
  obtain ⟨t193, A40, H⟩ := H
  replace H : (if t193 = true then ((link_Next.f k a0 a1).bind fun bt194 => ((revenantref02_Of.f a0).bind fun bt196 => ((revenantref02_Of.f a2).bind fun bt200 => (if bt196.2.2 < bt200.2.2 then (revenantlaw02_LinkNext.j0 k a0 a1 a2 bt194.1 bt194.2 bt196.2.2 bt200.2.2 (-1)) else (revenantlaw02_LinkNext.j0 k a0 a1 a2 bt194.1 bt194.2 bt196.2.2 bt200.2.2 0))))) else (some false)) = some r := H
  have A4 := Aside0.mk A40
  clear A40
  by_cases c5 : t193 = true
  · subst c5
    have H1 : ((link_Next.f k a0 a1).bind fun bt194 => ((revenantref02_Of.f a0).bind fun bt196 => ((revenantref02_Of.f a2).bind fun bt200 => (if bt196.2.2 < bt200.2.2 then (revenantlaw02_LinkNext.j0 k a0 a1 a2 bt194.1 bt194.2 bt196.2.2 bt200.2.2 (-1)) else (revenantlaw02_LinkNext.j0 k a0 a1 a2 bt194.1 bt194.2 bt196.2.2 bt200.2.2 0))))) = some r := by rw [if_pos rfl] at H; exact H
    clear H
    have H := H1
    clear H1
    replace H := Option.bind_eq_some_iff.mp H
    obtain ⟨⟨t194, t195⟩, A60, H⟩ := H
    replace H : ((revenantref02_Of.f a0).bind fun bt196 => ((revenantref02_Of.f a2).bind fun bt200 => (if bt196.2.2 < bt200.2.2 then (revenantlaw02_LinkNext.j0 k a0 a1 a2 t194 t195 bt196.2.2 bt200.2.2 (-1)) else (revenantlaw02_LinkNext.j0 k a0 a1 a2 t194 t195 bt196.2.2 bt200.2.2 0)))) = some r := H
    have A6 := Aside0.mk A60
    clear A60
    replace H := Option.bind_eq_some_iff.mp H
    obtain ⟨⟨t196, t197, t198⟩, A70, H⟩ := H
    replace H : ((revenantref02_Of.f a2).bind fun bt200 => (if t198 < bt200.2.2 then (revenantlaw02_LinkNext.j0 k a0 a1 a2 t194 t195 t198 bt200.2.2 (-1)) else (revenantlaw02_LinkNext.j0 k a0 a1 a2 t194 t195 t198 bt200.2.2 0))) = some r := H
    have A7 := Aside0.mk A70
    clear A70
    replace H := Option.bind_eq_some_iff.mp H
    obtain ⟨⟨t200, t201, t202⟩, A80, H⟩ := H
    replace H : (if t198 < t202 then (revenantlaw02_LinkNext.j0 k a0 a1 a2 t194 t195 t198 t202 (-1)) else (revenantlaw02_LinkNext.j0 k a0 a1 a2 t194 t195 t198 t202 0)) = some r := H
    have A8 := Aside0.mk A80
    clear A80
    have HC9 := Aside0.mk H
    clear H
    go_enter Try.func3, Try.ntmps3
    go_upto_if 30 with (first | ((with_reducible refine gate_callee (f := 14) rfl ?_); refine goesL_ (some 13) rfl rfl Try.func14 (by kernel_rfl) rfl #[] rfl (by (try simp only [List.map_toArray, List.map_cons, List.map_nil]); first | done | rfl | (simp only [List.length_drop, List.length_take]; rfl)) ?_; (with_reducible refine (revenantlaw02_awake.calls k  true _ A4.out).mono ?_); rintro e w10 ⟨rfl, hb⟩; refine ⟨_, rfl, ?_⟩; have n0_ := Aside0.mk (below_step (by repeat (first | (with_reducible first | exact HB.out | apply below_alloc | apply pw_below_drewN | apply below_drew1) | exact HB.out)) hb); clear HB; have HB := n0_; clear n0_; (try clear hb); (try clear hb2); (try clear hk); (try clear hi)) | ((with_reducible refine gate_callee (f := 15) rfl ?_); refine goesL_ (some 18) rfl rfl Try.func15 (by kernel_rfl) rfl #[.int .u64 a0, .int .i64 a1] rfl (by (try simp only [List.map_toArray, List.map_cons, List.map_nil]); first | done | rfl | (simp only [List.length_drop, List.length_take]; rfl)) ?_; (with_reducible refine (link_Next.calls k a0 a1 t194 t195 _ A6.out).mono ?_); rintro e w11 ⟨rfl, hb⟩; refine ⟨_, rfl, ?_⟩; have n0_ := Aside0.mk (below_step (by repeat (first | (with_reducible first | exact HB.out | apply below_alloc | apply pw_below_drewN | apply below_drew1) | exact HB.out)) hb); clear HB; have HB := n0_; clear n0_; (try clear hb); (try clear hb2); (try clear hk); (try clear hi)) | ((with_reducible refine gate_callee (f := 16) rfl ?_); refine goesL_ (some 22) rfl rfl Try.func16 (by kernel_rfl) rfl #[.int .u64 a0] rfl (by (try simp only [List.map_toArray, List.map_cons, List.map_nil]); first | done | rfl | (simp only [List.length_drop, List.length_take]; rfl)) ?_; (with_reducible refine (revenantref02_Of.calls a0 t196 t197 t198 _ A7.out).mono ?_); rintro e w12 ⟨rfl, hb⟩; refine ⟨_, rfl, ?_⟩; have n0_ := Aside0.mk (below_step (by repeat (first | (with_reducible first | exact HB.out | apply below_alloc | apply pw_below_drewN | apply below_drew1) | exact HB.out)) hb); clear HB; have HB := n0_; clear n0_; (try clear hb); (try clear hb2); (try clear hk); (try clear hi)) | ((with_reducible refine gate_dst (N := 9) rfl ?_); refine box_event ?hg (N := 9) ?hd (cs := #[.bool false, .int .i64 0, .int .i64 0]) (t := 28) ?hr ?_; (case hd => rfl); (case hg => rfl); (case hr => first | (go_simp; done) | (go_simp; rfl)); intro gb199 hg w13 hbox hb; have n0_ := Aside0.mk (below_step (by repeat (first | (with_reducible first | exact HB.out | apply below_alloc | apply pw_below_drewN | apply below_drew1) | exact HB.out)) hb); have n1_ := Aside0.mk (hbox); have n2_ := Aside0.mk ((by rw [hg]; exact (below_size (by repeat (first | (with_reducible first | exact HB.out | apply below_alloc | apply pw_below_drewN | apply below_drew1) | exact HB.out))) : w.heap.size ≤ gb199)); have n3_ := Aside0.mk ((by rw [hg]; exact (below_size (by repeat (first | (with_reducible first | exact HB.out | apply below_alloc | apply pw_below_drewN | apply below_drew1) | exact HB.out))) : w.heap.size ≤ gb199)); clear HB; have HB := n0_; have BK199 := n1_; have GW199 := n2_; have GE199 := n3_; clear n0_ n1_ n2_ n3_; clear hb hbox hg; have hcz14_0 : w13.cell? ⟨gb199, 0, none⟩ = some (.bool false) := (blk_cell BK199.out 0).trans rfl; have hcz14_1 : w13.cell? ⟨gb199, 1, none⟩ = some (.int .i64 0) := (blk_cell BK199.out 1).trans rfl; have hcz14_2 : w13.cell? ⟨gb199, 2, none⟩ = some (.int .i64 0) := (blk_cell BK199.out 2).trans rfl; have hfz14_0 := blk_frozen BK199.out 0; have hfz14_1 := blk_frozen BK199.out 1; have hfz14_2 := blk_frozen BK199.out 2) | ((with_reducible refine gate_callee (f := 16) rfl ?_); refine goesL_ (some 26) rfl rfl Try.func16 (by kernel_rfl) rfl #[.int .u64 a2] rfl (by (try simp only [List.map_toArray, List.map_cons, List.map_nil]); first | done | rfl | (simp only [List.length_drop, List.length_take]; rfl)) ?_; (with_reducible refine (revenantref02_Of.calls a2 t200 t201 t202 _ A8.out).mono ?_); rintro e w15 ⟨rfl, hb⟩; refine ⟨_, rfl, ?_⟩; have n0_ := Aside0.mk (blk_below (g := gb199) (o := .cells #[.bool t196, .int .i64 t197, .int .i64 t198] 28 (0, 0)) (by (with_reducible repeat (first | refine blk_drewN ?_ _ | refine blk_drew ?_ | refine blk_alloc ?_ _)); refine blk_put (cs := #[.bool t196, .int .i64 t197, .int .i64 0]) ?_ 2 _ rfl; (with_reducible repeat (first | refine blk_drewN ?_ _ | refine blk_drew ?_ | refine blk_alloc ?_ _)); refine blk_put (cs := #[.bool t196, .int .i64 0, .int .i64 0]) ?_ 1 _ rfl; (with_reducible repeat (first | refine blk_drewN ?_ _ | refine blk_drew ?_ | refine blk_alloc ?_ _)); refine blk_put (cs := #[.bool false, .int .i64 0, .int .i64 0]) ?_ 0 _ rfl; (with_reducible repeat (first | refine blk_drewN ?_ _ | refine blk_drew ?_ | refine blk_alloc ?_ _)); exact BK199.out) hb); have n1_ := Aside0.mk (below_step (by repeat (first | (with_reducible first | exact HB.out | apply below_alloc | apply pw_below_drewN | apply below_drew1 | refine below_set ?_ GE199.out) | exact HB.out)) hb); clear BK199; clear HB; have BK199 := n0_; have HB := n1_; clear n0_ n1_; (try clear hb); (try clear hb2); (try clear hk); (try clear hi)))
    (try simp only [Act.put, List.setIfInBounds_toArray, List.set_cons_zero, List.set_cons_succ])
    go_cut [12] (fun v12 wc => ∃ (kq : Nat) (x12_8 : Int), v12 = .int .i64 x12_8 ∧ Aside0 (revenantlaw02_LinkNext.j0 kq a0 a1 a2 t194 t195 t198 t202 x12_8 = some r) ∧ Aside0 (kq ≤ k) ∧ Aside0 (wc.heap[gb199]? = some (.cells #[.bool t196, .int .i64 t197, .int .i64 t198] 28 (0, 0))) ∧ Aside0 (Below w.heap.size w wc))
    case first =>
      have H := HC9.out
      clear HC9
      by_cases c16 : t198 < t202
      · rw [if_pos c16] at H
        have c16b0 : decide (t198 < t202) = true := decide_eq_true c16
        clear c16
        (first | rw [c16b0] | (simp only [i64_w, i32_w]; rw [c16b0]) | skip)
        have H' := Aside0.mk H
        clear H
        go_wp2
        go_meet
        case rel => exact ⟨_, ((-1)), (by first | rfl | (simp; done) | (simp [*]; done)), H', ⟨by first | omega | exact Nat.le_refl _⟩, ⟨by (with_reducible repeat (first | refine blk_drewN ?_ _ | refine blk_drew ?_ | refine blk_alloc ?_ _)); exact BK199.out⟩, ⟨by repeat (first | (with_reducible first | exact HB.out | apply below_alloc | apply pw_below_drewN | apply below_drew1 | refine below_set ?_ GE199.out) | exact HB.out)⟩⟩
      · rw [if_neg c16] at H
        have c16b0 : decide (t198 < t202) = false := decide_eq_false c16
        clear c16
        (first | rw [c16b0] | (simp only [i64_w, i32_w]; rw [c16b0]) | skip)
        have H' := Aside0.mk H
        clear H
        go_wp2
        go_meet
        case rel => exact ⟨_, (0), (by first | rfl | (simp; done) | (simp [*]; done)), H', ⟨by first | omega | exact Nat.le_refl _⟩, ⟨by (with_reducible repeat (first | refine blk_drewN ?_ _ | refine blk_drew ?_ | refine blk_alloc ?_ _)); exact BK199.out⟩, ⟨by repeat (first | (with_reducible first | exact HB.out | apply below_alloc | apply pw_below_drewN | apply below_drew1 | refine below_set ?_ GE199.out) | exact HB.out)⟩⟩
    case rest =>
      clear HC9
      try clear c1
      try clear p2
      try clear c3
      try clear c5
      try clear c14
      try clear c15
      try clear c16
      try clear c16b0
      try clear hcz14_0
      try clear hcz14_1
      try clear hcz14_2
      try clear hfz14_0
      try clear hfz14_1
      try clear hfz14_2
      obtain ⟨kq, x12_8, rfl, HA, HJ8, BK199, HB⟩ := hcut
      cases kq with
      | zero => exact absurd HA.out (by simp [revenantlaw02_LinkNext.j0])
      | succ kj8 =>
        have H := HA.out
        clear HA
        simp only [revenantlaw02_LinkNext.j0] at H
        have HC17 := Aside0.mk H
        clear H
        go_upto_if 33 with (fail)
        go_cut [12] (fun v12 wc => ∃ (kq : Nat) (x12_16 : Int), v12 = .int .i64 x12_16 ∧ Aside0 (revenantlaw02_LinkNext.j1 kq a0 a1 a2 t194 t195 t198 x12_16 = some r) ∧ Aside0 (kq ≤ kj8) ∧ Aside0 (wc.heap[gb199]? = some (.cells #[.bool t196, .int .i64 t197, .int .i64 t198] 28 (0, 0))) ∧ Aside0 (Below w.heap.size w wc))
        case first =>
          have H := HC17.out
          clear HC17
          by_cases c18 : t198 > t202
          · rw [if_pos c18] at H
            have c18b0 : decide (t202 < t198) = true := decide_eq_true c18
            clear c18
            (first | rw [c18b0] | (simp only [i64_w, i32_w]; rw [c18b0]) | skip)
            have H' := Aside0.mk H
            clear H
            go_wp2
            go_meet
            case rel => exact ⟨_, (1), (by first | rfl | (simp; done) | (simp [*]; done)), H', ⟨by have := HJ8.out; first | omega | exact Nat.le_refl _⟩, ⟨by (with_reducible repeat (first | refine blk_drewN ?_ _ | refine blk_drew ?_ | refine blk_alloc ?_ _)); exact BK199.out⟩, ⟨by repeat (first | (with_reducible first | exact HB.out | apply below_alloc | apply pw_below_drewN | apply below_drew1 | refine below_set ?_ GE199.out) | exact HB.out)⟩⟩
          · rw [if_neg c18] at H
            have c18b0 : decide (t202 < t198) = false := decide_eq_false c18
            clear c18
            (first | rw [c18b0] | (simp only [i64_w, i32_w]; rw [c18b0]) | skip)
            have H' := Aside0.mk H
            clear H
            go_wp2
            go_meet
            case rel => exact ⟨_, (x12_8), (by first | rfl | (simp; done) | (simp [*]; done)), H', ⟨by have := HJ8.out; first | omega | exact Nat.le_refl _⟩, ⟨by (with_reducible repeat (first | refine blk_drewN ?_ _ | refine blk_drew ?_ | refine blk_alloc ?_ _)); exact BK199.out⟩, ⟨by repeat (first | (with_reducible first | exact HB.out | apply below_alloc | apply pw_below_drewN | apply below_drew1 | refine below_set ?_ GE199.out) | exact HB.out)⟩⟩
        case rest =>
          clear HC17
          try clear c1
          try clear p2
          try clear c3
          try clear c5
          try clear c14
          try clear c15
          try clear c16
          try clear c16b0
          try clear c18
          try clear c18b0
          try clear hcz14_0
          try clear hcz14_1
          try clear hcz14_2
          try clear hfz14_0
          try clear hfz14_1
          try clear hfz14_2
          try clear p2
          obtain ⟨kq, x12_16, rfl, HA, HJ16, BK199, HB⟩ := hcut
          cases kq with
          | zero => exact absurd HA.out (by simp [revenantlaw02_LinkNext.j1])
          | succ kj16 =>
            have H := HA.out
            clear HA
            simp only [revenantlaw02_LinkNext.j1] at H
            replace H := Option.bind_eq_some_iff.mp H
            obtain ⟨t203, A190, H⟩ := H
            replace H : (if t203 = x12_16 then (if a1 < 0 then (revenantlaw02_LinkNext.j2 kj16 a1 t194 t195 t198 true) else (revenantlaw02_LinkNext.j2 kj16 a1 t194 t195 t198 (decide (a1 > 8388607)))) else (some false)) = some r := H
            have A19 := Aside0.mk A190
            clear A190
            by_cases c20 : t203 = x12_16
            · rw [if_pos c20] at H
              have c20b0 : (t203 == x12_16) = true := beq_iff_eq.mpr c20
              have c20b1 : (t203 != x12_16) = false := bne_eq_false_iff_eq.mpr c20
              clear c20
              have HC21 := Aside0.mk H
              clear H
              go_upto_region 14 with (first | ((with_reducible refine gate_callee (f := 17) rfl ?_); refine goesL_ (some 36) rfl rfl Try.func17 (by kernel_rfl) rfl #[.int .u64 a0, .int .u64 a2] rfl (by (try simp only [List.map_toArray, List.map_cons, List.map_nil]); first | done | rfl | (simp only [List.length_drop, List.length_take]; rfl)) ?_; (with_reducible refine (link_Newer.calls kj16 a0 a2 t203 _ A19.out).mono ?_); rintro e w22 ⟨rfl, hb⟩; refine ⟨_, rfl, ?_⟩; have n0_ := Aside0.mk (blk_below (g := gb199) (o := .cells #[.bool t196, .int .i64 t197, .int .i64 t198] 28 (0, 0)) (by (with_reducible repeat (first | refine blk_drewN ?_ _ | refine blk_drew ?_ | refine blk_alloc ?_ _)); exact BK199.out) hb); have n1_ := Aside0.mk (below_step (by repeat (first | (with_reducible first | exact HB.out | apply below_alloc | apply pw_below_drewN | apply below_drew1 | refine below_set ?_ GE199.out) | exact HB.out)) hb); clear BK199; clear HB; have BK199 := n0_; have HB := n1_; clear n0_ n1_; (try clear hb); (try clear hb2); (try clear hk); (try clear hi)))
              (try simp only [Act.put, List.setIfInBounds_toArray, List.set_cons_zero, List.set_cons_succ])
              go_cut [44] (fun v44 wc => ∃ (kq : Nat) (x44_20 : Bool), v44 = .bool x44_20 ∧ Aside0 (revenantlaw02_LinkNext.j2 kq a1 t194 t195 t198 x44_20 = some r) ∧ Aside0 (kq ≤ kj16) ∧ Aside0 (wc.heap[gb199]? = some (.cells #[.bool t196, .int .i64 t197, .int .i64 t198] 28 (0, 0))) ∧ Aside0 (Below w.heap.size w wc))
              case first =>
                have H := HC21.out
                clear HC21
                by_cases c23 : a1 < 0
                · rw [if_pos c23] at H
                  have c23b0 : decide (a1 < 0) = true := decide_eq_true c23
                  clear c23
                  (first | rw [c23b0] | (simp only [i64_w, i32_w]; rw [c23b0]) | skip)
                  have H' := Aside0.mk H
                  clear H
                  go_wp2
                  go_meet
                  case rel => exact ⟨_, (true), (by first | rfl | (simp; done) | (simp [*]; done)), H', ⟨by have := HJ8.out; have := HJ16.out; first | omega | exact Nat.le_refl _⟩, ⟨by (with_reducible repeat (first | refine blk_drewN ?_ _ | refine blk_drew ?_ | refine blk_alloc ?_ _)); exact BK199.out⟩, ⟨by repeat (first | (with_reducible first | exact HB.out | apply below_alloc | apply pw_below_drewN | apply below_drew1 | refine below_set ?_ GE199.out) | exact HB.out)⟩⟩
                · rw [if_neg c23] at H
                  have c23b0 : decide (a1 < 0) = false := decide_eq_false c23
                  clear c23
                  (first | rw [c23b0] | (simp only [i64_w, i32_w]; rw [c23b0]) | skip)
                  have H' := Aside0.mk H
                  clear H
                  go_wp2
                  go_meet
                  case rel => exact ⟨_, (decide (a1 > 8388607)), (by first | rfl | (simp; done) | (simp [*]; done)), H', ⟨by have := HJ8.out; have := HJ16.out; first | omega | exact Nat.le_refl _⟩, ⟨by (with_reducible repeat (first | refine blk_drewN ?_ _ | refine blk_drew ?_ | refine blk_alloc ?_ _)); exact BK199.out⟩, ⟨by repeat (first | (with_reducible first | exact HB.out | apply below_alloc | apply pw_below_drewN | apply below_drew1 | refine below_set ?_ GE199.out) | exact HB.out)⟩⟩
              case rest =>
                clear HC21
                try clear c1
                try clear c2
                try clear p2
                try clear c3
                try clear c5
                try clear c14
                try clear c15
                try clear c16
                try clear c16b0
                try clear c17
                try clear c18
                try clear c18b0
                try clear c20
                try clear c20b0
                try clear c20b1
                try clear c23
                try clear c23b0
                try clear hcz14_0
                try clear hcz14_1
                try clear hcz14_2
                try clear hfz14_0
                try clear hfz14_1
                try clear hfz14_2
                try clear p2
                obtain ⟨kq, x44_20, rfl, HA, HJ20, BK199, HB⟩ := hcut
                cases kq with
                | zero => exact absurd HA.out (by simp [revenantlaw02_LinkNext.j2])
                | succ kj20 =>
                  have H := HA.out
                  clear HA
                  simp only [revenantlaw02_LinkNext.j2] at H
                  by_cases c24 : x44_20 = true
                  · subst c24
                    have H1 : (if t194 = 0 then (some (t195 == 3)) else (some false)) = some r := by rw [if_pos rfl] at H; exact H
                    clear H
                    have H := H1
                    clear H1
                    by_cases c25 : t194 = 0
                    · rw [if_pos c25] at H
                      have c25b0 : (t194 == 0) = true := beq_iff_eq.mpr c25
                      have c25b1 : (t194 != 0) = false := bne_eq_false_iff_eq.mpr c25
                      clear c25
                      obtain rfl := Option.some.inj H
                      go_wp2
                      go_ret
                      exact ⟨by first | rfl | (simp [errW_none, errW_some] <;> rfl) | (simp [*, errW_none, errW_some] <;> rfl), by repeat (first | (with_reducible first | exact HB.out | apply below_alloc | apply pw_below_drewN | apply below_drew1 | refine below_set ?_ GE199.out) | exact HB.out)⟩
                    · rw [if_neg c25] at H
                      have c25b0 : (t194 == 0) = false := beq_eq_false_iff_ne.mpr c25
                      have c25b1 : (t194 != 0) = true := bne_iff_ne.mpr c25
                      exact absurd ((Option.some.inj H).trans HR.out) (by decide)
                  · replace c24 := Bool.eq_false_iff.mpr c24
                    subst c24
                    have H1 : (if t198 = 1099511627775 then (if t194 = 0 then (some (t195 == 7)) else (some false)) else (if t195 = 0 then ((revenantref02_Word.f false a1 (wrap64 (t198 + 1))).bind fun t204 => (some (t194 == t204))) else (some false))) = some r := by rw [if_neg (show ¬ (false = true) by decide)] at H; exact H
                    clear H
                    have H := H1
                    clear H1
                    by_cases c26 : t198 = 1099511627775
                    · rw [if_pos c26] at H
                      have c26b0 : (t198 == 1099511627775) = true := beq_iff_eq.mpr c26
                      have c26b1 : (t198 != 1099511627775) = false := bne_eq_false_iff_eq.mpr c26
                      clear c26
                      by_cases c27 : t194 = 0
                      · rw [if_pos c27] at H
                        have c27b0 : (t194 == 0) = true := beq_iff_eq.mpr c27
                        have c27b1 : (t194 != 0) = false := bne_eq_false_iff_eq.mpr c27
                        clear c27
                        obtain rfl := Option.some.inj H
                        go_wp2
                        go_ret
                        exact ⟨by first | rfl | (simp [errW_none, errW_some] <;> rfl) | (simp [*, errW_none, errW_some] <;> rfl), by repeat (first | (with_reducible first | exact HB.out | apply below_alloc | apply pw_below_drewN | apply below_drew1 | refine below_set ?_ GE199.out) | exact HB.out)⟩
                      · rw [if_neg c27] at H
                        have c27b0 : (t194 == 0) = false := beq_eq_false_iff_ne.mpr c27
                        have c27b1 : (t194 != 0) = true := bne_iff_ne.mpr c27
                        exact absurd ((Option.some.inj H).trans HR.out) (by decide)
                    · rw [if_neg c26] at H
                      have c26b0 : (t198 == 1099511627775) = false := beq_eq_false_iff_ne.mpr c26
                      have c26b1 : (t198 != 1099511627775) = true := bne_iff_ne.mpr c26
                      by_cases c28 : t195 = 0
                      · rw [if_pos c28] at H
                        have c28b0 : (t195 == 0) = true := beq_iff_eq.mpr c28
                        have c28b1 : (t195 != 0) = false := bne_eq_false_iff_eq.mpr c28
                        clear c28
                        replace H := Option.bind_eq_some_iff.mp H
                        obtain ⟨t204, A290, H⟩ := H
                        replace H : (some (t194 == t204)) = some r := H
                        have A29 := Aside0.mk A290
                        clear A290
                        obtain rfl := Option.some.inj H
                        go_wp2_with (first | (go_at_call 18; (with_reducible refine (revenantref02_Word.calls false a1 (wrap64 (t198 + 1)) t204 _ A29.out).mono ?_); rintro e w30 ⟨rfl, hb⟩; have n0_ := Aside0.mk (blk_below (g := gb199) (o := .cells #[.bool t196, .int .i64 t197, .int .i64 t198] 28 (0, 0)) (by (with_reducible repeat (first | refine blk_drewN ?_ _ | refine blk_drew ?_ | refine blk_alloc ?_ _)); exact BK199.out) hb); have n1_ := Aside0.mk (below_step (by repeat (first | (with_reducible first | exact HB.out | apply below_alloc | apply pw_below_drewN | apply below_drew1 | refine below_set ?_ GE199.out) | exact HB.out)) hb); clear BK199; clear HB; have BK199 := n0_; have HB := n1_; clear n0_ n1_; (try clear hb); (try clear hb2); (try clear hk); (try clear hi)))
                        go_ret
                        exact ⟨by first | rfl | (simp [errW_none, errW_some] <;> rfl) | (simp [*, errW_none, errW_some] <;> rfl), by repeat (first | (with_reducible first | exact HB.out | apply below_alloc | apply pw_below_drewN | apply below_drew1 | refine below_set ?_ GE199.out) | exact HB.out)⟩
                      · rw [if_neg c28] at H
                        have c28b0 : (t195 == 0) = false := beq_eq_false_iff_ne.mpr c28
                        have c28b1 : (t195 != 0) = true := bne_iff_ne.mpr c28
                        exact absurd ((Option.some.inj H).trans HR.out) (by decide)
            · rw [if_neg c20] at H
              have c20b0 : (t203 == x12_16) = false := beq_eq_false_iff_ne.mpr c20
              have c20b1 : (t203 != x12_16) = true := bne_iff_ne.mpr c20
              exact absurd ((Option.some.inj H).trans HR.out) (by decide)
  · replace c5 := Bool.eq_false_iff.mpr c5
    subst c5
    have H1 : (some false) = some r := by rw [if_neg (show ¬ (false = true) by decide)] at H; exact H
    clear H
    have H := H1
    clear H1
    exact absurd ((Option.some.inj H).trans HR.out) (by decide)

end Go.Proofs.Ythdimjpofkapfaa.PLinkExact
