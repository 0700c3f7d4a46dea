-- WRITTEN BY A PROGRAM OF THIS SESSION (xprint.sh): the walks of plain functions over contracts of my own.
import Derived.Test.YtcphmelmieedfaaPScriptExactx0
import Derived.Test.YtcphmelmieedfaaPScriptExactx6
namespace Go.Proofs.Ytcphmelmieedfaa.PScriptExact
open Go.RowKit Go.Proofs.YtcphmelmieedfaaW.PrintWords Go.Proofs.YtcphmelmieedfaaW.PrintLast Go.Proofs.YtcphmelmieedfaaW.PrintMore
attribute [local go_sem] max2_int min2_int max_two min_two max_three min_three max_four min_four   -- for this text's walks alone
set_option linter.unusedVariables false
set_option linter.unusedSimpArgs false

/-! ### revenantref03_Op: function 49 -/
mutual
def revenantref03_Op.j0 : Nat → Bool → Int → Int → Int → Int → Int → Int → Int → Int → Int → Option (Int)
  | 0, _, _, _, _, _, _, _, _, _, _ => none
  | k + 1, x45, x146000, x146001, x146002, x146003, x146004, x147000, x147001, x147002, x147003 => if x45 = true then (some 8) else (if x146000 = 3 then (revenantref03_Op.j1 k 0 0 (x147000 == 1) x146000 x146001 x146002 x146003 x146004 x147000 x147001 x147002 x147003) else (revenantref03_Op.j1 k 0 0 false x146000 x146001 x146002 x146003 x146004 x147000 x147001 x147002 x147003))
def revenantref03_Op.j1 : Nat → Int → Int → Bool → Int → Int → Int → Int → Int → Int → Int → Int → Int → Option (Int)
  | 0, _, _, _, _, _, _, _, _, _, _, _, _ => none
  | k + 1, x6, x7, x53, x146000, x146001, x146002, x146003, x146004, x147000, x147001, x147002, x147003 => if x53 = true then (revenantref03_Op.j2 k 1 x146003 x147000 x147001 x147002 x147003) else (revenantref03_Op.j2 k x6 x7 x147000 x147001 x147002 x147003)
def revenantref03_Op.j2 : Nat → Int → Int → Int → Int → Int → Int → Option (Int)
  | 0, _, _, _, _, _, _ => none
  | k + 1, x6, x7, x147000, x147001, x147002, x147003 => if x147003 < x6 then (revenantref03_Op.j3 k true x147000 x147001 x147002 x147003) else (revenantref03_Op.j3 k (decide (x147003 > x7)) x147000 x147001 x147002 x147003)
def revenantref03_Op.j3 : Nat → Bool → Int → Int → Int → Int → Option (Int)
  | 0, _, _, _, _, _ => none
  | k + 1, x65, x147000, x147001, x147002, x147003 => if x65 = true then (some 3) else (if x147002 = 0 then (if x147001 = 0 then (some 0) else (if x147000 = 8 then (some 1) else (some 0))) else (if x147000 = 4 then (if x147001 = 0 then (some 0) else (if x147000 = 8 then (some 1) else (some 0))) else (if x147000 = 5 then (if x147001 = 0 then (some 0) else (if x147000 = 8 then (some 1) else (some 0))) else (some 1))))
end
def revenantref03_Op.f (k : Nat) (a0_0 : Int) (a0_1 : Int) (a0_2 : Int) (a0_3 : Int) (a0_4 : Int) (a1_0 : Int) (a1_1 : Int) (a1_2 : Int) (a1_3 : Int) : Option (Int) := (revenantref03_Check.f k a0_0 a0_1 a0_2 a0_3 a0_4).bind fun t147 => (if t147 = 0 then (if a1_0 < 1 then (revenantref03_Op.j0 k true a0_0 a0_1 a0_2 a0_3 a0_4 a1_0 a1_1 a1_2 a1_3) else (if a1_0 > 8 then (revenantref03_Op.j0 k true a0_0 a0_1 a0_2 a0_3 a0_4 a1_0 a1_1 a1_2 a1_3) else (if a0_0 = 2 then (if a1_0 < 4 then (revenantref03_Op.j0 k true a0_0 a0_1 a0_2 a0_3 a0_4 a1_0 a1_1 a1_2 a1_3) else (revenantref03_Op.j0 k false a0_0 a0_1 a0_2 a0_3 a0_4 a1_0 a1_1 a1_2 a1_3)) else (if a1_0 > 3 then (revenantref03_Op.j0 k (decide (a1_0 < 8)) a0_0 a0_1 a0_2 a0_3 a0_4 a1_0 a1_1 a1_2 a1_3) else (revenantref03_Op.j0 k false a0_0 a0_1 a0_2 a0_3 a0_4 a1_0 a1_1 a1_2 a1_3))))) else (some t147))
theorem revenantref03_Op.mono_l : ∀ k, (∀ y0 y1 y2 y3 y4 y5 y6 y7 y8 y9, LeO (revenantref03_Op.j0 k y0 y1 y2 y3 y4 y5 y6 y7 y8 y9) (revenantref03_Op.j0 (k + 1) y0 y1 y2 y3 y4 y5 y6 y7 y8 y9)) ∧ (∀ y0 y1 y2 y3 y4 y5 y6 y7 y8 y9 y10 y11, LeO (revenantref03_Op.j1 k y0 y1 y2 y3 y4 y5 y6 y7 y8 y9 y10 y11) (revenantref03_Op.j1 (k + 1) y0 y1 y2 y3 y4 y5 y6 y7 y8 y9 y10 y11)) ∧ (∀ y0 y1 y2 y3 y4 y5, LeO (revenantref03_Op.j2 k y0 y1 y2 y3 y4 y5) (revenantref03_Op.j2 (k + 1) y0 y1 y2 y3 y4 y5)) ∧ (∀ y0 y1 y2 y3 y4, LeO (revenantref03_Op.j3 k y0 y1 y2 y3 y4) (revenantref03_Op.j3 (k + 1) y0 y1 y2 y3 y4))
  | 0 => ⟨fun _ _ _ _ _ _ _ _ _ _ r h => by simp [revenantref03_Op.j0] at h, fun _ _ _ _ _ _ _ _ _ _ _ _ r h => by simp [revenantref03_Op.j1] at h, fun _ _ _ _ _ _ r h => by simp [revenantref03_Op.j2] at h, fun _ _ _ _ _ r h => by simp [revenantref03_Op.j3] at h⟩
  | k + 1 => by
    obtain ⟨ih0, ih1, ih2, ih3⟩ := revenantref03_Op.mono_l k
    refine ⟨?_, ?_, ?_, ?_⟩
    · intro y0 y1 y2 y3 y4 y5 y6 y7 y8 y9
      unfold revenantref03_Op.j0
      repeat' first
      | (with_reducible exact ih0 _ _ _ _ _ _ _ _ _ _)
      | (with_reducible exact ih1 _ _ _ _ _ _ _ _ _ _ _ _)
      | (with_reducible exact ih2 _ _ _ _ _ _)
      | (with_reducible exact ih3 _ _ _ _ _)
      | (with_reducible exact revenantref03_Check.mono _ _ _ _ _ _)
      | (with_reducible exact LeO.refl _)
      | (with_reducible exact LeO.none _)
      | (with_reducible refine LeO.ite ?_ ?_)
      | (with_reducible refine LeO.bind ?_ (fun _ => ?_))
      | exact ih0 _ _ _ _ _ _ _ _ _ _
      | exact ih1 _ _ _ _ _ _ _ _ _ _ _ _
      | exact ih2 _ _ _ _ _ _
      | exact ih3 _ _ _ _ _
      | exact revenantref03_Check.mono _ _ _ _ _ _
      | exact LeO.none _
      | refine LeO.ite ?_ ?_
      | refine LeO.bind ?_ (fun _ => ?_)
    · intro y0 y1 y2 y3 y4 y5 y6 y7 y8 y9 y10 y11
      unfold revenantref03_Op.j1
      repeat' first
      | (with_reducible exact ih0 _ _ _ _ _ _ _ _ _ _)
      | (with_reducible exact ih1 _ _ _ _ _ _ _ _ _ _ _ _)
      | (with_reducible exact ih2 _ _ _ _ _ _)
      | (with_reducible exact ih3 _ _ _ _ _)
      | (with_reducible exact revenantref03_Check.mono _ _ _ _ _ _)
      | (with_reducible exact LeO.refl _)
      | (with_reducible exact LeO.none _)
      | (with_reducible refine LeO.ite ?_ ?_)
      | (with_reducible refine LeO.bind ?_ (fun _ => ?_))
      | exact ih0 _ _ _ _ _ _ _ _ _ _
      | exact ih1 _ _ _ _ _ _ _ _ _ _ _ _
      | exact ih2 _ _ _ _ _ _
      | exact ih3 _ _ _ _ _
      | exact revenantref03_Check.mono _ _ _ _ _ _
      | exact LeO.none _
      | refine LeO.ite ?_ ?_
      | refine LeO.bind ?_ (fun _ => ?_)
    · intro y0 y1 y2 y3 y4 y5
      unfold revenantref03_Op.j2
      repeat' first
      | (with_reducible exact ih0 _ _ _ _ _ _ _ _ _ _)
      | (with_reducible exact ih1 _ _ _ _ _ _ _ _ _ _ _ _)
      | (with_reducible exact ih2 _ _ _ _ _ _)
      | (with_reducible exact ih3 _ _ _ _ _)
      | (with_reducible exact revenantref03_Check.mono _ _ _ _ _ _)
      | (with_reducible exact LeO.refl _)
      | (with_reducible exact LeO.none _)
      | (with_reducible refine LeO.ite ?_ ?_)
      | (with_reducible refine LeO.bind ?_ (fun _ => ?_))
      | exact ih0 _ _ _ _ _ _ _ _ _ _
      | exact ih1 _ _ _ _ _ _ _ _ _ _ _ _
      | exact ih2 _ _ _ _ _ _
      | exact ih3 _ _ _ _ _
      | exact revenantref03_Check.mono _ _ _ _ _ _
      | exact LeO.none _
      | refine LeO.ite ?_ ?_
      | refine LeO.bind ?_ (fun _ => ?_)
    · intro y0 y1 y2 y3 y4
      unfold revenantref03_Op.j3
      repeat' first
      | (with_reducible exact ih0 _ _ _ _ _ _ _ _ _ _)
      | (with_reducible exact ih1 _ _ _ _ _ _ _ _ _ _ _ _)
      | (with_reducible exact ih2 _ _ _ _ _ _)
      | (with_reducible exact ih3 _ _ _ _ _)
      | (with_reducible exact revenantref03_Check.mono _ _ _ _ _ _)
      | (with_reducible exact LeO.refl _)
      | (with_reducible exact LeO.none _)
      | (with_reducible refine LeO.ite ?_ ?_)
      | (with_reducible refine LeO.bind ?_ (fun _ => ?_))
      | exact ih0 _ _ _ _ _ _ _ _ _ _
      | exact ih1 _ _ _ _ _ _ _ _ _ _ _ _
      | exact ih2 _ _ _ _ _ _
      | exact ih3 _ _ _ _ _
      | exact revenantref03_Check.mono _ _ _ _ _ _
      | exact LeO.none _
      | refine LeO.ite ?_ ?_
      | refine LeO.bind ?_ (fun _ => ?_)
theorem revenantref03_Op.mono : ∀ a0 a1 a2 a3 a4 a5 a6 a7 a8 k, LeO (revenantref03_Op.f k a0 a1 a2 a3 a4 a5 a6 a7 a8) (revenantref03_Op.f (k + 1) a0 a1 a2 a3 a4 a5 a6 a7 a8) := by
  intro a0 a1 a2 a3 a4 a5 a6 a7 a8 k
  obtain ⟨ih0, ih1, ih2, ih3⟩ := revenantref03_Op.mono_l k
  unfold revenantref03_Op.f
  repeat' first
      | (with_reducible exact ih0 _ _ _ _ _ _ _ _ _ _)
      | (with_reducible exact ih1 _ _ _ _ _ _ _ _ _ _ _ _)
      | (with_reducible exact ih2 _ _ _ _ _ _)
      | (with_reducible exact ih3 _ _ _ _ _)
      | (with_reducible exact revenantref03_Check.mono _ _ _ _ _ _)
      | (with_reducible exact LeO.refl _)
      | (with_reducible exact LeO.none _)
      | (with_reducible refine LeO.ite ?_ ?_)
      | (with_reducible refine LeO.bind ?_ (fun _ => ?_))
      | exact ih0 _ _ _ _ _ _ _ _ _ _
      | exact ih1 _ _ _ _ _ _ _ _ _ _ _ _
      | exact ih2 _ _ _ _ _ _
      | exact ih3 _ _ _ _ _
      | exact revenantref03_Check.mono _ _ _ _ _ _
      | exact LeO.none _
      | refine LeO.ite ?_ ?_
      | refine LeO.bind ?_ (fun _ => ?_)
set_option maxHeartbeats 8000000 in
set_option maxRecDepth 100000 in
theorem revenantref03_Op.calls (k : Nat) (a0_0 : Int) (a0_1 : Int) (a0_2 : Int) (a0_3 : Int) (a0_4 : Int) (a1_0 : Int) (a1_1 : Int) (a1_2 : Int) (a1_3 : Int) (r : Int) (w : World) (h : revenantref03_Op.f k a0_0 a0_1 a0_2 a0_3 a0_4 a1_0 a1_1 a1_2 a1_3 = some r) :
    Calls Try.prog 49 #[.agg #[.int .i64 a0_0, .int .i64 a0_1, .int .i64 a0_2, .int .i64 a0_3, .int .i64 a0_4], .agg #[.int .i64 a1_0, .int .u64 a1_1, .int .u64 a1_2, .int .i64 a1_3]] w fun e w' => e = .returned (.int .i64 r) ∧ Below w.heap.size w w' := by
  have hu31 := Try.underlying31
  have hu37 := Try.underlying37
  have HB := Aside0.mk (Below.refl w.heap.size w)
  have H : ((revenantref03_Check.f k a0_0 a0_1 a0_2 a0_3 a0_4).bind fun t147 => (if t147 = 0 then (if a1_0 < 1 then (revenantref03_Op.j0 k true a0_0 a0_1 a0_2 a0_3 a0_4 a1_0 a1_1 a1_2 a1_3) else (if a1_0 > 8 then (revenantref03_Op.j0 k true a0_0 a0_1 a0_2 a0_3 a0_4 a1_0 a1_1 a1_2 a1_3) else (if a0_0 = 2 then (if a1_0 < 4 then (revenantref03_Op.j0 k true a0_0 a0_1 a0_2 a0_3 a0_4 a1_0 a1_1 a1_2 a1_3) else (revenantref03_Op.j0 k false a0_0 a0_1 a0_2 a0_3 a0_4 a1_0 a1_1 a1_2 a1_3)) else (if a1_0 > 3 then (revenantref03_Op.j0 k (decide (a1_0 < 8)) a0_0 a0_1 a0_2 a0_3 a0_4 a1_0 a1_1 a1_2 a1_3) else (revenantref03_Op.j0 k false a0_0 a0_1 a0_2 a0_3 a0_4 a1_0 a1_1 a1_2 a1_3))))) else (some t147))) = some r := h
  clear h
  replace H := Option.bind_eq_some_iff.mp H
  obtain ⟨t147, A30, H⟩ := H
  replace H : (if t147 = 0 then (if a1_0 < 1 then (revenantref03_Op.j0 k true a0_0 a0_1 a0_2 a0_3 a0_4 a1_0 a1_1 a1_2 a1_3) else (if a1_0 > 8 then (revenantref03_Op.j0 k true a0_0 a0_1 a0_2 a0_3 a0_4 a1_0 a1_1 a1_2 a1_3) else (if a0_0 = 2 then (if a1_0 < 4 then (revenantref03_Op.j0 k true a0_0 a0_1 a0_2 a0_3 a0_4 a1_0 a1_1 a1_2 a1_3) else (revenantref03_Op.j0 k false a0_0 a0_1 a0_2 a0_3 a0_4 a1_0 a1_1 a1_2 a1_3)) else (if a1_0 > 3 then (revenantref03_Op.j0 k (decide (a1_0 < 8)) a0_0 a0_1 a0_2 a0_3 a0_4 a1_0 a1_1 a1_2 a1_3) else (revenantref03_Op.j0 k false a0_0 a0_1 a0_2 a0_3 a0_4 a1_0 a1_1 a1_2 a1_3))))) else (some t147)) = some r := H
  have A3 := Aside0.mk A30
  clear A30
  by_cases c4 : t147 = 0
  · rw [if_pos c4] at H
    have c4b0 : (t147 == 0) = true := beq_iff_eq.mpr c4
    have c4b1 : (t147 != 0) = false := bne_eq_false_iff_eq.mpr c4
    clear c4
    have HC5 := Aside0.mk H
    clear H
    go_enter Try.func49, Try.ntmps49
    go_upto_region 4 with (first | ((with_reducible refine gate_dst (N := 2) rfl ?_); refine box_event ?hg (N := 2) ?hd (cs := #[.int .i64 a0_0, .int .i64 a0_1, .int .i64 a0_2, .int .i64 a0_3, .int .i64 a0_4]) (t := 31) ?hr ?_; (case hd => rfl); (case hg => rfl); (case hr => first | (go_simp; done) | (go_simp; rfl)); intro gb145 hg w6 hbox hb; have n0_ := Aside0.mk (below_step (by repeat (first | (with_reducible first | exact HB.out | apply below_alloc | apply pw_below_drewN | apply below_drew1) | exact HB.out)) hb); have n1_ := Aside0.mk (hbox); have n2_ := Aside0.mk ((by rw [hg]; exact (below_size (by repeat (first | (with_reducible first | exact HB.out | apply below_alloc | apply pw_below_drewN | apply below_drew1) | exact HB.out))) : w.heap.size ≤ gb145)); have n3_ := Aside0.mk ((by rw [hg]; exact (below_size (by repeat (first | (with_reducible first | exact HB.out | apply below_alloc | apply pw_below_drewN | apply below_drew1) | exact HB.out))) : w.heap.size ≤ gb145)); clear HB; have HB := n0_; have BK145 := n1_; have GW145 := n2_; have GE145 := n3_; clear n0_ n1_ n2_ n3_; clear hb hbox hg) | ((with_reducible refine gate_dst (N := 3) rfl ?_); refine box_event ?hg (N := 3) ?hd (cs := #[.int .i64 a1_0, .int .u64 a1_1, .int .u64 a1_2, .int .i64 a1_3]) (t := 37) ?hr ?_; (case hd => rfl); (case hg => rfl); (case hr => first | (go_simp; done) | (go_simp; rfl)); intro gb146 hg w7 hbox hb; have n0_ := Aside0.mk (blk_below (g := gb145) (o := .cells #[.int .i64 a0_0, .int .i64 a0_1, .int .i64 a0_2, .int .i64 a0_3, .int .i64 a0_4] 31 (0, 0)) (by (with_reducible repeat (first | refine blk_drewN ?_ _ | refine blk_drew ?_ | refine blk_alloc ?_ _)); exact BK145.out) hb); have n1_ := Aside0.mk (below_step (by repeat (first | (with_reducible first | exact HB.out | apply below_alloc | apply pw_below_drewN | apply below_drew1 | refine below_set ?_ GE145.out) | exact HB.out)) hb); have n2_ := Aside0.mk (hbox); have n3_ := Aside0.mk ((by rw [hg]; exact (below_size (by repeat (first | (with_reducible first | exact HB.out | apply below_alloc | apply pw_below_drewN | apply below_drew1 | refine below_set ?_ GE145.out) | exact HB.out))) : w.heap.size ≤ gb146)); have n4_ := Aside0.mk ((by rw [hg]; exact (below_size (by repeat (first | (with_reducible first | exact HB.out | apply below_alloc | apply pw_below_drewN | apply below_drew1 | refine below_set ?_ GE145.out) | exact HB.out))) : w.heap.size ≤ gb146)); have n5_ := Aside0.mk ((by rw [hg]; exact Nat.ne_of_lt (blk_lt (g := gb145) (o := .cells #[.int .i64 a0_0, .int .i64 a0_1, .int .i64 a0_2, .int .i64 a0_3, .int .i64 a0_4] 31 (0, 0)) (by (with_reducible repeat (first | refine blk_drewN ?_ _ | refine blk_drew ?_ | refine blk_alloc ?_ _)); exact BK145.out)) : gb145 ≠ gb146)); have n6_ := Aside0.mk ((by rw [hg]; exact Nat.ne_of_gt (blk_lt (g := gb145) (o := .cells #[.int .i64 a0_0, .int .i64 a0_1, .int .i64 a0_2, .int .i64 a0_3, .int .i64 a0_4] 31 (0, 0)) (by (with_reducible repeat (first | refine blk_drewN ?_ _ | refine blk_drew ?_ | refine blk_alloc ?_ _)); exact BK145.out)) : gb146 ≠ gb145)); clear BK145; clear HB; have BK145 := n0_; have HB := n1_; have BK146 := n2_; have GW146 := n3_; have GE146 := n4_; have NB145_146 := n5_; have NB146_145 := n6_; clear n0_ n1_ n2_ n3_ n4_ n5_ n6_; clear hb hbox hg; have hnb8 := NB145_146.out; have hnc8 := NB146_145.out; have hcz9_0 : w7.cell? ⟨gb145, 0, none⟩ = some (.int .i64 a0_0) := (blk_cell BK145.out 0).trans rfl; have hcz9_1 : w7.cell? ⟨gb145, 1, none⟩ = some (.int .i64 a0_1) := (blk_cell BK145.out 1).trans rfl; have hcz9_2 : w7.cell? ⟨gb145, 2, none⟩ = some (.int .i64 a0_2) := (blk_cell BK145.out 2).trans rfl; have hcz9_3 : w7.cell? ⟨gb145, 3, none⟩ = some (.int .i64 a0_3) := (blk_cell BK145.out 3).trans rfl; have hcz9_4 : w7.cell? ⟨gb145, 4, none⟩ = some (.int .i64 a0_4) := (blk_cell BK145.out 4).trans rfl; have hfz9_0 := blk_frozen BK145.out 0; have hfz9_1 := blk_frozen BK145.out 1; have hfz9_2 := blk_frozen BK145.out 2; have hfz9_3 := blk_frozen BK145.out 3; have hfz9_4 := blk_frozen BK145.out 4) | ((with_reducible refine gate_callee (f := 21) rfl ?_); refine goesL_ (some 9) rfl rfl Try.func21 (by kernel_rfl) rfl #[.agg #[.int .i64 a0_0, .int .i64 a0_1, .int .i64 a0_2, .int .i64 a0_3, .int .i64 a0_4]] rfl (by (try simp only [List.map_toArray, List.map_cons, List.map_nil]); first | done | rfl | (simp only [List.length_drop, List.length_take]; rfl)) ?_; (with_reducible refine (revenantref03_Check.calls k a0_0 a0_1 a0_2 a0_3 a0_4 t147 _ A3.out).mono ?_); rintro e w10 ⟨rfl, hb⟩; refine ⟨_, rfl, ?_⟩; have n0_ := Aside0.mk (blk_below (g := gb145) (o := .cells #[.int .i64 a0_0, .int .i64 a0_1, .int .i64 a0_2, .int .i64 a0_3, .int .i64 a0_4] 31 (0, 0)) (by (with_reducible repeat (first | refine blk_drewN ?_ _ | refine blk_drew ?_ | refine blk_alloc ?_ _)); exact BK145.out) hb); have n1_ := Aside0.mk (blk_below (g := gb146) (o := .cells #[.int .i64 a1_0, .int .u64 a1_1, .int .u64 a1_2, .int .i64 a1_3] 37 (0, 0)) (by (with_reducible repeat (first | refine blk_drewN ?_ _ | refine blk_drew ?_ | refine blk_alloc ?_ _)); exact BK146.out) hb); have n2_ := Aside0.mk (below_step (by repeat (first | (with_reducible first | exact HB.out | apply below_alloc | apply pw_below_drewN | apply below_drew1 | refine below_set ?_ GE145.out | refine below_set ?_ GE146.out) | exact HB.out)) hb); clear BK145; clear BK146; clear HB; have BK145 := n0_; have BK146 := n1_; have HB := n2_; clear n0_ n1_ n2_; (try clear hb); (try clear hb2); (try clear hk); (try clear hi)))
    (try simp only [Act.put, List.setIfInBounds_toArray, List.set_cons_zero, List.set_cons_succ])
    go_cut [45] (fun v45 wc => ∃ (kq : Nat) (x45_4 : Bool), v45 = .bool x45_4 ∧ Aside0 (revenantref03_Op.j0 kq x45_4 a0_0 a0_1 a0_2 a0_3 a0_4 a1_0 a1_1 a1_2 a1_3 = some r) ∧ Aside0 (kq ≤ k) ∧ Aside0 (wc.heap[gb145]? = some (.cells #[.int .i64 a0_0, .int .i64 a0_1, .int .i64 a0_2, .int .i64 a0_3, .int .i64 a0_4] 31 (0, 0))) ∧ Aside0 (wc.heap[gb146]? = some (.cells #[.int .i64 a1_0, .int .u64 a1_1, .int .u64 a1_2, .int .i64 a1_3] 37 (0, 0))) ∧ Aside0 (Below w.heap.size w wc))
    case first =>
      have H := HC5.out
      clear HC5
      by_cases c11 : a1_0 < 1
      · rw [if_pos c11] at H
        have c11b0 : decide (a1_0 < 1) = true := decide_eq_true c11
        clear c11
        (first | rw [c11b0] | (simp only [i64_w, i32_w]; rw [c11b0]) | skip)
        have H' := Aside0.mk H
        clear H
        have hnb12 := NB146_145.out
        have hnc12 := NB145_146.out
        have hcz13_0 : w10.cell? ⟨gb146, 0, none⟩ = some (.int .i64 a1_0) := (blk_cell BK146.out 0).trans rfl
        have hcz13_1 : w10.cell? ⟨gb146, 1, none⟩ = some (.int .u64 a1_1) := (blk_cell BK146.out 1).trans rfl
        have hcz13_2 : w10.cell? ⟨gb146, 2, none⟩ = some (.int .u64 a1_2) := (blk_cell BK146.out 2).trans rfl
        have hcz13_3 : w10.cell? ⟨gb146, 3, none⟩ = some (.int .i64 a1_3) := (blk_cell BK146.out 3).trans rfl
        have hfz13_0 := blk_frozen BK146.out 0
        have hfz13_1 := blk_frozen BK146.out 1
        have hfz13_2 := blk_frozen BK146.out 2
        have hfz13_3 := blk_frozen BK146.out 3
        go_wp2
        go_meet
        case rel => exact ⟨_, (true), (by first | rfl | (simp; done) | (simp [*]; done)), H', ⟨by first | omega | exact Nat.le_refl _⟩, ⟨by (with_reducible repeat (first | refine blk_drewN ?_ _ | refine blk_drew ?_ | refine blk_alloc ?_ _)); exact BK145.out⟩, ⟨by (with_reducible repeat (first | refine blk_drewN ?_ _ | refine blk_drew ?_ | refine blk_alloc ?_ _)); exact BK146.out⟩, ⟨by repeat (first | (with_reducible first | exact HB.out | apply below_alloc | apply pw_below_drewN | apply below_drew1 | refine below_set ?_ GE145.out | refine below_set ?_ GE146.out) | exact HB.out)⟩⟩
      · rw [if_neg c11] at H
        have c11b0 : decide (a1_0 < 1) = false := decide_eq_false c11
        clear c11
        (first | rw [c11b0] | (simp only [i64_w, i32_w]; rw [c11b0]) | skip)
        by_cases c14 : a1_0 > 8
        · rw [if_pos c14] at H
          have c14b0 : decide (8 < a1_0) = true := decide_eq_true c14
          clear c14
          have H' := Aside0.mk H
          clear H
          have hnb15 := NB146_145.out
          have hnc15 := NB145_146.out
          have hcz16_0 : w10.cell? ⟨gb146, 0, none⟩ = some (.int .i64 a1_0) := (blk_cell BK146.out 0).trans rfl
          have hcz16_1 : w10.cell? ⟨gb146, 1, none⟩ = some (.int .u64 a1_1) := (blk_cell BK146.out 1).trans rfl
          have hcz16_2 : w10.cell? ⟨gb146, 2, none⟩ = some (.int .u64 a1_2) := (blk_cell BK146.out 2).trans rfl
          have hcz16_3 : w10.cell? ⟨gb146, 3, none⟩ = some (.int .i64 a1_3) := (blk_cell BK146.out 3).trans rfl
          have hfz16_0 := blk_frozen BK146.out 0
          have hfz16_1 := blk_frozen BK146.out 1
          have hfz16_2 := blk_frozen BK146.out 2
          have hfz16_3 := blk_frozen BK146.out 3
          go_wp2
          go_meet
          case rel => exact ⟨_, (true), (by first | rfl | (simp; done) | (simp [*]; done)), H', ⟨by first | omega | exact Nat.le_refl _⟩, ⟨by (with_reducible repeat (first | refine blk_drewN ?_ _ | refine blk_drew ?_ | refine blk_alloc ?_ _)); exact BK145.out⟩, ⟨by (with_reducible repeat (first | refine blk_drewN ?_ _ | refine blk_drew ?_ | refine blk_alloc ?_ _)); exact BK146.out⟩, ⟨by repeat (first | (with_reducible first | exact HB.out | apply below_alloc | apply pw_below_drewN | apply below_drew1 | refine below_set ?_ GE145.out | refine below_set ?_ GE146.out) | exact HB.out)⟩⟩
        · rw [if_neg c14] at H
          have c14b0 : decide (8 < a1_0) = false := decide_eq_false c14
          clear c14
          by_cases c17 : a0_0 = 2
          · rw [if_pos c17] at H
            have c17b0 : (a0_0 == 2) = true := beq_iff_eq.mpr c17
            have c17b1 : (a0_0 != 2) = false := bne_eq_false_iff_eq.mpr c17
            clear c17
            by_cases c18 : a1_0 < 4
            · rw [if_pos c18] at H
              have c18b0 : decide (a1_0 < 4) = true := decide_eq_true c18
              clear c18
              have H' := Aside0.mk H
              clear H
              have hnb19 := NB146_145.out
              have hnc19 := NB145_146.out
              have hcz20_0 : w10.cell? ⟨gb146, 0, none⟩ = some (.int .i64 a1_0) := (blk_cell BK146.out 0).trans rfl
              have hcz20_1 : w10.cell? ⟨gb146, 1, none⟩ = some (.int .u64 a1_1) := (blk_cell BK146.out 1).trans rfl
              have hcz20_2 : w10.cell? ⟨gb146, 2, none⟩ = some (.int .u64 a1_2) := (blk_cell BK146.out 2).trans rfl
              have hcz20_3 : w10.cell? ⟨gb146, 3, none⟩ = some (.int .i64 a1_3) := (blk_cell BK146.out 3).trans rfl
              have hfz20_0 := blk_frozen BK146.out 0
              have hfz20_1 := blk_frozen BK146.out 1
              have hfz20_2 := blk_frozen BK146.out 2
              have hfz20_3 := blk_frozen BK146.out 3
              have hcz21_0 : w10.cell? ⟨gb145, 0, none⟩ = some (.int .i64 a0_0) := (blk_cell BK145.out 0).trans rfl
              have hcz21_1 : w10.cell? ⟨gb145, 1, none⟩ = some (.int .i64 a0_1) := (blk_cell BK145.out 1).trans rfl
              have hcz21_2 : w10.cell? ⟨gb145, 2, none⟩ = some (.int .i64 a0_2) := (blk_cell BK145.out 2).trans rfl
              have hcz21_3 : w10.cell? ⟨gb145, 3, none⟩ = some (.int .i64 a0_3) := (blk_cell BK145.out 3).trans rfl
              have hcz21_4 : w10.cell? ⟨gb145, 4, none⟩ = some (.int .i64 a0_4) := (blk_cell BK145.out 4).trans rfl
              have hfz21_0 := blk_frozen BK145.out 0
              have hfz21_1 := blk_frozen BK145.out 1
              have hfz21_2 := blk_frozen BK145.out 2
              have hfz21_3 := blk_frozen BK145.out 3
              have hfz21_4 := blk_frozen BK145.out 4
              go_wp2
              go_meet
              case rel => exact ⟨_, (true), (by first | rfl | (simp; done) | (simp [*]; done)), H', ⟨by first | omega | exact Nat.le_refl _⟩, ⟨by (with_reducible repeat (first | refine blk_drewN ?_ _ | refine blk_drew ?_ | refine blk_alloc ?_ _)); exact BK145.out⟩, ⟨by (with_reducible repeat (first | refine blk_drewN ?_ _ | refine blk_drew ?_ | refine blk_alloc ?_ _)); exact BK146.out⟩, ⟨by repeat (first | (with_reducible first | exact HB.out | apply below_alloc | apply pw_below_drewN | apply below_drew1 | refine below_set ?_ GE145.out | refine below_set ?_ GE146.out) | exact HB.out)⟩⟩
            · rw [if_neg c18] at H
              have c18b0 : decide (a1_0 < 4) = false := decide_eq_false c18
              clear c18
              have H' := Aside0.mk H
              clear H
              have hnb22 := NB146_145.out
              have hnc22 := NB145_146.out
              have hcz23_0 : w10.cell? ⟨gb146, 0, none⟩ = some (.int .i64 a1_0) := (blk_cell BK146.out 0).trans rfl
              have hcz23_1 : w10.cell? ⟨gb146, 1, none⟩ = some (.int .u64 a1_1) := (blk_cell BK146.out 1).trans rfl
              have hcz23_2 : w10.cell? ⟨gb146, 2, none⟩ = some (.int .u64 a1_2) := (blk_cell BK146.out 2).trans rfl
              have hcz23_3 : w10.cell? ⟨gb146, 3, none⟩ = some (.int .i64 a1_3) := (blk_cell BK146.out 3).trans rfl
              have hfz23_0 := blk_frozen BK146.out 0
              have hfz23_1 := blk_frozen BK146.out 1
              have hfz23_2 := blk_frozen BK146.out 2
              have hfz23_3 := blk_frozen BK146.out 3
              have hcz24_0 : w10.cell? ⟨gb145, 0, none⟩ = some (.int .i64 a0_0) := (blk_cell BK145.out 0).trans rfl
              have hcz24_1 : w10.cell? ⟨gb145, 1, none⟩ = some (.int .i64 a0_1) := (blk_cell BK145.out 1).trans rfl
              have hcz24_2 : w10.cell? ⟨gb145, 2, none⟩ = some (.int .i64 a0_2) := (blk_cell BK145.out 2).trans rfl
              have hcz24_3 : w10.cell? ⟨gb145, 3, none⟩ = some (.int .i64 a0_3) := (blk_cell BK145.out 3).trans rfl
              have hcz24_4 : w10.cell? ⟨gb145, 4, none⟩ = some (.int .i64 a0_4) := (blk_cell BK145.out 4).trans rfl
              have hfz24_0 := blk_frozen BK145.out 0
              have hfz24_1 := blk_frozen BK145.out 1
              have hfz24_2 := blk_frozen BK145.out 2
              have hfz24_3 := blk_frozen BK145.out 3
              have hfz24_4 := blk_frozen BK145.out 4
              go_wp2
              go_meet
              case rel => exact ⟨_, (false), (by first | rfl | (simp; done) | (simp [*]; done)), H', ⟨by first | omega | exact Nat.le_refl _⟩, ⟨by (with_reducible repeat (first | refine blk_drewN ?_ _ | refine blk_drew ?_ | refine blk_alloc ?_ _)); exact BK145.out⟩, ⟨by (with_reducible repeat (first | refine blk_drewN ?_ _ | refine blk_drew ?_ | refine blk_alloc ?_ _)); exact BK146.out⟩, ⟨by repeat (first | (with_reducible first | exact HB.out | apply below_alloc | apply pw_below_drewN | apply below_drew1 | refine below_set ?_ GE145.out | refine below_set ?_ GE146.out) | exact HB.out)⟩⟩
          · rw [if_neg c17] at H
            have c17b0 : (a0_0 == 2) = false := beq_eq_false_iff_ne.mpr c17
            have c17b1 : (a0_0 != 2) = true := bne_iff_ne.mpr c17
            by_cases c25 : a1_0 > 3
            · rw [if_pos c25] at H
              have c25b0 : decide (3 < a1_0) = true := decide_eq_true c25
              clear c25
              have H' := Aside0.mk H
              clear H
              have hnb26 := NB146_145.out
              have hnc26 := NB145_146.out
              have hcz27_0 : w10.cell? ⟨gb146, 0, none⟩ = some (.int .i64 a1_0) := (blk_cell BK146.out 0).trans rfl
              have hcz27_1 : w10.cell? ⟨gb146, 1, none⟩ = some (.int .u64 a1_1) := (blk_cell BK146.out 1).trans rfl
              have hcz27_2 : w10.cell? ⟨gb146, 2, none⟩ = some (.int .u64 a1_2) := (blk_cell BK146.out 2).trans rfl
              have hcz27_3 : w10.cell? ⟨gb146, 3, none⟩ = some (.int .i64 a1_3) := (blk_cell BK146.out 3).trans rfl
              have hfz27_0 := blk_frozen BK146.out 0
              have hfz27_1 := blk_frozen BK146.out 1
              have hfz27_2 := blk_frozen BK146.out 2
              have hfz27_3 := blk_frozen BK146.out 3
              have hcz28_0 : w10.cell? ⟨gb145, 0, none⟩ = some (.int .i64 a0_0) := (blk_cell BK145.out 0).trans rfl
              have hcz28_1 : w10.cell? ⟨gb145, 1, none⟩ = some (.int .i64 a0_1) := (blk_cell BK145.out 1).trans rfl
              have hcz28_2 : w10.cell? ⟨gb145, 2, none⟩ = some (.int .i64 a0_2) := (blk_cell BK145.out 2).trans rfl
              have hcz28_3 : w10.cell? ⟨gb145, 3, none⟩ = some (.int .i64 a0_3) := (blk_cell BK145.out 3).trans rfl
              have hcz28_4 : w10.cell? ⟨gb145, 4, none⟩ = some (.int .i64 a0_4) := (blk_cell BK145.out 4).trans rfl
              have hfz28_0 := blk_frozen BK145.out 0
              have hfz28_1 := blk_frozen BK145.out 1
              have hfz28_2 := blk_frozen BK145.out 2
              have hfz28_3 := blk_frozen BK145.out 3
              have hfz28_4 := blk_frozen BK145.out 4
              go_wp2
              go_meet
              case rel => exact ⟨_, (decide (a1_0 < 8)), (by first | rfl | (simp; done) | (simp [*]; done)), H', ⟨by first | omega | exact Nat.le_refl _⟩, ⟨by (with_reducible repeat (first | refine blk_drewN ?_ _ | refine blk_drew ?_ | refine blk_alloc ?_ _)); exact BK145.out⟩, ⟨by (with_reducible repeat (first | refine blk_drewN ?_ _ | refine blk_drew ?_ | refine blk_alloc ?_ _)); exact BK146.out⟩, ⟨by repeat (first | (with_reducible first | exact HB.out | apply below_alloc | apply pw_below_drewN | apply below_drew1 | refine below_set ?_ GE145.out | refine below_set ?_ GE146.out) | exact HB.out)⟩⟩
            · rw [if_neg c25] at H
              have c25b0 : decide (3 < a1_0) = false := decide_eq_false c25
              clear c25
              have H' := Aside0.mk H
              clear H
              have hnb29 := NB146_145.out
              have hnc29 := NB145_146.out
              have hcz30_0 : w10.cell? ⟨gb146, 0, none⟩ = some (.int .i64 a1_0) := (blk_cell BK146.out 0).trans rfl
              have hcz30_1 : w10.cell? ⟨gb146, 1, none⟩ = some (.int .u64 a1_1) := (blk_cell BK146.out 1).trans rfl
              have hcz30_2 : w10.cell? ⟨gb146, 2, none⟩ = some (.int .u64 a1_2) := (blk_cell BK146.out 2).trans rfl
              have hcz30_3 : w10.cell? ⟨gb146, 3, none⟩ = some (.int .i64 a1_3) := (blk_cell BK146.out 3).trans rfl
              have hfz30_0 := blk_frozen BK146.out 0
              have hfz30_1 := blk_frozen BK146.out 1
              have hfz30_2 := blk_frozen BK146.out 2
              have hfz30_3 := blk_frozen BK146.out 3
              have hcz31_0 : w10.cell? ⟨gb145, 0, none⟩ = some (.int .i64 a0_0) := (blk_cell BK145.out 0).trans rfl
              have hcz31_1 : w10.cell? ⟨gb145, 1, none⟩ = some (.int .i64 a0_1) := (blk_cell BK145.out 1).trans rfl
              have hcz31_2 : w10.cell? ⟨gb145, 2, none⟩ = some (.int .i64 a0_2) := (blk_cell BK145.out 2).trans rfl
              have hcz31_3 : w10.cell? ⟨gb145, 3, none⟩ = some (.int .i64 a0_3) := (blk_cell BK145.out 3).trans rfl
              have hcz31_4 : w10.cell? ⟨gb145, 4, none⟩ = some (.int .i64 a0_4) := (blk_cell BK145.out 4).trans rfl
              have hfz31_0 := blk_frozen BK145.out 0
              have hfz31_1 := blk_frozen BK145.out 1
              have hfz31_2 := blk_frozen BK145.out 2
              have hfz31_3 := blk_frozen BK145.out 3
              have hfz31_4 := blk_frozen BK145.out 4
              go_wp2
              go_meet
              case rel => exact ⟨_, (false), (by first | rfl | (simp; done) | (simp [*]; done)), H', ⟨by first | omega | exact Nat.le_refl _⟩, ⟨by (with_reducible repeat (first | refine blk_drewN ?_ _ | refine blk_drew ?_ | refine blk_alloc ?_ _)); exact BK145.out⟩, ⟨by (with_reducible repeat (first | refine blk_drewN ?_ _ | refine blk_drew ?_ | refine blk_alloc ?_ _)); exact BK146.out⟩, ⟨by repeat (first | (with_reducible first | exact HB.out | apply below_alloc | apply pw_below_drewN | apply below_drew1 | refine below_set ?_ GE145.out | refine below_set ?_ GE146.out) | exact HB.out)⟩⟩
    case rest =>
      clear HC5
      try clear c1
      try clear c2
      try clear p2
      try clear c4
      try clear c4b0
      try clear c4b1
      try clear c8
      try clear c11
      try clear c11b0
      try clear c12
      try clear c14
      try clear c14b0
      try clear c15
      try clear c17
      try clear c17b0
      try clear c17b1
      try clear c18
      try clear c18b0
      try clear c19
      try clear c21
      try clear c22
      try clear c25
      try clear c25b0
      try clear c26
      try clear c29
      try clear hcz13_0
      try clear hcz13_1
      try clear hcz13_2
      try clear hcz13_3
      try clear hcz16_0
      try clear hcz16_1
      try clear hcz16_2
      try clear hcz16_3
      try clear hcz20_0
      try clear hcz20_1
      try clear hcz20_2
      try clear hcz20_3
      try clear hcz21_0
      try clear hcz21_1
      try clear hcz21_2
      try clear hcz21_3
      try clear hcz21_4
      try clear hcz23_0
      try clear hcz23_1
      try clear hcz23_2
      try clear hcz23_3
      try clear hcz24_0
      try clear hcz24_1
      try clear hcz24_2
      try clear hcz24_3
      try clear hcz24_4
      try clear hcz27_0
      try clear hcz27_1
      try clear hcz27_2
      try clear hcz27_3
      try clear hcz28_0
      try clear hcz28_1
      try clear hcz28_2
      try clear hcz28_3
      try clear hcz28_4
      try clear hcz30_0
      try clear hcz30_1
      try clear hcz30_2
      try clear hcz30_3
      try clear hcz31_0
      try clear hcz31_1
      try clear hcz31_2
      try clear hcz31_3
      try clear hcz31_4
      try clear hcz9_0
      try clear hcz9_1
      try clear hcz9_2
      try clear hcz9_3
      try clear hcz9_4
      try clear hfz13_0
      try clear hfz13_1
      try clear hfz13_2
      try clear hfz13_3
      try clear hfz16_0
      try clear hfz16_1
      try clear hfz16_2
      try clear hfz16_3
      try clear hfz20_0
      try clear hfz20_1
      try clear hfz20_2
      try clear hfz20_3
      try clear hfz21_0
      try clear hfz21_1
      try clear hfz21_2
      try clear hfz21_3
      try clear hfz21_4
      try clear hfz23_0
      try clear hfz23_1
      try clear hfz23_2
      try clear hfz23_3
      try clear hfz24_0
      try clear hfz24_1
      try clear hfz24_2
      try clear hfz24_3
      try clear hfz24_4
      try clear hfz27_0
      try clear hfz27_1
      try clear hfz27_2
      try clear hfz27_3
      try clear hfz28_0
      try clear hfz28_1
      try clear hfz28_2
      try clear hfz28_3
      try clear hfz28_4
      try clear hfz30_0
      try clear hfz30_1
      try clear hfz30_2
      try clear hfz30_3
      try clear hfz31_0
      try clear hfz31_1
      try clear hfz31_2
      try clear hfz31_3
      try clear hfz31_4
      try clear hfz9_0
      try clear hfz9_1
      try clear hfz9_2
      try clear hfz9_3
      try clear hfz9_4
      obtain ⟨kq, x45_4, rfl, HA, HJ4, BK145, BK146, HB⟩ := hcut
      cases kq with
      | zero => exact absurd HA.out (by simp [revenantref03_Op.j0])
      | succ kj4 =>
        have H := HA.out
        clear HA
        simp only [revenantref03_Op.j0] at H
        by_cases c32 : x45_4 = true
        · subst c32
          have H1 : (some 8) = some r := by rw [if_pos rfl] at H; exact H
          clear H
          have H := H1
          clear H1
          obtain rfl := Option.some.inj H
          go_wp2
          go_ret
          exact ⟨by first | rfl | (simp [errW_none, errW_some] <;> rfl) | (simp [*, errW_none, errW_some] <;> rfl), by repeat (first | (with_reducible first | exact HB.out | apply below_alloc | apply pw_below_drewN | apply below_drew1 | refine below_set ?_ GE145.out | refine below_set ?_ GE146.out) | exact HB.out)⟩
        · replace c32 := Bool.eq_false_iff.mpr c32
          subst c32
          have H1 : (if a0_0 = 3 then (revenantref03_Op.j1 kj4 0 0 (a1_0 == 1) a0_0 a0_1 a0_2 a0_3 a0_4 a1_0 a1_1 a1_2 a1_3) else (revenantref03_Op.j1 kj4 0 0 false a0_0 a0_1 a0_2 a0_3 a0_4 a1_0 a1_1 a1_2 a1_3)) = some r := by rw [if_neg (show ¬ (false = true) by decide)] at H; exact H
          clear H
          have H := H1
          clear H1
          have HC33 := Aside0.mk H
          clear H
          go_upto_region 8 with (fail)
          go_cut [53] (fun v53 wc => ∃ (kq : Nat) (x53_32 : Bool), v53 = .bool x53_32 ∧ Aside0 (revenantref03_Op.j1 kq 0 0 x53_32 a0_0 a0_1 a0_2 a0_3 a0_4 a1_0 a1_1 a1_2 a1_3 = some r) ∧ Aside0 (kq ≤ kj4) ∧ Aside0 (wc.heap[gb145]? = some (.cells #[.int .i64 a0_0, .int .i64 a0_1, .int .i64 a0_2, .int .i64 a0_3, .int .i64 a0_4] 31 (0, 0))) ∧ Aside0 (wc.heap[gb146]? = some (.cells #[.int .i64 a1_0, .int .u64 a1_1, .int .u64 a1_2, .int .i64 a1_3] 37 (0, 0))) ∧ Aside0 (Below w.heap.size w wc))
          case first =>
            have H := HC33.out
            clear HC33
            by_cases c34 : a0_0 = 3
            · rw [if_pos c34] at H
              have c34b0 : (a0_0 == 3) = true := beq_iff_eq.mpr c34
              have c34b1 : (a0_0 != 3) = false := bne_eq_false_iff_eq.mpr c34
              clear c34
              (first | rw [c34b0] | (simp only [i64_w, i32_w]; rw [c34b0]) | skip)
              have H' := Aside0.mk H
              clear H
              have hnb35 := NB145_146.out
              have hnc35 := NB146_145.out
              have hcz36_0 : wc.cell? ⟨gb145, 0, none⟩ = some (.int .i64 a0_0) := (blk_cell BK145.out 0).trans rfl
              have hcz36_1 : wc.cell? ⟨gb145, 1, none⟩ = some (.int .i64 a0_1) := (blk_cell BK145.out 1).trans rfl
              have hcz36_2 : wc.cell? ⟨gb145, 2, none⟩ = some (.int .i64 a0_2) := (blk_cell BK145.out 2).trans rfl
              have hcz36_3 : wc.cell? ⟨gb145, 3, none⟩ = some (.int .i64 a0_3) := (blk_cell BK145.out 3).trans rfl
              have hcz36_4 : wc.cell? ⟨gb145, 4, none⟩ = some (.int .i64 a0_4) := (blk_cell BK145.out 4).trans rfl
              have hfz36_0 := blk_frozen BK145.out 0
              have hfz36_1 := blk_frozen BK145.out 1
              have hfz36_2 := blk_frozen BK145.out 2
              have hfz36_3 := blk_frozen BK145.out 3
              have hfz36_4 := blk_frozen BK145.out 4
              have hcz37_0 : wc.cell? ⟨gb146, 0, none⟩ = some (.int .i64 a1_0) := (blk_cell BK146.out 0).trans rfl
              have hcz37_1 : wc.cell? ⟨gb146, 1, none⟩ = some (.int .u64 a1_1) := (blk_cell BK146.out 1).trans rfl
              have hcz37_2 : wc.cell? ⟨gb146, 2, none⟩ = some (.int .u64 a1_2) := (blk_cell BK146.out 2).trans rfl
              have hcz37_3 : wc.cell? ⟨gb146, 3, none⟩ = some (.int .i64 a1_3) := (blk_cell BK146.out 3).trans rfl
              have hfz37_0 := blk_frozen BK146.out 0
              have hfz37_1 := blk_frozen BK146.out 1
              have hfz37_2 := blk_frozen BK146.out 2
              have hfz37_3 := blk_frozen BK146.out 3
              go_wp2
              go_meet
              case rel => exact ⟨_, ((a1_0 == 1)), (by first | rfl | (simp; done) | (simp [*]; done)), H', ⟨by have := HJ4.out; first | omega | exact Nat.le_refl _⟩, ⟨by (with_reducible repeat (first | refine blk_drewN ?_ _ | refine blk_drew ?_ | refine blk_alloc ?_ _)); exact BK145.out⟩, ⟨by (with_reducible repeat (first | refine blk_drewN ?_ _ | refine blk_drew ?_ | refine blk_alloc ?_ _)); exact BK146.out⟩, ⟨by repeat (first | (with_reducible first | exact HB.out | apply below_alloc | apply pw_below_drewN | apply below_drew1 | refine below_set ?_ GE145.out | refine below_set ?_ GE146.out) | exact HB.out)⟩⟩
            · rw [if_neg c34] at H
              have c34b0 : (a0_0 == 3) = false := beq_eq_false_iff_ne.mpr c34
              have c34b1 : (a0_0 != 3) = true := bne_iff_ne.mpr c34
              (first | rw [c34b0] | (simp only [i64_w, i32_w]; rw [c34b0]) | skip)
              have H' := Aside0.mk H
              clear H
              have hnb38 := NB145_146.out
              have hnc38 := NB146_145.out
              have hcz39_0 : wc.cell? ⟨gb145, 0, none⟩ = some (.int .i64 a0_0) := (blk_cell BK145.out 0).trans rfl
              have hcz39_1 : wc.cell? ⟨gb145, 1, none⟩ = some (.int .i64 a0_1) := (blk_cell BK145.out 1).trans rfl
              have hcz39_2 : wc.cell? ⟨gb145, 2, none⟩ = some (.int .i64 a0_2) := (blk_cell BK145.out 2).trans rfl
              have hcz39_3 : wc.cell? ⟨gb145, 3, none⟩ = some (.int .i64 a0_3) := (blk_cell BK145.out 3).trans rfl
              have hcz39_4 : wc.cell? ⟨gb145, 4, none⟩ = some (.int .i64 a0_4) := (blk_cell BK145.out 4).trans rfl
              have hfz39_0 := blk_frozen BK145.out 0
              have hfz39_1 := blk_frozen BK145.out 1
              have hfz39_2 := blk_frozen BK145.out 2
              have hfz39_3 := blk_frozen BK145.out 3
              have hfz39_4 := blk_frozen BK145.out 4
              go_wp2
              go_meet
              case rel => exact ⟨_, (false), (by first | rfl | (simp; done) | (simp [*]; done)), H', ⟨by have := HJ4.out; first | omega | exact Nat.le_refl _⟩, ⟨by (with_reducible repeat (first | refine blk_drewN ?_ _ | refine blk_drew ?_ | refine blk_alloc ?_ _)); exact BK145.out⟩, ⟨by (with_reducible repeat (first | refine blk_drewN ?_ _ | refine blk_drew ?_ | refine blk_alloc ?_ _)); exact BK146.out⟩, ⟨by repeat (first | (with_reducible first | exact HB.out | apply below_alloc | apply pw_below_drewN | apply below_drew1 | refine below_set ?_ GE145.out | refine below_set ?_ GE146.out) | exact HB.out)⟩⟩
          case rest =>
            clear HC33
            try clear c1
            try clear c2
            try clear p2
            try clear c3
            try clear c4
            try clear c4b0
            try clear c4b1
            try clear c8
            try clear c11
            try clear c11b0
            try clear c12
            try clear c14
            try clear c14b0
            try clear c15
            try clear c17
            try clear c17b0
            try clear c17b1
            try clear c18
            try clear c18b0
            try clear c19
            try clear c21
            try clear c22
            try clear c25
            try clear c25b0
            try clear c26
            try clear c29
            try clear c32
            try clear c34
            try clear c34b0
            try clear c34b1
            try clear c35
            try clear c38
            try clear hcz13_0
            try clear hcz13_1
            try clear hcz13_2
            try clear hcz13_3
            try clear hcz16_0
            try clear hcz16_1
            try clear hcz16_2
            try clear hcz16_3
            try clear hcz20_0
            try clear hcz20_1
            try clear hcz20_2
            try clear hcz20_3
            try clear hcz21_0
            try clear hcz21_1
            try clear hcz21_2
            try clear hcz21_3
            try clear hcz21_4
            try clear hcz23_0
            try clear hcz23_1
            try clear hcz23_2
            try clear hcz23_3
            try clear hcz24_0
            try clear hcz24_1
            try clear hcz24_2
            try clear hcz24_3
            try clear hcz24_4
            try clear hcz27_0
            try clear hcz27_1
            try clear hcz27_2
            try clear hcz27_3
            try clear hcz28_0
            try clear hcz28_1
            try clear hcz28_2
            try clear hcz28_3
            try clear hcz28_4
            try clear hcz30_0
            try clear hcz30_1
            try clear hcz30_2
            try clear hcz30_3
            try clear hcz31_0
            try clear hcz31_1
            try clear hcz31_2
            try clear hcz31_3
            try clear hcz31_4
            try clear hcz36_0
            try clear hcz36_1
            try clear hcz36_2
            try clear hcz36_3
            try clear hcz36_4
            try clear hcz37_0
            try clear hcz37_1
            try clear hcz37_2
            try clear hcz37_3
            try clear hcz39_0
            try clear hcz39_1
            try clear hcz39_2
            try clear hcz39_3
            try clear hcz39_4
            try clear hcz9_0
            try clear hcz9_1
            try clear hcz9_2
            try clear hcz9_3
            try clear hcz9_4
            try clear hfz13_0
            try clear hfz13_1
            try clear hfz13_2
            try clear hfz13_3
            try clear hfz16_0
            try clear hfz16_1
            try clear hfz16_2
            try clear hfz16_3
            try clear hfz20_0
            try clear hfz20_1
            try clear hfz20_2
            try clear hfz20_3
            try clear hfz21_0
            try clear hfz21_1
            try clear hfz21_2
            try clear hfz21_3
            try clear hfz21_4
            try clear hfz23_0
            try clear hfz23_1
            try clear hfz23_2
            try clear hfz23_3
            try clear hfz24_0
            try clear hfz24_1
            try clear hfz24_2
            try clear hfz24_3
            try clear hfz24_4
            try clear hfz27_0
            try clear hfz27_1
            try clear hfz27_2
            try clear hfz27_3
            try clear hfz28_0
            try clear hfz28_1
            try clear hfz28_2
            try clear hfz28_3
            try clear hfz28_4
            try clear hfz30_0
            try clear hfz30_1
            try clear hfz30_2
            try clear hfz30_3
            try clear hfz31_0
            try clear hfz31_1
            try clear hfz31_2
            try clear hfz31_3
            try clear hfz31_4
            try clear hfz36_0
            try clear hfz36_1
            try clear hfz36_2
            try clear hfz36_3
            try clear hfz36_4
            try clear hfz37_0
            try clear hfz37_1
            try clear hfz37_2
            try clear hfz37_3
            try clear hfz39_0
            try clear hfz39_1
            try clear hfz39_2
            try clear hfz39_3
            try clear hfz39_4
            try clear hfz9_0
            try clear hfz9_1
            try clear hfz9_2
            try clear hfz9_3
            try clear hfz9_4
            try clear p2
            obtain ⟨kq, x53_32, rfl, HA, HJ32, BK145, BK146, HB⟩ := hcut
            cases kq with
            | zero => exact absurd HA.out (by simp [revenantref03_Op.j1])
            | succ kj32 =>
              have H := HA.out
              clear HA
              simp only [revenantref03_Op.j1] at H
              have HC40 := Aside0.mk H
              clear H
              go_upto_if 53 with (fail)
              go_cut [6, 7] (fun v6 v7 wc => ∃ (kq : Nat) (x6_39 : Int) (x7_39 : Int), v6 = .int .i64 x6_39 ∧ v7 = .int .i64 x7_39 ∧ Aside0 (revenantref03_Op.j2 kq x6_39 x7_39 a1_0 a1_1 a1_2 a1_3 = some r) ∧ Aside0 (kq ≤ kj32) ∧ Aside0 (wc.heap[gb145]? = some (.cells #[.int .i64 a0_0, .int .i64 a0_1, .int .i64 a0_2, .int .i64 a0_3, .int .i64 a0_4] 31 (0, 0))) ∧ Aside0 (wc.heap[gb146]? = some (.cells #[.int .i64 a1_0, .int .u64 a1_1, .int .u64 a1_2, .int .i64 a1_3] 37 (0, 0))) ∧ Aside0 (Below w.heap.size w wc))
              case first =>
                have H := HC40.out
                clear HC40
                by_cases c41 : x53_32 = true
                · subst c41
                  have H1 : (revenantref03_Op.j2 kj32 1 a0_3 a1_0 a1_1 a1_2 a1_3) = some r := by rw [if_pos rfl] at H; exact H
                  clear H
                  have H := H1
                  clear H1
                  have H' := Aside0.mk H
                  clear H
                  have hnb42 := NB145_146.out
                  have hnc42 := NB146_145.out
                  have hcz43_0 : wc.cell? ⟨gb145, 0, none⟩ = some (.int .i64 a0_0) := (blk_cell BK145.out 0).trans rfl
                  have hcz43_1 : wc.cell? ⟨gb145, 1, none⟩ = some (.int .i64 a0_1) := (blk_cell BK145.out 1).trans rfl
                  have hcz43_2 : wc.cell? ⟨gb145, 2, none⟩ = some (.int .i64 a0_2) := (blk_cell BK145.out 2).trans rfl
                  have hcz43_3 : wc.cell? ⟨gb145, 3, none⟩ = some (.int .i64 a0_3) := (blk_cell BK145.out 3).trans rfl
                  have hcz43_4 : wc.cell? ⟨gb145, 4, none⟩ = some (.int .i64 a0_4) := (blk_cell BK145.out 4).trans rfl
                  have hfz43_0 := blk_frozen BK145.out 0
                  have hfz43_1 := blk_frozen BK145.out 1
                  have hfz43_2 := blk_frozen BK145.out 2
                  have hfz43_3 := blk_frozen BK145.out 3
                  have hfz43_4 := blk_frozen BK145.out 4
                  go_wp2
                  go_meet
                  case rel => exact ⟨_, (1), (a0_3), (by first | rfl | (simp; done) | (simp [*]; done)), (by first | rfl | (simp; done) | (simp [*]; done)), H', ⟨by have := HJ4.out; have := HJ32.out; first | omega | exact Nat.le_refl _⟩, ⟨by (with_reducible repeat (first | refine blk_drewN ?_ _ | refine blk_drew ?_ | refine blk_alloc ?_ _)); exact BK145.out⟩, ⟨by (with_reducible repeat (first | refine blk_drewN ?_ _ | refine blk_drew ?_ | refine blk_alloc ?_ _)); exact BK146.out⟩, ⟨by repeat (first | (with_reducible first | exact HB.out | apply below_alloc | apply pw_below_drewN | apply below_drew1 | refine below_set ?_ GE145.out | refine below_set ?_ GE146.out) | exact HB.out)⟩⟩
                · replace c41 := Bool.eq_false_iff.mpr c41
                  subst c41
                  have H1 : (revenantref03_Op.j2 kj32 0 0 a1_0 a1_1 a1_2 a1_3) = some r := by rw [if_neg (show ¬ (false = true) by decide)] at H; exact H
                  clear H
                  have H := H1
                  clear H1
                  have H' := Aside0.mk H
                  clear H
                  go_wp2
                  go_meet
                  case rel => exact ⟨_, (0), (0), (by first | rfl | (simp; done) | (simp [*]; done)), (by first | rfl | (simp; done) | (simp [*]; done)), H', ⟨by have := HJ4.out; have := HJ32.out; first | omega | exact Nat.le_refl _⟩, ⟨by (with_reducible repeat (first | refine blk_drewN ?_ _ | refine blk_drew ?_ | refine blk_alloc ?_ _)); exact BK145.out⟩, ⟨by (with_reducible repeat (first | refine blk_drewN ?_ _ | refine blk_drew ?_ | refine blk_alloc ?_ _)); exact BK146.out⟩, ⟨by repeat (first | (with_reducible first | exact HB.out | apply below_alloc | apply pw_below_drewN | apply below_drew1 | refine below_set ?_ GE145.out | refine below_set ?_ GE146.out) | exact HB.out)⟩⟩
              case rest =>
                clear HC40
                try clear c1
                try clear c2
                try clear p2
                try clear c3
                try clear c4
                try clear c4b0
                try clear c4b1
                try clear c8
                try clear c11
                try clear c11b0
                try clear c12
                try clear c14
                try clear c14b0
                try clear c15
                try clear c17
                try clear c17b0
                try clear c17b1
                try clear c18
                try clear c18b0
                try clear c19
                try clear c21
                try clear c22
                try clear c25
                try clear c25b0
                try clear c26
                try clear c29
                try clear c32
                try clear c34
                try clear c34b0
                try clear c34b1
                try clear c35
                try clear c38
                try clear c41
                try clear c42
                try clear hcz13_0
                try clear hcz13_1
                try clear hcz13_2
                try clear hcz13_3
                try clear hcz16_0
                try clear hcz16_1
                try clear hcz16_2
                try clear hcz16_3
                try clear hcz20_0
                try clear hcz20_1
                try clear hcz20_2
                try clear hcz20_3
                try clear hcz21_0
                try clear hcz21_1
                try clear hcz21_2
                try clear hcz21_3
                try clear hcz21_4
                try clear hcz23_0
                try clear hcz23_1
                try clear hcz23_2
                try clear hcz23_3
                try clear hcz24_0
                try clear hcz24_1
                try clear hcz24_2
                try clear hcz24_3
                try clear hcz24_4
                try clear hcz27_0
                try clear hcz27_1
                try clear hcz27_2
                try clear hcz27_3
                try clear hcz28_0
                try clear hcz28_1
                try clear hcz28_2
                try clear hcz28_3
                try clear hcz28_4
                try clear hcz30_0
                try clear hcz30_1
                try clear hcz30_2
                try clear hcz30_3
                try clear hcz31_0
                try clear hcz31_1
                try clear hcz31_2
                try clear hcz31_3
                try clear hcz31_4
                try clear hcz36_0
                try clear hcz36_1
                try clear hcz36_2
                try clear hcz36_3
                try clear hcz36_4
                try clear hcz37_0
                try clear hcz37_1
                try clear hcz37_2
                try clear hcz37_3
                try clear hcz39_0
                try clear hcz39_1
                try clear hcz39_2
                try clear hcz39_3
                try clear hcz39_4
                try clear hcz43_0
                try clear hcz43_1
                try clear hcz43_2
                try clear hcz43_3
                try clear hcz43_4
                try clear hcz9_0
                try clear hcz9_1
                try clear hcz9_2
                try clear hcz9_3
                try clear hcz9_4
                try clear hfz13_0
                try clear hfz13_1
                try clear hfz13_2
                try clear hfz13_3
                try clear hfz16_0
                try clear hfz16_1
                try clear hfz16_2
                try clear hfz16_3
                try clear hfz20_0
                try clear hfz20_1
                try clear hfz20_2
                try clear hfz20_3
                try clear hfz21_0
                try clear hfz21_1
                try clear hfz21_2
                try clear hfz21_3
                try clear hfz21_4
                try clear hfz23_0
                try clear hfz23_1
                try clear hfz23_2
                try clear hfz23_3
                try clear hfz24_0
                try clear hfz24_1
                try clear hfz24_2
                try clear hfz24_3
                try clear hfz24_4
                try clear hfz27_0
                try clear hfz27_1
                try clear hfz27_2
                try clear hfz27_3
                try clear hfz28_0
                try clear hfz28_1
                try clear hfz28_2
                try clear hfz28_3
                try clear hfz28_4
                try clear hfz30_0
                try clear hfz30_1
                try clear hfz30_2
                try clear hfz30_3
                try clear hfz31_0
                try clear hfz31_1
                try clear hfz31_2
                try clear hfz31_3
                try clear hfz31_4
                try clear hfz36_0
                try clear hfz36_1
                try clear hfz36_2
                try clear hfz36_3
                try clear hfz36_4
                try clear hfz37_0
                try clear hfz37_1
                try clear hfz37_2
                try clear hfz37_3
                try clear hfz39_0
                try clear hfz39_1
                try clear hfz39_2
                try clear hfz39_3
                try clear hfz39_4
                try clear hfz43_0
                try clear hfz43_1
                try clear hfz43_2
                try clear hfz43_3
                try clear hfz43_4
                try clear hfz9_0
                try clear hfz9_1
                try clear hfz9_2
                try clear hfz9_3
                try clear hfz9_4
                try clear p2
                obtain ⟨kq, x6_39, x7_39, rfl, rfl, HA, HJ39, BK145, BK146, HB⟩ := hcut
                cases kq with
                | zero => exact absurd HA.out (by simp [revenantref03_Op.j2])
                | succ kj39 =>
                  have H := HA.out
                  clear HA
                  simp only [revenantref03_Op.j2] at H
                  have HC44 := Aside0.mk H
                  clear H
                  go_upto_region 11 with (fail)
                  go_cut [65] (fun v65 wc => ∃ (kq : Nat) (x65_43 : Bool), v65 = .bool x65_43 ∧ Aside0 (revenantref03_Op.j3 kq x65_43 a1_0 a1_1 a1_2 a1_3 = some r) ∧ Aside0 (kq ≤ kj39) ∧ Aside0 (wc.heap[gb145]? = some (.cells #[.int .i64 a0_0, .int .i64 a0_1, .int .i64 a0_2, .int .i64 a0_3, .int .i64 a0_4] 31 (0, 0))) ∧ Aside0 (wc.heap[gb146]? = some (.cells #[.int .i64 a1_0, .int .u64 a1_1, .int .u64 a1_2, .int .i64 a1_3] 37 (0, 0))) ∧ Aside0 (Below w.heap.size w wc))
                  case first =>
                    have H := HC44.out
                    clear HC44
                    by_cases c45 : a1_3 < x6_39
                    · rw [if_pos c45] at H
                      have c45b0 : decide (a1_3 < x6_39) = true := decide_eq_true c45
                      clear c45
                      (first | rw [c45b0] | (simp only [i64_w, i32_w]; rw [c45b0]) | skip)
                      have H' := Aside0.mk H
                      clear H
                      have hnb46 := NB146_145.out
                      have hnc46 := NB145_146.out
                      have hcz47_0 : wc.cell? ⟨gb146, 0, none⟩ = some (.int .i64 a1_0) := (blk_cell BK146.out 0).trans rfl
                      have hcz47_1 : wc.cell? ⟨gb146, 1, none⟩ = some (.int .u64 a1_1) := (blk_cell BK146.out 1).trans rfl
                      have hcz47_2 : wc.cell? ⟨gb146, 2, none⟩ = some (.int .u64 a1_2) := (blk_cell BK146.out 2).trans rfl
                      have hcz47_3 : wc.cell? ⟨gb146, 3, none⟩ = some (.int .i64 a1_3) := (blk_cell BK146.out 3).trans rfl
                      have hfz47_0 := blk_frozen BK146.out 0
                      have hfz47_1 := blk_frozen BK146.out 1
                      have hfz47_2 := blk_frozen BK146.out 2
                      have hfz47_3 := blk_frozen BK146.out 3
                      go_wp2
                      go_meet
                      case rel => exact ⟨_, (true), (by first | rfl | (simp; done) | (simp [*]; done)), H', ⟨by have := HJ4.out; have := HJ32.out; have := HJ39.out; first | omega | exact Nat.le_refl _⟩, ⟨by (with_reducible repeat (first | refine blk_drewN ?_ _ | refine blk_drew ?_ | refine blk_alloc ?_ _)); exact BK145.out⟩, ⟨by (with_reducible repeat (first | refine blk_drewN ?_ _ | refine blk_drew ?_ | refine blk_alloc ?_ _)); exact BK146.out⟩, ⟨by repeat (first | (with_reducible first | exact HB.out | apply below_alloc | apply pw_below_drewN | apply below_drew1 | refine below_set ?_ GE145.out | refine below_set ?_ GE146.out) | exact HB.out)⟩⟩
                    · rw [if_neg c45] at H
                      have c45b0 : decide (a1_3 < x6_39) = false := decide_eq_false c45
                      clear c45
                      (first | rw [c45b0] | (simp only [i64_w, i32_w]; rw [c45b0]) | skip)
                      have H' := Aside0.mk H
                      clear H
                      have hnb48 := NB146_145.out
                      have hnc48 := NB145_146.out
                      have hcz49_0 : wc.cell? ⟨gb146, 0, none⟩ = some (.int .i64 a1_0) := (blk_cell BK146.out 0).trans rfl
                      have hcz49_1 : wc.cell? ⟨gb146, 1, none⟩ = some (.int .u64 a1_1) := (blk_cell BK146.out 1).trans rfl
                      have hcz49_2 : wc.cell? ⟨gb146, 2, none⟩ = some (.int .u64 a1_2) := (blk_cell BK146.out 2).trans rfl
                      have hcz49_3 : wc.cell? ⟨gb146, 3, none⟩ = some (.int .i64 a1_3) := (blk_cell BK146.out 3).trans rfl
                      have hfz49_0 := blk_frozen BK146.out 0
                      have hfz49_1 := blk_frozen BK146.out 1
                      have hfz49_2 := blk_frozen BK146.out 2
                      have hfz49_3 := blk_frozen BK146.out 3
                      go_wp2
                      go_meet
                      case rel => exact ⟨_, (decide (a1_3 > x7_39)), (by first | rfl | (simp; done) | (simp [*]; done)), H', ⟨by have := HJ4.out; have := HJ32.out; have := HJ39.out; first | omega | exact Nat.le_refl _⟩, ⟨by (with_reducible repeat (first | refine blk_drewN ?_ _ | refine blk_drew ?_ | refine blk_alloc ?_ _)); exact BK145.out⟩, ⟨by (with_reducible repeat (first | refine blk_drewN ?_ _ | refine blk_drew ?_ | refine blk_alloc ?_ _)); exact BK146.out⟩, ⟨by repeat (first | (with_reducible first | exact HB.out | apply below_alloc | apply pw_below_drewN | apply below_drew1 | refine below_set ?_ GE145.out | refine below_set ?_ GE146.out) | exact HB.out)⟩⟩
                  case rest =>
                    clear HC44
                    try clear c1
                    try clear c2
                    try clear p2
                    try clear c3
                    try clear c4
                    try clear c4b0
                    try clear c4b1
                    try clear c8
                    try clear c11
                    try clear c11b0
                    try clear c12
                    try clear c14
                    try clear c14b0
                    try clear c15
                    try clear c17
                    try clear c17b0
                    try clear c17b1
                    try clear c18
                    try clear c18b0
                    try clear c19
                    try clear c21
                    try clear c22
                    try clear c25
                    try clear c25b0
                    try clear c26
                    try clear c29
                    try clear c32
                    try clear c34
                    try clear c34b0
                    try clear c34b1
                    try clear c35
                    try clear c38
                    try clear c41
                    try clear c42
                    try clear c45
                    try clear c45b0
                    try clear c46
                    try clear c48
                    try clear hcz13_0
                    try clear hcz13_1
                    try clear hcz13_2
                    try clear hcz13_3
                    try clear hcz16_0
                    try clear hcz16_1
                    try clear hcz16_2
                    try clear hcz16_3
                    try clear hcz20_0
                    try clear hcz20_1
                    try clear hcz20_2
                    try clear hcz20_3
                    try clear hcz21_0
                    try clear hcz21_1
                    try clear hcz21_2
                    try clear hcz21_3
                    try clear hcz21_4
                    try clear hcz23_0
                    try clear hcz23_1
                    try clear hcz23_2
                    try clear hcz23_3
                    try clear hcz24_0
                    try clear hcz24_1
                    try clear hcz24_2
                    try clear hcz24_3
                    try clear hcz24_4
                    try clear hcz27_0
                    try clear hcz27_1
                    try clear hcz27_2
                    try clear hcz27_3
                    try clear hcz28_0
                    try clear hcz28_1
                    try clear hcz28_2
                    try clear hcz28_3
                    try clear hcz28_4
                    try clear hcz30_0
                    try clear hcz30_1
                    try clear hcz30_2
                    try clear hcz30_3
                    try clear hcz31_0
                    try clear hcz31_1
                    try clear hcz31_2
                    try clear hcz31_3
                    try clear hcz31_4
                    try clear hcz36_0
                    try clear hcz36_1
                    try clear hcz36_2
                    try clear hcz36_3
                    try clear hcz36_4
                    try clear hcz37_0
                    try clear hcz37_1
                    try clear hcz37_2
                    try clear hcz37_3
                    try clear hcz39_0
                    try clear hcz39_1
                    try clear hcz39_2
                    try clear hcz39_3
                    try clear hcz39_4
                    try clear hcz43_0
                    try clear hcz43_1
                    try clear hcz43_2
                    try clear hcz43_3
                    try clear hcz43_4
                    try clear hcz47_0
                    try clear hcz47_1
                    try clear hcz47_2
                    try clear hcz47_3
                    try clear hcz49_0
                    try clear hcz49_1
                    try clear hcz49_2
                    try clear hcz49_3
                    try clear hcz9_0
                    try clear hcz9_1
                    try clear hcz9_2
                    try clear hcz9_3
                    try clear hcz9_4
                    try clear hfz13_0
                    try clear hfz13_1
                    try clear hfz13_2
                    try clear hfz13_3
                    try clear hfz16_0
                    try clear hfz16_1
                    try clear hfz16_2
                    try clear hfz16_3
                    try clear hfz20_0
                    try clear hfz20_1
                    try clear hfz20_2
                    try clear hfz20_3
                    try clear hfz21_0
                    try clear hfz21_1
                    try clear hfz21_2
                    try clear hfz21_3
                    try clear hfz21_4
                    try clear hfz23_0
                    try clear hfz23_1
                    try clear hfz23_2
                    try clear hfz23_3
                    try clear hfz24_0
                    try clear hfz24_1
                    try clear hfz24_2
                    try clear hfz24_3
                    try clear hfz24_4
                    try clear hfz27_0
                    try clear hfz27_1
                    try clear hfz27_2
                    try clear hfz27_3
                    try clear hfz28_0
                    try clear hfz28_1
                    try clear hfz28_2
                    try clear hfz28_3
                    try clear hfz28_4
                    try clear hfz30_0
                    try clear hfz30_1
                    try clear hfz30_2
                    try clear hfz30_3
                    try clear hfz31_0
                    try clear hfz31_1
                    try clear hfz31_2
                    try clear hfz31_3
                    try clear hfz31_4
                    try clear hfz36_0
                    try clear hfz36_1
                    try clear hfz36_2
                    try clear hfz36_3
                    try clear hfz36_4
                    try clear hfz37_0
                    try clear hfz37_1
                    try clear hfz37_2
                    try clear hfz37_3
                    try clear hfz39_0
                    try clear hfz39_1
                    try clear hfz39_2
                    try clear hfz39_3
                    try clear hfz39_4
                    try clear hfz43_0
                    try clear hfz43_1
                    try clear hfz43_2
                    try clear hfz43_3
                    try clear hfz43_4
                    try clear hfz47_0
                    try clear hfz47_1
                    try clear hfz47_2
                    try clear hfz47_3
                    try clear hfz49_0
                    try clear hfz49_1
                    try clear hfz49_2
                    try clear hfz49_3
                    try clear hfz9_0
                    try clear hfz9_1
                    try clear hfz9_2
                    try clear hfz9_3
                    try clear hfz9_4
                    try clear p2
                    obtain ⟨kq, x65_43, rfl, HA, HJ43, BK145, BK146, HB⟩ := hcut
                    cases kq with
                    | zero => exact absurd HA.out (by simp [revenantref03_Op.j3])
                    | succ kj43 =>
                      have H := HA.out
                      clear HA
                      simp only [revenantref03_Op.j3] at H
                      by_cases c50 : x65_43 = true
                      · subst c50
                        have H1 : (some 3) = some r := by rw [if_pos rfl] at H; exact H
                        clear H
                        have H := H1
                        clear H1
                        obtain rfl := Option.some.inj H
                        go_wp2
                        go_ret
                        exact ⟨by first | rfl | (simp [errW_none, errW_some] <;> rfl) | (simp [*, errW_none, errW_some] <;> rfl), by repeat (first | (with_reducible first | exact HB.out | apply below_alloc | apply pw_below_drewN | apply below_drew1 | refine below_set ?_ GE145.out | refine below_set ?_ GE146.out) | exact HB.out)⟩
                      · replace c50 := Bool.eq_false_iff.mpr c50
                        subst c50
                        have H1 : (if a1_2 = 0 then (if a1_1 = 0 then (some 0) else (if a1_0 = 8 then (some 1) else (some 0))) else (if a1_0 = 4 then (if a1_1 = 0 then (some 0) else (if a1_0 = 8 then (some 1) else (some 0))) else (if a1_0 = 5 then (if a1_1 = 0 then (some 0) else (if a1_0 = 8 then (some 1) else (some 0))) else (some 1)))) = some r := by rw [if_neg (show ¬ (false = true) by decide)] at H; exact H
                        clear H
                        have H := H1
                        clear H1
                        by_cases c51 : a1_2 = 0
                        · rw [if_pos c51] at H
                          have c51b0 : (a1_2 == 0) = true := beq_iff_eq.mpr c51
                          have c51b1 : (a1_2 != 0) = false := bne_eq_false_iff_eq.mpr c51
                          clear c51
                          by_cases c52 : a1_1 = 0
                          · rw [if_pos c52] at H
                            have c52b0 : (a1_1 == 0) = true := beq_iff_eq.mpr c52
                            have c52b1 : (a1_1 != 0) = false := bne_eq_false_iff_eq.mpr c52
                            clear c52
                            obtain rfl := Option.some.inj H
                            have hnb53 := NB146_145.out
                            have hnc53 := NB145_146.out
                            have hcz54_0 : wc.cell? ⟨gb146, 0, none⟩ = some (.int .i64 a1_0) := (blk_cell BK146.out 0).trans rfl
                            have hcz54_1 : wc.cell? ⟨gb146, 1, none⟩ = some (.int .u64 a1_1) := (blk_cell BK146.out 1).trans rfl
                            have hcz54_2 : wc.cell? ⟨gb146, 2, none⟩ = some (.int .u64 a1_2) := (blk_cell BK146.out 2).trans rfl
                            have hcz54_3 : wc.cell? ⟨gb146, 3, none⟩ = some (.int .i64 a1_3) := (blk_cell BK146.out 3).trans rfl
                            have hfz54_0 := blk_frozen BK146.out 0
                            have hfz54_1 := blk_frozen BK146.out 1
                            have hfz54_2 := blk_frozen BK146.out 2
                            have hfz54_3 := blk_frozen BK146.out 3
                            go_wp2
                            go_ret
                            exact ⟨by first | rfl | (simp [errW_none, errW_some] <;> rfl) | (simp [*, errW_none, errW_some] <;> rfl), by repeat (first | (with_reducible first | exact HB.out | apply below_alloc | apply pw_below_drewN | apply below_drew1 | refine below_set ?_ GE145.out | refine below_set ?_ GE146.out) | exact HB.out)⟩
                          · rw [if_neg c52] at H
                            have c52b0 : (a1_1 == 0) = false := beq_eq_false_iff_ne.mpr c52
                            have c52b1 : (a1_1 != 0) = true := bne_iff_ne.mpr c52
                            by_cases c55 : a1_0 = 8
                            · rw [if_pos c55] at H
                              have c55b0 : (a1_0 == 8) = true := beq_iff_eq.mpr c55
                              have c55b1 : (a1_0 != 8) = false := bne_eq_false_iff_eq.mpr c55
                              clear c55
                              obtain rfl := Option.some.inj H
                              have hnb56 := NB146_145.out
                              have hnc56 := NB145_146.out
                              have hcz57_0 : wc.cell? ⟨gb146, 0, none⟩ = some (.int .i64 a1_0) := (blk_cell BK146.out 0).trans rfl
                              have hcz57_1 : wc.cell? ⟨gb146, 1, none⟩ = some (.int .u64 a1_1) := (blk_cell BK146.out 1).trans rfl
                              have hcz57_2 : wc.cell? ⟨gb146, 2, none⟩ = some (.int .u64 a1_2) := (blk_cell BK146.out 2).trans rfl
                              have hcz57_3 : wc.cell? ⟨gb146, 3, none⟩ = some (.int .i64 a1_3) := (blk_cell BK146.out 3).trans rfl
                              have hfz57_0 := blk_frozen BK146.out 0
                              have hfz57_1 := blk_frozen BK146.out 1
                              have hfz57_2 := blk_frozen BK146.out 2
                              have hfz57_3 := blk_frozen BK146.out 3
                              go_wp2
                              go_ret
                              exact ⟨by first | rfl | (simp [errW_none, errW_some] <;> rfl) | (simp [*, errW_none, errW_some] <;> rfl), by repeat (first | (with_reducible first | exact HB.out | apply below_alloc | apply pw_below_drewN | apply below_drew1 | refine below_set ?_ GE145.out | refine below_set ?_ GE146.out) | exact HB.out)⟩
                            · rw [if_neg c55] at H
                              have c55b0 : (a1_0 == 8) = false := beq_eq_false_iff_ne.mpr c55
                              have c55b1 : (a1_0 != 8) = true := bne_iff_ne.mpr c55
                              obtain rfl := Option.some.inj H
                              have hnb58 := NB146_145.out
                              have hnc58 := NB145_146.out
                              have hcz59_0 : wc.cell? ⟨gb146, 0, none⟩ = some (.int .i64 a1_0) := (blk_cell BK146.out 0).trans rfl
                              have hcz59_1 : wc.cell? ⟨gb146, 1, none⟩ = some (.int .u64 a1_1) := (blk_cell BK146.out 1).trans rfl
                              have hcz59_2 : wc.cell? ⟨gb146, 2, none⟩ = some (.int .u64 a1_2) := (blk_cell BK146.out 2).trans rfl
                              have hcz59_3 : wc.cell? ⟨gb146, 3, none⟩ = some (.int .i64 a1_3) := (blk_cell BK146.out 3).trans rfl
                              have hfz59_0 := blk_frozen BK146.out 0
                              have hfz59_1 := blk_frozen BK146.out 1
                              have hfz59_2 := blk_frozen BK146.out 2
                              have hfz59_3 := blk_frozen BK146.out 3
                              go_wp2
                              go_ret
                              exact ⟨by first | rfl | (simp [errW_none, errW_some] <;> rfl) | (simp [*, errW_none, errW_some] <;> rfl), by repeat (first | (with_reducible first | exact HB.out | apply below_alloc | apply pw_below_drewN | apply below_drew1 | refine below_set ?_ GE145.out | refine below_set ?_ GE146.out) | exact HB.out)⟩
                        · rw [if_neg c51] at H
                          have c51b0 : (a1_2 == 0) = false := beq_eq_false_iff_ne.mpr c51
                          have c51b1 : (a1_2 != 0) = true := bne_iff_ne.mpr c51
                          by_cases c60 : a1_0 = 4
                          · rw [if_pos c60] at H
                            have c60b0 : (a1_0 == 4) = true := beq_iff_eq.mpr c60
                            have c60b1 : (a1_0 != 4) = false := bne_eq_false_iff_eq.mpr c60
                            clear c60
                            by_cases c61 : a1_1 = 0
                            · rw [if_pos c61] at H
                              have c61b0 : (a1_1 == 0) = true := beq_iff_eq.mpr c61
                              have c61b1 : (a1_1 != 0) = false := bne_eq_false_iff_eq.mpr c61
                              clear c61
                              obtain rfl := Option.some.inj H
                              have hnb62 := NB146_145.out
                              have hnc62 := NB145_146.out
                              have hcz63_0 : wc.cell? ⟨gb146, 0, none⟩ = some (.int .i64 a1_0) := (blk_cell BK146.out 0).trans rfl
                              have hcz63_1 : wc.cell? ⟨gb146, 1, none⟩ = some (.int .u64 a1_1) := (blk_cell BK146.out 1).trans rfl
                              have hcz63_2 : wc.cell? ⟨gb146, 2, none⟩ = some (.int .u64 a1_2) := (blk_cell BK146.out 2).trans rfl
                              have hcz63_3 : wc.cell? ⟨gb146, 3, none⟩ = some (.int .i64 a1_3) := (blk_cell BK146.out 3).trans rfl
                              have hfz63_0 := blk_frozen BK146.out 0
                              have hfz63_1 := blk_frozen BK146.out 1
                              have hfz63_2 := blk_frozen BK146.out 2
                              have hfz63_3 := blk_frozen BK146.out 3
                              go_wp2
                              go_ret
                              exact ⟨by first | rfl | (simp [errW_none, errW_some] <;> rfl) | (simp [*, errW_none, errW_some] <;> rfl), by repeat (first | (with_reducible first | exact HB.out | apply below_alloc | apply pw_below_drewN | apply below_drew1 | refine below_set ?_ GE145.out | refine below_set ?_ GE146.out) | exact HB.out)⟩
                            · rw [if_neg c61] at H
                              have c61b0 : (a1_1 == 0) = false := beq_eq_false_iff_ne.mpr c61
                              have c61b1 : (a1_1 != 0) = true := bne_iff_ne.mpr c61
                              by_cases c64 : a1_0 = 8
                              · rw [if_pos c64] at H
                                have c64b0 : (a1_0 == 8) = true := beq_iff_eq.mpr c64
                                have c64b1 : (a1_0 != 8) = false := bne_eq_false_iff_eq.mpr c64
                                clear c64
                                obtain rfl := Option.some.inj H
                                have hnb65 := NB146_145.out
                                have hnc65 := NB145_146.out
                                have hcz66_0 : wc.cell? ⟨gb146, 0, none⟩ = some (.int .i64 a1_0) := (blk_cell BK146.out 0).trans rfl
                                have hcz66_1 : wc.cell? ⟨gb146, 1, none⟩ = some (.int .u64 a1_1) := (blk_cell BK146.out 1).trans rfl
                                have hcz66_2 : wc.cell? ⟨gb146, 2, none⟩ = some (.int .u64 a1_2) := (blk_cell BK146.out 2).trans rfl
                                have hcz66_3 : wc.cell? ⟨gb146, 3, none⟩ = some (.int .i64 a1_3) := (blk_cell BK146.out 3).trans rfl
                                have hfz66_0 := blk_frozen BK146.out 0
                                have hfz66_1 := blk_frozen BK146.out 1
                                have hfz66_2 := blk_frozen BK146.out 2
                                have hfz66_3 := blk_frozen BK146.out 3
                                go_wp2
                                go_ret
                                exact ⟨by first | rfl | (simp [errW_none, errW_some] <;> rfl) | (simp [*, errW_none, errW_some] <;> rfl), by repeat (first | (with_reducible first | exact HB.out | apply below_alloc | apply pw_below_drewN | apply below_drew1 | refine below_set ?_ GE145.out | refine below_set ?_ GE146.out) | exact HB.out)⟩
                              · rw [if_neg c64] at H
                                have c64b0 : (a1_0 == 8) = false := beq_eq_false_iff_ne.mpr c64
                                have c64b1 : (a1_0 != 8) = true := bne_iff_ne.mpr c64
                                obtain rfl := Option.some.inj H
                                have hnb67 := NB146_145.out
                                have hnc67 := NB145_146.out
                                have hcz68_0 : wc.cell? ⟨gb146, 0, none⟩ = some (.int .i64 a1_0) := (blk_cell BK146.out 0).trans rfl
                                have hcz68_1 : wc.cell? ⟨gb146, 1, none⟩ = some (.int .u64 a1_1) := (blk_cell BK146.out 1).trans rfl
                                have hcz68_2 : wc.cell? ⟨gb146, 2, none⟩ = some (.int .u64 a1_2) := (blk_cell BK146.out 2).trans rfl
                                have hcz68_3 : wc.cell? ⟨gb146, 3, none⟩ = some (.int .i64 a1_3) := (blk_cell BK146.out 3).trans rfl
                                have hfz68_0 := blk_frozen BK146.out 0
                                have hfz68_1 := blk_frozen BK146.out 1
                                have hfz68_2 := blk_frozen BK146.out 2
                                have hfz68_3 := blk_frozen BK146.out 3
                                go_wp2
                                go_ret
                                exact ⟨by first | rfl | (simp [errW_none, errW_some] <;> rfl) | (simp [*, errW_none, errW_some] <;> rfl), by repeat (first | (with_reducible first | exact HB.out | apply below_alloc | apply pw_below_drewN | apply below_drew1 | refine below_set ?_ GE145.out | refine below_set ?_ GE146.out) | exact HB.out)⟩
                          · rw [if_neg c60] at H
                            have c60b0 : (a1_0 == 4) = false := beq_eq_false_iff_ne.mpr c60
                            have c60b1 : (a1_0 != 4) = true := bne_iff_ne.mpr c60
                            by_cases c69 : a1_0 = 5
                            · rw [if_pos c69] at H
                              have c69b0 : (a1_0 == 5) = true := beq_iff_eq.mpr c69
                              have c69b1 : (a1_0 != 5) = false := bne_eq_false_iff_eq.mpr c69
                              clear c69
                              by_cases c70 : a1_1 = 0
                              · rw [if_pos c70] at H
                                have c70b0 : (a1_1 == 0) = true := beq_iff_eq.mpr c70
                                have c70b1 : (a1_1 != 0) = false := bne_eq_false_iff_eq.mpr c70
                                clear c70
                                obtain rfl := Option.some.inj H
                                have hnb71 := NB146_145.out
                                have hnc71 := NB145_146.out
                                have hcz72_0 : wc.cell? ⟨gb146, 0, none⟩ = some (.int .i64 a1_0) := (blk_cell BK146.out 0).trans rfl
                                have hcz72_1 : wc.cell? ⟨gb146, 1, none⟩ = some (.int .u64 a1_1) := (blk_cell BK146.out 1).trans rfl
                                have hcz72_2 : wc.cell? ⟨gb146, 2, none⟩ = some (.int .u64 a1_2) := (blk_cell BK146.out 2).trans rfl
                                have hcz72_3 : wc.cell? ⟨gb146, 3, none⟩ = some (.int .i64 a1_3) := (blk_cell BK146.out 3).trans rfl
                                have hfz72_0 := blk_frozen BK146.out 0
                                have hfz72_1 := blk_frozen BK146.out 1
                                have hfz72_2 := blk_frozen BK146.out 2
                                have hfz72_3 := blk_frozen BK146.out 3
                                go_wp2
                                go_ret
                                exact ⟨by first | rfl | (simp [errW_none, errW_some] <;> rfl) | (simp [*, errW_none, errW_some] <;> rfl), by repeat (first | (with_reducible first | exact HB.out | apply below_alloc | apply pw_below_drewN | apply below_drew1 | refine below_set ?_ GE145.out | refine below_set ?_ GE146.out) | exact HB.out)⟩
                              · rw [if_neg c70] at H
                                have c70b0 : (a1_1 == 0) = false := beq_eq_false_iff_ne.mpr c70
                                have c70b1 : (a1_1 != 0) = true := bne_iff_ne.mpr c70
                                by_cases c73 : a1_0 = 8
                                · rw [if_pos c73] at H
                                  have c73b0 : (a1_0 == 8) = true := beq_iff_eq.mpr c73
                                  have c73b1 : (a1_0 != 8) = false := bne_eq_false_iff_eq.mpr c73
                                  clear c73
                                  obtain rfl := Option.some.inj H
                                  have hnb74 := NB146_145.out
                                  have hnc74 := NB145_146.out
                                  have hcz75_0 : wc.cell? ⟨gb146, 0, none⟩ = some (.int .i64 a1_0) := (blk_cell BK146.out 0).trans rfl
                                  have hcz75_1 : wc.cell? ⟨gb146, 1, none⟩ = some (.int .u64 a1_1) := (blk_cell BK146.out 1).trans rfl
                                  have hcz75_2 : wc.cell? ⟨gb146, 2, none⟩ = some (.int .u64 a1_2) := (blk_cell BK146.out 2).trans rfl
                                  have hcz75_3 : wc.cell? ⟨gb146, 3, none⟩ = some (.int .i64 a1_3) := (blk_cell BK146.out 3).trans rfl
                                  have hfz75_0 := blk_frozen BK146.out 0
                                  have hfz75_1 := blk_frozen BK146.out 1
                                  have hfz75_2 := blk_frozen BK146.out 2
                                  have hfz75_3 := blk_frozen BK146.out 3
                                  go_wp2
                                  go_ret
                                  exact ⟨by first | rfl | (simp [errW_none, errW_some] <;> rfl) | (simp [*, errW_none, errW_some] <;> rfl), by repeat (first | (with_reducible first | exact HB.out | apply below_alloc | apply pw_below_drewN | apply below_drew1 | refine below_set ?_ GE145.out | refine below_set ?_ GE146.out) | exact HB.out)⟩
                                · rw [if_neg c73] at H
                                  have c73b0 : (a1_0 == 8) = false := beq_eq_false_iff_ne.mpr c73
                                  have c73b1 : (a1_0 != 8) = true := bne_iff_ne.mpr c73
                                  obtain rfl := Option.some.inj H
                                  have hnb76 := NB146_145.out
                                  have hnc76 := NB145_146.out
                                  have hcz77_0 : wc.cell? ⟨gb146, 0, none⟩ = some (.int .i64 a1_0) := (blk_cell BK146.out 0).trans rfl
                                  have hcz77_1 : wc.cell? ⟨gb146, 1, none⟩ = some (.int .u64 a1_1) := (blk_cell BK146.out 1).trans rfl
                                  have hcz77_2 : wc.cell? ⟨gb146, 2, none⟩ = some (.int .u64 a1_2) := (blk_cell BK146.out 2).trans rfl
                                  have hcz77_3 : wc.cell? ⟨gb146, 3, none⟩ = some (.int .i64 a1_3) := (blk_cell BK146.out 3).trans rfl
                                  have hfz77_0 := blk_frozen BK146.out 0
                                  have hfz77_1 := blk_frozen BK146.out 1
                                  have hfz77_2 := blk_frozen BK146.out 2
                                  have hfz77_3 := blk_frozen BK146.out 3
                                  go_wp2
                                  go_ret
                                  exact ⟨by first | rfl | (simp [errW_none, errW_some] <;> rfl) | (simp [*, errW_none, errW_some] <;> rfl), by repeat (first | (with_reducible first | exact HB.out | apply below_alloc | apply pw_below_drewN | apply below_drew1 | refine below_set ?_ GE145.out | refine below_set ?_ GE146.out) | exact HB.out)⟩
                            · rw [if_neg c69] at H
                              have c69b0 : (a1_0 == 5) = false := beq_eq_false_iff_ne.mpr c69
                              have c69b1 : (a1_0 != 5) = true := bne_iff_ne.mpr c69
                              obtain rfl := Option.some.inj H
                              have hnb78 := NB146_145.out
                              have hnc78 := NB145_146.out
                              have hcz79_0 : wc.cell? ⟨gb146, 0, none⟩ = some (.int .i64 a1_0) := (blk_cell BK146.out 0).trans rfl
                              have hcz79_1 : wc.cell? ⟨gb146, 1, none⟩ = some (.int .u64 a1_1) := (blk_cell BK146.out 1).trans rfl
                              have hcz79_2 : wc.cell? ⟨gb146, 2, none⟩ = some (.int .u64 a1_2) := (blk_cell BK146.out 2).trans rfl
                              have hcz79_3 : wc.cell? ⟨gb146, 3, none⟩ = some (.int .i64 a1_3) := (blk_cell BK146.out 3).trans rfl
                              have hfz79_0 := blk_frozen BK146.out 0
                              have hfz79_1 := blk_frozen BK146.out 1
                              have hfz79_2 := blk_frozen BK146.out 2
                              have hfz79_3 := blk_frozen BK146.out 3
                              go_wp2
                              go_ret
                              exact ⟨by first | rfl | (simp [errW_none, errW_some] <;> rfl) | (simp [*, errW_none, errW_some] <;> rfl), by repeat (first | (with_reducible first | exact HB.out | apply below_alloc | apply pw_below_drewN | apply below_drew1 | refine below_set ?_ GE145.out | refine below_set ?_ GE146.out) | exact HB.out)⟩
  · rw [if_neg c4] at H
    have c4b0 : (t147 == 0) = false := beq_eq_false_iff_ne.mpr c4
    have c4b1 : (t147 != 0) = true := bne_iff_ne.mpr c4
    obtain rfl := Option.some.inj H
    go_enter Try.func49, Try.ntmps49
    go_wp2_with (first | ((with_reducible refine gate_dst (N := 2) rfl ?_); refine box_event ?hg (N := 2) ?hd (cs := #[.int .i64 a0_0, .int .i64 a0_1, .int .i64 a0_2, .int .i64 a0_3, .int .i64 a0_4]) (t := 31) ?hr ?_; (case hd => rfl); (case hg => rfl); (case hr => first | (go_simp; done) | (go_simp; rfl)); intro gb145 hg w80 hbox hb; have n0_ := Aside0.mk (below_step (by repeat (first | (with_reducible first | exact HB.out | apply below_alloc | apply pw_below_drewN | apply below_drew1) | exact HB.out)) hb); have n1_ := Aside0.mk (hbox); have n2_ := Aside0.mk ((by rw [hg]; exact (below_size (by repeat (first | (with_reducible first | exact HB.out | apply below_alloc | apply pw_below_drewN | apply below_drew1) | exact HB.out))) : w.heap.size ≤ gb145)); have n3_ := Aside0.mk ((by rw [hg]; exact (below_size (by repeat (first | (with_reducible first | exact HB.out | apply below_alloc | apply pw_below_drewN | apply below_drew1) | exact HB.out))) : w.heap.size ≤ gb145)); clear HB; have HB := n0_; have BK145 := n1_; have GW145 := n2_; have GE145 := n3_; clear n0_ n1_ n2_ n3_; clear hb hbox hg) | ((with_reducible refine gate_dst (N := 3) rfl ?_); refine box_event ?hg (N := 3) ?hd (cs := #[.int .i64 a1_0, .int .u64 a1_1, .int .u64 a1_2, .int .i64 a1_3]) (t := 37) ?hr ?_; (case hd => rfl); (case hg => rfl); (case hr => first | (go_simp; done) | (go_simp; rfl)); intro gb146 hg w81 hbox hb; have n0_ := Aside0.mk (blk_below (g := gb145) (o := .cells #[.int .i64 a0_0, .int .i64 a0_1, .int .i64 a0_2, .int .i64 a0_3, .int .i64 a0_4] 31 (0, 0)) (by (with_reducible repeat (first | refine blk_drewN ?_ _ | refine blk_drew ?_ | refine blk_alloc ?_ _)); exact BK145.out) hb); have n1_ := Aside0.mk (below_step (by repeat (first | (with_reducible first | exact HB.out | apply below_alloc | apply pw_below_drewN | apply below_drew1 | refine below_set ?_ GE145.out) | exact HB.out)) hb); have n2_ := Aside0.mk (hbox); have n3_ := Aside0.mk ((by rw [hg]; exact (below_size (by repeat (first | (with_reducible first | exact HB.out | apply below_alloc | apply pw_below_drewN | apply below_drew1 | refine below_set ?_ GE145.out) | exact HB.out))) : w.heap.size ≤ gb146)); have n4_ := Aside0.mk ((by rw [hg]; exact (below_size (by repeat (first | (with_reducible first | exact HB.out | apply below_alloc | apply pw_below_drewN | apply below_drew1 | refine below_set ?_ GE145.out) | exact HB.out))) : w.heap.size ≤ gb146)); have n5_ := Aside0.mk ((by rw [hg]; exact Nat.ne_of_lt (blk_lt (g := gb145) (o := .cells #[.int .i64 a0_0, .int .i64 a0_1, .int .i64 a0_2, .int .i64 a0_3, .int .i64 a0_4] 31 (0, 0)) (by (with_reducible repeat (first | refine blk_drewN ?_ _ | refine blk_drew ?_ | refine blk_alloc ?_ _)); exact BK145.out)) : gb145 ≠ gb146)); have n6_ := Aside0.mk ((by rw [hg]; exact Nat.ne_of_gt (blk_lt (g := gb145) (o := .cells #[.int .i64 a0_0, .int .i64 a0_1, .int .i64 a0_2, .int .i64 a0_3, .int .i64 a0_4] 31 (0, 0)) (by (with_reducible repeat (first | refine blk_drewN ?_ _ | refine blk_drew ?_ | refine blk_alloc ?_ _)); exact BK145.out)) : gb146 ≠ gb145)); clear BK145; clear HB; have BK145 := n0_; have HB := n1_; have BK146 := n2_; have GW146 := n3_; have GE146 := n4_; have NB145_146 := n5_; have NB146_145 := n6_; clear n0_ n1_ n2_ n3_ n4_ n5_ n6_; clear hb hbox hg; have hnb82 := NB145_146.out; have hnc82 := NB146_145.out; have hcz83_0 : w81.cell? ⟨gb145, 0, none⟩ = some (.int .i64 a0_0) := (blk_cell BK145.out 0).trans rfl; have hcz83_1 : w81.cell? ⟨gb145, 1, none⟩ = some (.int .i64 a0_1) := (blk_cell BK145.out 1).trans rfl; have hcz83_2 : w81.cell? ⟨gb145, 2, none⟩ = some (.int .i64 a0_2) := (blk_cell BK145.out 2).trans rfl; have hcz83_3 : w81.cell? ⟨gb145, 3, none⟩ = some (.int .i64 a0_3) := (blk_cell BK145.out 3).trans rfl; have hcz83_4 : w81.cell? ⟨gb145, 4, none⟩ = some (.int .i64 a0_4) := (blk_cell BK145.out 4).trans rfl; have hfz83_0 := blk_frozen BK145.out 0; have hfz83_1 := blk_frozen BK145.out 1; have hfz83_2 := blk_frozen BK145.out 2; have hfz83_3 := blk_frozen BK145.out 3; have hfz83_4 := blk_frozen BK145.out 4) | ((with_reducible refine gate_callee (f := 21) rfl ?_); refine goesL_ (some 9) rfl rfl Try.func21 (by kernel_rfl) rfl #[.agg #[.int .i64 a0_0, .int .i64 a0_1, .int .i64 a0_2, .int .i64 a0_3, .int .i64 a0_4]] rfl (by (try simp only [List.map_toArray, List.map_cons, List.map_nil]); first | done | rfl | (simp only [List.length_drop, List.length_take]; rfl)) ?_; (with_reducible refine (revenantref03_Check.calls k a0_0 a0_1 a0_2 a0_3 a0_4 t147 _ A3.out).mono ?_); rintro e w84 ⟨rfl, hb⟩; refine ⟨_, rfl, ?_⟩; have n0_ := Aside0.mk (blk_below (g := gb145) (o := .cells #[.int .i64 a0_0, .int .i64 a0_1, .int .i64 a0_2, .int .i64 a0_3, .int .i64 a0_4] 31 (0, 0)) (by (with_reducible repeat (first | refine blk_drewN ?_ _ | refine blk_drew ?_ | refine blk_alloc ?_ _)); exact BK145.out) hb); have n1_ := Aside0.mk (blk_below (g := gb146) (o := .cells #[.int .i64 a1_0, .int .u64 a1_1, .int .u64 a1_2, .int .i64 a1_3] 37 (0, 0)) (by (with_reducible repeat (first | refine blk_drewN ?_ _ | refine blk_drew ?_ | refine blk_alloc ?_ _)); exact BK146.out) hb); have n2_ := Aside0.mk (below_step (by repeat (first | (with_reducible first | exact HB.out | apply below_alloc | apply pw_below_drewN | apply below_drew1 | refine below_set ?_ GE145.out | refine below_set ?_ GE146.out) | exact HB.out)) hb); clear BK145; clear BK146; clear HB; have BK145 := n0_; have BK146 := n1_; have HB := n2_; clear n0_ n1_ n2_; (try clear hb); (try clear hb2); (try clear hk); (try clear hi)))
    go_ret
    exact ⟨by first | rfl | (simp [errW_none, errW_some] <;> rfl) | (simp [*, errW_none, errW_some] <;> rfl), by repeat (first | (with_reducible first | exact HB.out | apply below_alloc | apply pw_below_drewN | apply below_drew1 | refine below_set ?_ GE145.out | refine below_set ?_ GE146.out) | exact HB.out)⟩

end Go.Proofs.Ytcphmelmieedfaa.PScriptExact
