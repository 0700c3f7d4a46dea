-- WRITTEN BY A PROGRAM OF THIS SESSION (place.py, prune.py): walks of plain functions.
-- WRITTEN BY A PROGRAM OF THIS SESSION (xprint.sh): the walks of plain functions over contracts of my own.
import Derived.Test.YtcncndhoeiaoeaaDoorPPlaceExactx0
import Derived.Test.YtcncndhoeiaoeaaDoorPPlaceExactx1
import Derived.Test.YtcncndhoeiaoeaaDoorPPlaceExactx3
import Derived.Test.YtcncndhoeiaoeaaDoorPPlaceExactx4
import Derived.Test.YtcncndhoeiaoeaaDoorAw
import Derived.Test.YtcncndhoeiaoeaaDoorAfter
namespace Go.Proofs.YtcncndhoeiaoeaaDoor.PPlaceExact
open Go.RowKit Go.Proofs.YtcncndhoeiaoeaaDoorW.PrintWords Go.Proofs.YtcncndhoeiaoeaaDoorW.PrintLast Go.Proofs.YtcncndhoeiaoeaaDoorW.PrintMore
attribute [local go_sem] max2_int min2_int max_two min_two max_three min_three max_four min_four   -- for this text's walks alone
set_option linter.unusedVariables false
set_option linter.unusedSimpArgs false

attribute [local go_sem high] eqA25
/-! ### revenantlaw05_PlaceBack: function 5 -/
mutual
def revenantlaw05_PlaceBack.j0 : Nat → Int → Bool → Int → Int → Int → Int → Int → Option (Bool)
  | 0, _, _, _, _, _, _, _ => none
  | k + 1, x1, x8, x221000, x221001, x221002, x221003, x221004 => (place_Count.f k x221000 x221001 x221002 x221003 x221004).bind fun t230 => (if t230 = 0 then (some (!x8)) else ((place_Count.f k x221000 x221001 x221002 x221003 x221004).bind fun t231 => (if (IntKind.u64.wrap (t231)) = 0 then (none) else ((place_At.f k x221000 x221001 x221002 x221003 x221004 (wrap64 (Int.tmod (IntKind.u64.wrap (x1)) (IntKind.u64.wrap (t231))))).bind fun bt232 => ((place_Number.f k x221000 x221001 x221002 x221003 x221004 bt232.1 bt232.2.1 bt232.2.2.1).bind fun bt237 => (if bt232.2.2.2 = true then (if bt237.2 = true then (revenantlaw05_PlaceBack.j1 k (wrap64 (Int.tmod (IntKind.u64.wrap (x1)) (IntKind.u64.wrap (t231)))) ((wrap64 (Int.tmod (IntKind.u64.wrap (x1)) (IntKind.u64.wrap (t231)))) != bt237.1) x221000 x221001 x221002 x221003 x221004 bt232.1 bt232.2.1 bt232.2.2.1) else (revenantlaw05_PlaceBack.j1 k (wrap64 (Int.tmod (IntKind.u64.wrap (x1)) (IntKind.u64.wrap (t231)))) true x221000 x221001 x221002 x221003 x221004 bt232.1 bt232.2.1 bt232.2.2.1)) else (revenantlaw05_PlaceBack.j1 k (wrap64 (Int.tmod (IntKind.u64.wrap (x1)) (IntKind.u64.wrap (t231)))) true x221000 x221001 x221002 x221003 x221004 bt232.1 bt232.2.1 bt232.2.2.1)))))))
def revenantlaw05_PlaceBack.j1 : Nat → Int → Bool → Int → Int → Int → Int → Int → Int → Int → Int → Option (Bool)
  | 0, _, _, _, _, _, _, _, _, _, _ => none
  | k + 1, x11, x76, x221000, x221001, x221002, x221003, x221004, x237000, x237001, x237002 => if x76 = true then (some false) else ((revenantref05_After.f k x221000 x221001 x221002 x221003 x221004 x237000 x237001 x237002).bind fun bt239 => ((place_At.f k x221000 x221001 x221002 x221003 x221004 (wrap64 (x11 + 1))).bind fun bt244 => (if (bt239.2.2.2 == bt244.2.2.2) = true then (if bt244.2.2.2 = true then (some (bt244.1 == bt239.1 && (bt244.2.1 == bt239.2.1 && (bt244.2.2.1 == bt239.2.2.1)))) else (some true)) else (some false))))
end
def revenantlaw05_PlaceBack.f (k : Nat) (a0_0 : Int) (a0_1 : Int) (a0_2 : Int) (a0_3 : Int) (a0_4 : Int) (a1 : Int) (a2_0 : Int) (a2_1 : Int) (a2_2 : Int) : Option (Bool) := (revenantlaw05_awake.f k).bind fun t222 => (if t222 = true then ((place_Number.f k a0_0 a0_1 a0_2 a0_3 a0_4 a2_0 a2_1 a2_2).bind fun bt223 => (if bt223.2 = true then ((place_At.f k a0_0 a0_1 a0_2 a0_3 a0_4 bt223.1).bind fun bt225 => (if bt225.2.2.2 = true then (if (!(bt225.1 == a2_0) || (!(bt225.2.1 == a2_1) || (!(bt225.2.2.1 == a2_2)))) = true then (some false) else (revenantlaw05_PlaceBack.j0 k a1 bt223.2 a0_0 a0_1 a0_2 a0_3 a0_4)) else (some false))) else (revenantlaw05_PlaceBack.j0 k a1 bt223.2 a0_0 a0_1 a0_2 a0_3 a0_4))) else (some false))
theorem revenantlaw05_PlaceBack.mono_l : ∀ k, (∀ y0 y1 y2 y3 y4 y5 y6, LeO (revenantlaw05_PlaceBack.j0 k y0 y1 y2 y3 y4 y5 y6) (revenantlaw05_PlaceBack.j0 (k + 1) y0 y1 y2 y3 y4 y5 y6)) ∧ (∀ y0 y1 y2 y3 y4 y5 y6 y7 y8 y9, LeO (revenantlaw05_PlaceBack.j1 k y0 y1 y2 y3 y4 y5 y6 y7 y8 y9) (revenantlaw05_PlaceBack.j1 (k + 1) y0 y1 y2 y3 y4 y5 y6 y7 y8 y9))
  | 0 => ⟨fun _ _ _ _ _ _ _ r h => by simp [revenantlaw05_PlaceBack.j0] at h, fun _ _ _ _ _ _ _ _ _ _ r h => by simp [revenantlaw05_PlaceBack.j1] at h⟩
  | k + 1 => by
    obtain ⟨ih0, ih1⟩ := revenantlaw05_PlaceBack.mono_l k
    refine ⟨?_, ?_⟩
    · intro y0 y1 y2 y3 y4 y5 y6
      unfold revenantlaw05_PlaceBack.j0
      repeat' first
      | (with_reducible exact ih0 _ _ _ _ _ _ _)
      | (with_reducible exact ih1 _ _ _ _ _ _ _ _ _ _)
      | (with_reducible exact place_At.mono _ _ _ _ _ _ _)
      | (with_reducible exact place_Count.mono _ _ _ _ _ _)
      | (with_reducible exact place_Number.mono _ _ _ _ _ _ _ _ _)
      | (with_reducible exact revenantlaw05_awake.mono _)
      | (with_reducible exact revenantref05_After.mono _ _ _ _ _ _ _ _ _)
      | (with_reducible exact LeO.refl _)
      | (with_reducible exact LeO.none _)
      | (with_reducible refine LeO.ite ?_ ?_)
      | (with_reducible refine LeO.bind ?_ (fun _ => ?_))
      | exact ih0 _ _ _ _ _ _ _
      | exact ih1 _ _ _ _ _ _ _ _ _ _
      | exact place_At.mono _ _ _ _ _ _ _
      | exact place_Count.mono _ _ _ _ _ _
      | exact place_Number.mono _ _ _ _ _ _ _ _ _
      | exact revenantlaw05_awake.mono _
      | exact revenantref05_After.mono _ _ _ _ _ _ _ _ _
      | exact LeO.none _
      | refine LeO.ite ?_ ?_
      | refine LeO.bind ?_ (fun _ => ?_)
    · intro y0 y1 y2 y3 y4 y5 y6 y7 y8 y9
      unfold revenantlaw05_PlaceBack.j1
      repeat' first
      | (with_reducible exact ih0 _ _ _ _ _ _ _)
      | (with_reducible exact ih1 _ _ _ _ _ _ _ _ _ _)
      | (with_reducible exact place_At.mono _ _ _ _ _ _ _)
      | (with_reducible exact place_Count.mono _ _ _ _ _ _)
      | (with_reducible exact place_Number.mono _ _ _ _ _ _ _ _ _)
      | (with_reducible exact revenantlaw05_awake.mono _)
      | (with_reducible exact revenantref05_After.mono _ _ _ _ _ _ _ _ _)
      | (with_reducible exact LeO.refl _)
      | (with_reducible exact LeO.none _)
      | (with_reducible refine LeO.ite ?_ ?_)
      | (with_reducible refine LeO.bind ?_ (fun _ => ?_))
      | exact ih0 _ _ _ _ _ _ _
      | exact ih1 _ _ _ _ _ _ _ _ _ _
      | exact place_At.mono _ _ _ _ _ _ _
      | exact place_Count.mono _ _ _ _ _ _
      | exact place_Number.mono _ _ _ _ _ _ _ _ _
      | exact revenantlaw05_awake.mono _
      | exact revenantref05_After.mono _ _ _ _ _ _ _ _ _
      | exact LeO.none _
      | refine LeO.ite ?_ ?_
      | refine LeO.bind ?_ (fun _ => ?_)
theorem revenantlaw05_PlaceBack.mono : ∀ a0 a1 a2 a3 a4 a5 a6 a7 a8 k, LeO (revenantlaw05_PlaceBack.f k a0 a1 a2 a3 a4 a5 a6 a7 a8) (revenantlaw05_PlaceBack.f (k + 1) a0 a1 a2 a3 a4 a5 a6 a7 a8) := by
  intro a0 a1 a2 a3 a4 a5 a6 a7 a8 k
  obtain ⟨ih0, ih1⟩ := revenantlaw05_PlaceBack.mono_l k
  unfold revenantlaw05_PlaceBack.f
  repeat' first
      | (with_reducible exact ih0 _ _ _ _ _ _ _)
      | (with_reducible exact ih1 _ _ _ _ _ _ _ _ _ _)
      | (with_reducible exact place_At.mono _ _ _ _ _ _ _)
      | (with_reducible exact place_Count.mono _ _ _ _ _ _)
      | (with_reducible exact place_Number.mono _ _ _ _ _ _ _ _ _)
      | (with_reducible exact revenantlaw05_awake.mono _)
      | (with_reducible exact revenantref05_After.mono _ _ _ _ _ _ _ _ _)
      | (with_reducible exact LeO.refl _)
      | (with_reducible exact LeO.none _)
      | (with_reducible refine LeO.ite ?_ ?_)
      | (with_reducible refine LeO.bind ?_ (fun _ => ?_))
      | exact ih0 _ _ _ _ _ _ _
      | exact ih1 _ _ _ _ _ _ _ _ _ _
      | exact place_At.mono _ _ _ _ _ _ _
      | exact place_Count.mono _ _ _ _ _ _
      | exact place_Number.mono _ _ _ _ _ _ _ _ _
      | exact revenantlaw05_awake.mono _
      | exact revenantref05_After.mono _ _ _ _ _ _ _ _ _
      | exact LeO.none _
      | refine LeO.ite ?_ ?_
      | refine LeO.bind ?_ (fun _ => ?_)
theorem revenantlaw05_PlaceBack.j1_no {k : Nat} {y0 : Int} {y2 : Int} {y3 : Int} {y4 : Int} {y5 : Int} {y6 : Int} {y7 : Int} {y8 : Int} {y9 : Int} {r : Bool} (h : revenantlaw05_PlaceBack.j1 k y0 true y2 y3 y4 y5 y6 y7 y8 y9 = some r) : r = false := by
  cases k with
  | zero => exact absurd h (by simp [revenantlaw05_PlaceBack.j1])
  | succ k => exact (Option.some.inj (by simpa only [revenantlaw05_PlaceBack.j1, if_true] using h)).symm
set_option maxHeartbeats 8000000 in
set_option maxRecDepth 100000 in
theorem revenantlaw05_PlaceBack.callsT (k : Nat) (a0_0 : Int) (a0_1 : Int) (a0_2 : Int) (a0_3 : Int) (a0_4 : Int) (a1 : Int) (a2_0 : Int) (a2_1 : Int) (a2_2 : Int) (r : Bool) (w : World) (hr0 : r = true) (h : revenantlaw05_PlaceBack.f k a0_0 a0_1 a0_2 a0_3 a0_4 a1 a2_0 a2_1 a2_2 = some r) :
    Calls Tryd.prog 5 #[.agg #[.int .i64 a0_0, .int .i64 a0_1, .int .i64 a0_2, .int .i64 a0_3, .int .i64 a0_4], .int .i64 a1, .agg #[.int .i64 a2_0, .int .i64 a2_1, .int .i64 a2_2]] w fun e w' => e = .returned (.bool r) ∧ Below w.heap.size w w' := by
  have hu23 := Tryd.underlying23
  have hu25 := Tryd.underlying25
  have HB := Aside0.mk (Below.refl w.heap.size w)
  have HR := Aside0.mk hr0
  clear hr0
  have H : ((revenantlaw05_awake.f k).bind fun t222 => (if t222 = true then ((place_Number.f k a0_0 a0_1 a0_2 a0_3 a0_4 a2_0 a2_1 a2_2).bind fun bt223 => (if bt223.2 = true then ((place_At.f k a0_0 a0_1 a0_2 a0_3 a0_4 bt223.1).bind fun bt225 => (if bt225.2.2.2 = true then (if (!(bt225.1 == a2_0) || (!(bt225.2.1 == a2_1) || (!(bt225.2.2.1 == a2_2)))) = true then (some false) else (revenantlaw05_PlaceBack.j0 k a1 bt223.2 a0_0 a0_1 a0_2 a0_3 a0_4)) else (some false))) else (revenantlaw05_PlaceBack.j0 k a1 bt223.2 a0_0 a0_1 a0_2 a0_3 a0_4))) else (some false))) = some r := h
  clear h
  replace H := Option.bind_eq_some_iff.mp H
  obtain ⟨t222, A40, H⟩ := H
  replace H : (if t222 = true then ((place_Number.f k a0_0 a0_1 a0_2 a0_3 a0_4 a2_0 a2_1 a2_2).bind fun bt223 => (if bt223.2 = true then ((place_At.f k a0_0 a0_1 a0_2 a0_3 a0_4 bt223.1).bind fun bt225 => (if bt225.2.2.2 = true then (if (!(bt225.1 == a2_0) || (!(bt225.2.1 == a2_1) || (!(bt225.2.2.1 == a2_2)))) = true then (some false) else (revenantlaw05_PlaceBack.j0 k a1 bt223.2 a0_0 a0_1 a0_2 a0_3 a0_4)) else (some false))) else (revenantlaw05_PlaceBack.j0 k a1 bt223.2 a0_0 a0_1 a0_2 a0_3 a0_4))) else (some false)) = some r := H
  have A4 := Aside0.mk A40
  clear A40
  by_cases c5 : t222 = true
  · subst c5
    have H1 : ((place_Number.f k a0_0 a0_1 a0_2 a0_3 a0_4 a2_0 a2_1 a2_2).bind fun bt223 => (if bt223.2 = true then ((place_At.f k a0_0 a0_1 a0_2 a0_3 a0_4 bt223.1).bind fun bt225 => (if bt225.2.2.2 = true then (if (!(bt225.1 == a2_0) || (!(bt225.2.1 == a2_1) || (!(bt225.2.2.1 == a2_2)))) = true then (some false) else (revenantlaw05_PlaceBack.j0 k a1 bt223.2 a0_0 a0_1 a0_2 a0_3 a0_4)) else (some false))) else (revenantlaw05_PlaceBack.j0 k a1 bt223.2 a0_0 a0_1 a0_2 a0_3 a0_4))) = some r := by rw [if_pos rfl] at H; exact H
    clear H
    have H := H1
    clear H1
    replace H := Option.bind_eq_some_iff.mp H
    obtain ⟨⟨t223, t224⟩, A60, H⟩ := H
    replace H : (if t224 = true then ((place_At.f k a0_0 a0_1 a0_2 a0_3 a0_4 t223).bind fun bt225 => (if bt225.2.2.2 = true then (if (!(bt225.1 == a2_0) || (!(bt225.2.1 == a2_1) || (!(bt225.2.2.1 == a2_2)))) = true then (some false) else (revenantlaw05_PlaceBack.j0 k a1 t224 a0_0 a0_1 a0_2 a0_3 a0_4)) else (some false))) else (revenantlaw05_PlaceBack.j0 k a1 t224 a0_0 a0_1 a0_2 a0_3 a0_4)) = some r := H
    have A6 := Aside0.mk A60
    clear A60
    have HC7 := Aside0.mk H
    clear H
    go_enter Tryd.func5, Tryd.ntmps5
    go_upto_if 28 with (first | ((with_reducible refine gate_dst (N := 3) rfl ?_); refine box_event ?hg (N := 3) ?hd (cs := #[.int .i64 a0_0, .int .i64 a0_1, .int .i64 a0_2, .int .i64 a0_3, .int .i64 a0_4]) (t := 23) ?hr ?_; (case hd => rfl); (case hg => rfl); (case hr => first | (go_simp; done) | (go_simp; rfl)); intro gb220 hg w8 hbox hb; have n0_ := Aside0.mk (below_step (by repeat (first | (with_reducible first | exact HB.out | apply below_alloc | apply pw_below_drewN | apply below_drew1) | exact HB.out)) hb); have n1_ := Aside0.mk (hbox); have n2_ := Aside0.mk ((by rw [hg]; exact (below_size (by repeat (first | (with_reducible first | exact HB.out | apply below_alloc | apply pw_below_drewN | apply below_drew1) | exact HB.out))) : w.heap.size ≤ gb220)); have n3_ := Aside0.mk ((by rw [hg]; exact (below_size (by repeat (first | (with_reducible first | exact HB.out | apply below_alloc | apply pw_below_drewN | apply below_drew1) | exact HB.out))) : w.heap.size ≤ gb220)); clear HB; have HB := n0_; have BK220 := n1_; have GW220 := n2_; have GE220 := n3_; clear n0_ n1_ n2_ n3_; clear hb hbox hg) | ((with_reducible refine gate_dst (N := 5) rfl ?_); refine box_event ?hg (N := 5) ?hd (cs := #[.int .i64 a2_0, .int .i64 a2_1, .int .i64 a2_2]) (t := 25) ?hr ?_; (case hd => rfl); (case hg => rfl); (case hr => first | (go_simp; done) | (go_simp; rfl)); intro gb221 hg w9 hbox hb; have n0_ := Aside0.mk (blk_below (g := gb220) (o := .cells #[.int .i64 a0_0, .int .i64 a0_1, .int .i64 a0_2, .int .i64 a0_3, .int .i64 a0_4] 23 (0, 0)) (by (with_reducible repeat (first | refine blk_drewN ?_ _ | refine blk_drew ?_ | refine blk_alloc ?_ _)); exact BK220.out) hb); have n1_ := Aside0.mk (below_step (by repeat (first | (with_reducible first | exact HB.out | apply below_alloc | apply pw_below_drewN | apply below_drew1 | refine below_set ?_ GE220.out) | exact HB.out)) hb); have n2_ := Aside0.mk (hbox); have n3_ := Aside0.mk ((by rw [hg]; exact (below_size (by repeat (first | (with_reducible first | exact HB.out | apply below_alloc | apply pw_below_drewN | apply below_drew1 | refine below_set ?_ GE220.out) | exact HB.out))) : w.heap.size ≤ gb221)); have n4_ := Aside0.mk ((by rw [hg]; exact (below_size (by repeat (first | (with_reducible first | exact HB.out | apply below_alloc | apply pw_below_drewN | apply below_drew1 | refine below_set ?_ GE220.out) | exact HB.out))) : w.heap.size ≤ gb221)); have n5_ := Aside0.mk ((by rw [hg]; exact Nat.ne_of_lt (blk_lt (g := gb220) (o := .cells #[.int .i64 a0_0, .int .i64 a0_1, .int .i64 a0_2, .int .i64 a0_3, .int .i64 a0_4] 23 (0, 0)) (by (with_reducible repeat (first | refine blk_drewN ?_ _ | refine blk_drew ?_ | refine blk_alloc ?_ _)); exact BK220.out)) : gb220 ≠ gb221)); have n6_ := Aside0.mk ((by rw [hg]; exact Nat.ne_of_gt (blk_lt (g := gb220) (o := .cells #[.int .i64 a0_0, .int .i64 a0_1, .int .i64 a0_2, .int .i64 a0_3, .int .i64 a0_4] 23 (0, 0)) (by (with_reducible repeat (first | refine blk_drewN ?_ _ | refine blk_drew ?_ | refine blk_alloc ?_ _)); exact BK220.out)) : gb221 ≠ gb220)); clear BK220; clear HB; have BK220 := n0_; have HB := n1_; have BK221 := n2_; have GW221 := n3_; have GE221 := n4_; have NB220_221 := n5_; have NB221_220 := n6_; clear n0_ n1_ n2_ n3_ n4_ n5_ n6_; clear hb hbox hg) | ((with_reducible refine gate_callee (f := 9) rfl ?_); refine goesL_ (some 20) rfl rfl Tryd.func9 (by kernel_rfl) rfl #[] rfl (by (try simp only [List.map_toArray, List.map_cons, List.map_nil]); first | done | rfl | (simp only [List.length_drop, List.length_take]; rfl)) ?_; (with_reducible refine (revenantlaw05_awake.calls k  true _ A4.out).mono ?_); rintro e w10 ⟨rfl, hb⟩; refine ⟨_, rfl, ?_⟩; have n0_ := Aside0.mk (blk_below (g := gb220) (o := .cells #[.int .i64 a0_0, .int .i64 a0_1, .int .i64 a0_2, .int .i64 a0_3, .int .i64 a0_4] 23 (0, 0)) (by (with_reducible repeat (first | refine blk_drewN ?_ _ | refine blk_drew ?_ | refine blk_alloc ?_ _)); exact BK220.out) hb); have n1_ := Aside0.mk (blk_below (g := gb221) (o := .cells #[.int .i64 a2_0, .int .i64 a2_1, .int .i64 a2_2] 25 (0, 0)) (by (with_reducible repeat (first | refine blk_drewN ?_ _ | refine blk_drew ?_ | refine blk_alloc ?_ _)); exact BK221.out) hb); have n2_ := Aside0.mk (below_step (by repeat (first | (with_reducible first | exact HB.out | apply below_alloc | apply pw_below_drewN | apply below_drew1 | refine below_set ?_ GE220.out | refine below_set ?_ GE221.out) | exact HB.out)) hb); clear BK220; clear BK221; clear HB; have BK220 := n0_; have BK221 := n1_; have HB := n2_; clear n0_ n1_ n2_; (try clear hb); (try clear hb2); (try clear hk); (try clear hi); have hnb11 := NB220_221.out; have hnc11 := NB221_220.out; have hcz12_0 : w10.cell? ⟨gb220, 0, none⟩ = some (.int .i64 a0_0) := (blk_cell BK220.out 0).trans rfl; have hcz12_1 : w10.cell? ⟨gb220, 1, none⟩ = some (.int .i64 a0_1) := (blk_cell BK220.out 1).trans rfl; have hcz12_2 : w10.cell? ⟨gb220, 2, none⟩ = some (.int .i64 a0_2) := (blk_cell BK220.out 2).trans rfl; have hcz12_3 : w10.cell? ⟨gb220, 3, none⟩ = some (.int .i64 a0_3) := (blk_cell BK220.out 3).trans rfl; have hcz12_4 : w10.cell? ⟨gb220, 4, none⟩ = some (.int .i64 a0_4) := (blk_cell BK220.out 4).trans rfl; have hfz12_0 := blk_frozen BK220.out 0; have hfz12_1 := blk_frozen BK220.out 1; have hfz12_2 := blk_frozen BK220.out 2; have hfz12_3 := blk_frozen BK220.out 3; have hfz12_4 := blk_frozen BK220.out 4; have hcz13_0 : w10.cell? ⟨gb221, 0, none⟩ = some (.int .i64 a2_0) := (blk_cell BK221.out 0).trans rfl; have hcz13_1 : w10.cell? ⟨gb221, 1, none⟩ = some (.int .i64 a2_1) := (blk_cell BK221.out 1).trans rfl; have hcz13_2 : w10.cell? ⟨gb221, 2, none⟩ = some (.int .i64 a2_2) := (blk_cell BK221.out 2).trans rfl; have hfz13_0 := blk_frozen BK221.out 0; have hfz13_1 := blk_frozen BK221.out 1; have hfz13_2 := blk_frozen BK221.out 2) | ((with_reducible refine gate_callee (f := 11) rfl ?_); refine goesL_ (some 25) rfl rfl Tryd.func11 (by kernel_rfl) rfl #[.agg #[.int .i64 a0_0, .int .i64 a0_1, .int .i64 a0_2, .int .i64 a0_3, .int .i64 a0_4], .agg #[.int .i64 a2_0, .int .i64 a2_1, .int .i64 a2_2]] rfl (by (try simp only [List.map_toArray, List.map_cons, List.map_nil]); first | done | rfl | (simp only [List.length_drop, List.length_take]; rfl)) ?_; (with_reducible refine (place_Number.calls k a0_0 a0_1 a0_2 a0_3 a0_4 a2_0 a2_1 a2_2 t223 t224 _ A6.out).mono ?_); rintro e w14 ⟨rfl, hb⟩; refine ⟨_, rfl, ?_⟩; have n0_ := Aside0.mk (blk_below (g := gb220) (o := .cells #[.int .i64 a0_0, .int .i64 a0_1, .int .i64 a0_2, .int .i64 a0_3, .int .i64 a0_4] 23 (0, 0)) (by (with_reducible repeat (first | refine blk_drewN ?_ _ | refine blk_drew ?_ | refine blk_alloc ?_ _)); exact BK220.out) hb); have n1_ := Aside0.mk (blk_below (g := gb221) (o := .cells #[.int .i64 a2_0, .int .i64 a2_1, .int .i64 a2_2] 25 (0, 0)) (by (with_reducible repeat (first | refine blk_drewN ?_ _ | refine blk_drew ?_ | refine blk_alloc ?_ _)); exact BK221.out) hb); have n2_ := Aside0.mk (below_step (by repeat (first | (with_reducible first | exact HB.out | apply below_alloc | apply pw_below_drewN | apply below_drew1 | refine below_set ?_ GE220.out | refine below_set ?_ GE221.out) | exact HB.out)) hb); clear BK220; clear BK221; clear HB; have BK220 := n0_; have BK221 := n1_; have HB := n2_; clear n0_ n1_ n2_; (try clear hb); (try clear hb2); (try clear hk); (try clear hi)))
    (try simp only [Act.put, List.setIfInBounds_toArray, List.set_cons_zero, List.set_cons_succ])
    go_cut [] (fun wc => ∃ (kq : Nat), Aside0 (revenantlaw05_PlaceBack.j0 kq a1 t224 a0_0 a0_1 a0_2 a0_3 a0_4 = some r) ∧ Aside0 (kq ≤ k) ∧ Aside0 (wc.heap[gb220]? = some (.cells #[.int .i64 a0_0, .int .i64 a0_1, .int .i64 a0_2, .int .i64 a0_3, .int .i64 a0_4] 23 (0, 0))) ∧ Aside0 (wc.heap[gb221]? = some (.cells #[.int .i64 a2_0, .int .i64 a2_1, .int .i64 a2_2] 25 (0, 0))) ∧ Aside0 (Below w.heap.size w wc))
    case first =>
      have H := HC7.out
      clear HC7
      by_cases c15 : t224 = true
      · subst c15
        have H1 : ((place_At.f k a0_0 a0_1 a0_2 a0_3 a0_4 t223).bind fun bt225 => (if bt225.2.2.2 = true then (if (!(bt225.1 == a2_0) || (!(bt225.2.1 == a2_1) || (!(bt225.2.2.1 == a2_2)))) = true then (some false) else (revenantlaw05_PlaceBack.j0 k a1 true a0_0 a0_1 a0_2 a0_3 a0_4)) else (some false))) = some r := by rw [if_pos rfl] at H; exact H
        clear H
        have H := H1
        clear H1
        replace H := Option.bind_eq_some_iff.mp H
        obtain ⟨⟨t225, t226, t227, t228⟩, A160, H⟩ := H
        replace H : (if t228 = true then (if (!(t225 == a2_0) || (!(t226 == a2_1) || (!(t227 == a2_2)))) = true then (some false) else (revenantlaw05_PlaceBack.j0 k a1 true a0_0 a0_1 a0_2 a0_3 a0_4)) else (some false)) = some r := H
        have A16 := Aside0.mk A160
        clear A160
        by_cases c17 : t228 = true
        · subst c17
          have H1 : (if (!(t225 == a2_0) || (!(t226 == a2_1) || (!(t227 == a2_2)))) = true then (some false) else (revenantlaw05_PlaceBack.j0 k a1 true a0_0 a0_1 a0_2 a0_3 a0_4)) = some r := by rw [if_pos rfl] at H; exact H
          clear H
          have H := H1
          clear H1
          by_cases c18 : (!(t225 == a2_0) || (!(t226 == a2_1) || (!(t227 == a2_2)))) = true
          · rw [if_pos c18] at H
            have c18b0 : (!(t225 == a2_0) || (!(t226 == a2_1) || (!(t227 == a2_2)))) = true := c18
            clear c18
            (first | rw [c18b0] | (simp only [i64_w, i32_w]; rw [c18b0]) | skip)
            exact absurd ((Option.some.inj H).trans HR.out) (by decide)
          · rw [if_neg c18] at H
            have c18b0 : (!(t225 == a2_0) || (!(t226 == a2_1) || (!(t227 == a2_2)))) = false := by simpa using c18
            clear c18
            (first | rw [c18b0] | (simp only [i64_w, i32_w]; rw [c18b0]) | skip)
            have H' := Aside0.mk H
            clear H
            have hnb27 := NB220_221.out
            have hnc27 := NB221_220.out
            have hcz28_0 : w14.cell? ⟨gb220, 0, none⟩ = some (.int .i64 a0_0) := (blk_cell BK220.out 0).trans rfl
            have hcz28_1 : w14.cell? ⟨gb220, 1, none⟩ = some (.int .i64 a0_1) := (blk_cell BK220.out 1).trans rfl
            have hcz28_2 : w14.cell? ⟨gb220, 2, none⟩ = some (.int .i64 a0_2) := (blk_cell BK220.out 2).trans rfl
            have hcz28_3 : w14.cell? ⟨gb220, 3, none⟩ = some (.int .i64 a0_3) := (blk_cell BK220.out 3).trans rfl
            have hcz28_4 : w14.cell? ⟨gb220, 4, none⟩ = some (.int .i64 a0_4) := (blk_cell BK220.out 4).trans rfl
            have hfz28_0 := blk_frozen BK220.out 0
            have hfz28_1 := blk_frozen BK220.out 1
            have hfz28_2 := blk_frozen BK220.out 2
            have hfz28_3 := blk_frozen BK220.out 3
            have hfz28_4 := blk_frozen BK220.out 4
            go_wp2_with (first | ((with_reducible refine gate_callee (f := 17) rfl ?_); refine goesL_ (some 32) rfl rfl Tryd.func17 (by kernel_rfl) rfl #[.agg #[.int .i64 a0_0, .int .i64 a0_1, .int .i64 a0_2, .int .i64 a0_3, .int .i64 a0_4], .int .i64 t223] rfl (by (try simp only [List.map_toArray, List.map_cons, List.map_nil]); first | done | rfl | (simp only [List.length_drop, List.length_take]; rfl)) ?_; (with_reducible refine (place_At.calls k a0_0 a0_1 a0_2 a0_3 a0_4 t223 t225 t226 t227 true _ A16.out).mono ?_); rintro e w29 ⟨rfl, hb⟩; refine ⟨_, rfl, ?_⟩; have n0_ := Aside0.mk (blk_below (g := gb220) (o := .cells #[.int .i64 a0_0, .int .i64 a0_1, .int .i64 a0_2, .int .i64 a0_3, .int .i64 a0_4] 23 (0, 0)) (by (with_reducible repeat (first | refine blk_drewN ?_ _ | refine blk_drew ?_ | refine blk_alloc ?_ _)); exact BK220.out) hb); have n1_ := Aside0.mk (blk_below (g := gb221) (o := .cells #[.int .i64 a2_0, .int .i64 a2_1, .int .i64 a2_2] 25 (0, 0)) (by (with_reducible repeat (first | refine blk_drewN ?_ _ | refine blk_drew ?_ | refine blk_alloc ?_ _)); exact BK221.out) hb); have n2_ := Aside0.mk (below_step (by repeat (first | (with_reducible first | exact HB.out | apply below_alloc | apply pw_below_drewN | apply below_drew1 | refine below_set ?_ GE220.out | refine below_set ?_ GE221.out) | exact HB.out)) hb); clear BK220; clear BK221; clear HB; have BK220 := n0_; have BK221 := n1_; have HB := n2_; clear n0_ n1_ n2_; (try clear hb); (try clear hb2); (try clear hk); (try clear hi)) | ((with_reducible refine gate_dst (N := 9) rfl ?_); refine box_event ?hg (N := 9) ?hd (cs := #[.int .i64 0, .int .i64 0, .int .i64 0]) (t := 25) ?hr ?_; (case hd => rfl); (case hg => rfl); (case hr => first | (go_simp; done) | (go_simp; rfl)); intro gb229 hg w30 hbox hb; have n0_ := Aside0.mk (blk_below (g := gb220) (o := .cells #[.int .i64 a0_0, .int .i64 a0_1, .int .i64 a0_2, .int .i64 a0_3, .int .i64 a0_4] 23 (0, 0)) (by (with_reducible repeat (first | refine blk_drewN ?_ _ | refine blk_drew ?_ | refine blk_alloc ?_ _)); exact BK220.out) hb); have n1_ := Aside0.mk (blk_below (g := gb221) (o := .cells #[.int .i64 a2_0, .int .i64 a2_1, .int .i64 a2_2] 25 (0, 0)) (by (with_reducible repeat (first | refine blk_drewN ?_ _ | refine blk_drew ?_ | refine blk_alloc ?_ _)); exact BK221.out) hb); have n2_ := Aside0.mk (below_step (by repeat (first | (with_reducible first | exact HB.out | apply below_alloc | apply pw_below_drewN | apply below_drew1 | refine below_set ?_ GE220.out | refine below_set ?_ GE221.out) | exact HB.out)) hb); have n3_ := Aside0.mk (hbox); have n4_ := Aside0.mk ((by rw [hg]; exact (below_size (by repeat (first | (with_reducible first | exact HB.out | apply below_alloc | apply pw_below_drewN | apply below_drew1 | refine below_set ?_ GE220.out | refine below_set ?_ GE221.out) | exact HB.out))) : w.heap.size ≤ gb229)); have n5_ := Aside0.mk ((by rw [hg]; exact (below_size (by repeat (first | (with_reducible first | exact HB.out | apply below_alloc | apply pw_below_drewN | apply below_drew1 | refine below_set ?_ GE220.out | refine below_set ?_ GE221.out) | exact HB.out))) : w.heap.size ≤ gb229)); have n6_ := Aside0.mk ((by rw [hg]; exact Nat.ne_of_lt (blk_lt (g := gb220) (o := .cells #[.int .i64 a0_0, .int .i64 a0_1, .int .i64 a0_2, .int .i64 a0_3, .int .i64 a0_4] 23 (0, 0)) (by (with_reducible repeat (first | refine blk_drewN ?_ _ | refine blk_drew ?_ | refine blk_alloc ?_ _)); exact BK220.out)) : gb220 ≠ gb229)); have n7_ := Aside0.mk ((by rw [hg]; exact Nat.ne_of_gt (blk_lt (g := gb220) (o := .cells #[.int .i64 a0_0, .int .i64 a0_1, .int .i64 a0_2, .int .i64 a0_3, .int .i64 a0_4] 23 (0, 0)) (by (with_reducible repeat (first | refine blk_drewN ?_ _ | refine blk_drew ?_ | refine blk_alloc ?_ _)); exact BK220.out)) : gb229 ≠ gb220)); have n8_ := Aside0.mk ((by rw [hg]; exact Nat.ne_of_lt (blk_lt (g := gb221) (o := .cells #[.int .i64 a2_0, .int .i64 a2_1, .int .i64 a2_2] 25 (0, 0)) (by (with_reducible repeat (first | refine blk_drewN ?_ _ | refine blk_drew ?_ | refine blk_alloc ?_ _)); exact BK221.out)) : gb221 ≠ gb229)); have n9_ := Aside0.mk ((by rw [hg]; exact Nat.ne_of_gt (blk_lt (g := gb221) (o := .cells #[.int .i64 a2_0, .int .i64 a2_1, .int .i64 a2_2] 25 (0, 0)) (by (with_reducible repeat (first | refine blk_drewN ?_ _ | refine blk_drew ?_ | refine blk_alloc ?_ _)); exact BK221.out)) : gb229 ≠ gb221)); clear BK220; clear BK221; clear HB; have BK220 := n0_; have BK221 := n1_; have HB := n2_; have BK229 := n3_; have GW229 := n4_; have GE229 := n5_; have NB220_229 := n6_; have NB229_220 := n7_; have NB221_229 := n8_; have NB229_221 := n9_; clear n0_ n1_ n2_ n3_ n4_ n5_ n6_ n7_ n8_ n9_; clear hb hbox hg; have hnb31 := NB229_220.out; have hnc31 := NB220_229.out; have hnb32 := NB229_221.out; have hnc32 := NB221_229.out; have hcz33_0 : w30.cell? ⟨gb229, 0, none⟩ = some (.int .i64 0) := (blk_cell BK229.out 0).trans rfl; have hcz33_1 : w30.cell? ⟨gb229, 1, none⟩ = some (.int .i64 0) := (blk_cell BK229.out 1).trans rfl; have hcz33_2 : w30.cell? ⟨gb229, 2, none⟩ = some (.int .i64 0) := (blk_cell BK229.out 2).trans rfl; have hfz33_0 := blk_frozen BK229.out 0; have hfz33_1 := blk_frozen BK229.out 1; have hfz33_2 := blk_frozen BK229.out 2; have hcz34_0 : w30.cell? ⟨gb221, 0, none⟩ = some (.int .i64 a2_0) := (blk_cell BK221.out 0).trans rfl; have hcz34_1 : w30.cell? ⟨gb221, 1, none⟩ = some (.int .i64 a2_1) := (blk_cell BK221.out 1).trans rfl; have hcz34_2 : w30.cell? ⟨gb221, 2, none⟩ = some (.int .i64 a2_2) := (blk_cell BK221.out 2).trans rfl; have hfz34_0 := blk_frozen BK221.out 0; have hfz34_1 := blk_frozen BK221.out 1; have hfz34_2 := blk_frozen BK221.out 2))
            go_meet
            case rel => exact ⟨_, H', ⟨by first | omega | exact Nat.le_refl _⟩, ⟨by (with_reducible repeat (first | refine blk_drewN ?_ _ | refine blk_drew ?_ | refine blk_alloc ?_ _)); refine blk_far ?_ NB220_229.out _; (with_reducible repeat (first | refine blk_drewN ?_ _ | refine blk_drew ?_ | refine blk_alloc ?_ _)); refine blk_far ?_ NB220_229.out _; (with_reducible repeat (first | refine blk_drewN ?_ _ | refine blk_drew ?_ | refine blk_alloc ?_ _)); refine blk_far ?_ NB220_229.out _; (with_reducible repeat (first | refine blk_drewN ?_ _ | refine blk_drew ?_ | refine blk_alloc ?_ _)); exact BK220.out⟩, ⟨by (with_reducible repeat (first | refine blk_drewN ?_ _ | refine blk_drew ?_ | refine blk_alloc ?_ _)); refine blk_far ?_ NB221_229.out _; (with_reducible repeat (first | refine blk_drewN ?_ _ | refine blk_drew ?_ | refine blk_alloc ?_ _)); refine blk_far ?_ NB221_229.out _; (with_reducible repeat (first | refine blk_drewN ?_ _ | refine blk_drew ?_ | refine blk_alloc ?_ _)); refine blk_far ?_ NB221_229.out _; (with_reducible repeat (first | refine blk_drewN ?_ _ | refine blk_drew ?_ | refine blk_alloc ?_ _)); exact BK221.out⟩, ⟨by repeat (first | (with_reducible first | exact HB.out | apply below_alloc | apply pw_below_drewN | apply below_drew1 | refine below_set ?_ GE220.out | refine below_set ?_ GE221.out | refine below_set ?_ GE229.out) | exact HB.out)⟩⟩
        · replace c17 := Bool.eq_false_iff.mpr c17
          subst c17
          have H1 : (some false) = some r := by rw [if_neg (show ¬ (false = true) by decide)] at H; exact H
          clear H
          have H := H1
          clear H1
          exact absurd ((Option.some.inj H).trans HR.out) (by decide)
      · replace c15 := Bool.eq_false_iff.mpr c15
        subst c15
        have H1 : (revenantlaw05_PlaceBack.j0 k a1 false a0_0 a0_1 a0_2 a0_3 a0_4) = some r := by rw [if_neg (show ¬ (false = true) by decide)] at H; exact H
        clear H
        have H := H1
        clear H1
        have H' := Aside0.mk H
        clear H
        go_wp2
        go_meet
        case rel => exact ⟨_, H', ⟨by first | omega | exact Nat.le_refl _⟩, ⟨by (with_reducible repeat (first | refine blk_drewN ?_ _ | refine blk_drew ?_ | refine blk_alloc ?_ _)); exact BK220.out⟩, ⟨by (with_reducible repeat (first | refine blk_drewN ?_ _ | refine blk_drew ?_ | refine blk_alloc ?_ _)); exact BK221.out⟩, ⟨by repeat (first | (with_reducible first | exact HB.out | apply below_alloc | apply pw_below_drewN | apply below_drew1 | refine below_set ?_ GE220.out | refine below_set ?_ GE221.out) | exact HB.out)⟩⟩
    case rest =>
      clear HC7
      try clear c1
      try clear c2
      try clear p2
      try clear c3
      try clear c4
      try clear c5
      try clear c9
      try clear c11
      try clear c15
      try clear c17
      try clear c18
      try clear c18b0
      try clear c19
      try clear c23
      try clear c24
      try clear c27
      try clear c31
      try clear c32
      try clear c35
      try clear c39
      try clear c40
      try clear hcz12_0
      try clear hcz12_1
      try clear hcz12_2
      try clear hcz12_3
      try clear hcz12_4
      try clear hcz13_0
      try clear hcz13_1
      try clear hcz13_2
      try clear hcz20_0
      try clear hcz20_1
      try clear hcz20_2
      try clear hcz20_3
      try clear hcz20_4
      try clear hcz25_0
      try clear hcz25_1
      try clear hcz25_2
      try clear hcz26_0
      try clear hcz26_1
      try clear hcz26_2
      try clear hcz28_0
      try clear hcz28_1
      try clear hcz28_2
      try clear hcz28_3
      try clear hcz28_4
      try clear hcz33_0
      try clear hcz33_1
      try clear hcz33_2
      try clear hcz34_0
      try clear hcz34_1
      try clear hcz34_2
      try clear hcz36_0
      try clear hcz36_1
      try clear hcz36_2
      try clear hcz36_3
      try clear hcz36_4
      try clear hcz41_0
      try clear hcz41_1
      try clear hcz41_2
      try clear hfz12_0
      try clear hfz12_1
      try clear hfz12_2
      try clear hfz12_3
      try clear hfz12_4
      try clear hfz13_0
      try clear hfz13_1
      try clear hfz13_2
      try clear hfz20_0
      try clear hfz20_1
      try clear hfz20_2
      try clear hfz20_3
      try clear hfz20_4
      try clear hfz25_0
      try clear hfz25_1
      try clear hfz25_2
      try clear hfz26_0
      try clear hfz26_1
      try clear hfz26_2
      try clear hfz28_0
      try clear hfz28_1
      try clear hfz28_2
      try clear hfz28_3
      try clear hfz28_4
      try clear hfz33_0
      try clear hfz33_1
      try clear hfz33_2
      try clear hfz34_0
      try clear hfz34_1
      try clear hfz34_2
      try clear hfz36_0
      try clear hfz36_1
      try clear hfz36_2
      try clear hfz36_3
      try clear hfz36_4
      try clear hfz41_0
      try clear hfz41_1
      try clear hfz41_2
      obtain ⟨kq, HA, HJ6, BK220, BK221, HB⟩ := hcut
      cases kq with
      | zero => exact absurd HA.out (by simp [revenantlaw05_PlaceBack.j0])
      | succ kj6 =>
        have H := HA.out
        clear HA
        simp only [revenantlaw05_PlaceBack.j0] at H
        replace H := Option.bind_eq_some_iff.mp H
        obtain ⟨t230, A420, H⟩ := H
        replace H : (if t230 = 0 then (some (!t224)) else ((place_Count.f kj6 a0_0 a0_1 a0_2 a0_3 a0_4).bind fun t231 => (if (IntKind.u64.wrap (t231)) = 0 then (none) else ((place_At.f kj6 a0_0 a0_1 a0_2 a0_3 a0_4 (wrap64 (Int.tmod (IntKind.u64.wrap (a1)) (IntKind.u64.wrap (t231))))).bind fun bt232 => ((place_Number.f kj6 a0_0 a0_1 a0_2 a0_3 a0_4 bt232.1 bt232.2.1 bt232.2.2.1).bind fun bt237 => (if bt232.2.2.2 = true then (if bt237.2 = true then (revenantlaw05_PlaceBack.j1 kj6 (wrap64 (Int.tmod (IntKind.u64.wrap (a1)) (IntKind.u64.wrap (t231)))) ((wrap64 (Int.tmod (IntKind.u64.wrap (a1)) (IntKind.u64.wrap (t231)))) != bt237.1) a0_0 a0_1 a0_2 a0_3 a0_4 bt232.1 bt232.2.1 bt232.2.2.1) else (revenantlaw05_PlaceBack.j1 kj6 (wrap64 (Int.tmod (IntKind.u64.wrap (a1)) (IntKind.u64.wrap (t231)))) true a0_0 a0_1 a0_2 a0_3 a0_4 bt232.1 bt232.2.1 bt232.2.2.1)) else (revenantlaw05_PlaceBack.j1 kj6 (wrap64 (Int.tmod (IntKind.u64.wrap (a1)) (IntKind.u64.wrap (t231)))) true a0_0 a0_1 a0_2 a0_3 a0_4 bt232.1 bt232.2.1 bt232.2.2.1))))))) = some r := H
        have A42 := Aside0.mk A420
        clear A420
        by_cases c43 : t230 = 0
        · rw [if_pos c43] at H
          have c43b0 : (t230 == 0) = true := beq_iff_eq.mpr c43
          have c43b1 : (t230 != 0) = false := bne_eq_false_iff_eq.mpr c43
          clear c43
          obtain rfl := Option.some.inj H
          have hnb44 := NB220_221.out
          have hnc44 := NB221_220.out
          have hcz45_0 : wc.cell? ⟨gb220, 0, none⟩ = some (.int .i64 a0_0) := (blk_cell BK220.out 0).trans rfl
          have hcz45_1 : wc.cell? ⟨gb220, 1, none⟩ = some (.int .i64 a0_1) := (blk_cell BK220.out 1).trans rfl
          have hcz45_2 : wc.cell? ⟨gb220, 2, none⟩ = some (.int .i64 a0_2) := (blk_cell BK220.out 2).trans rfl
          have hcz45_3 : wc.cell? ⟨gb220, 3, none⟩ = some (.int .i64 a0_3) := (blk_cell BK220.out 3).trans rfl
          have hcz45_4 : wc.cell? ⟨gb220, 4, none⟩ = some (.int .i64 a0_4) := (blk_cell BK220.out 4).trans rfl
          have hfz45_0 := blk_frozen BK220.out 0
          have hfz45_1 := blk_frozen BK220.out 1
          have hfz45_2 := blk_frozen BK220.out 2
          have hfz45_3 := blk_frozen BK220.out 3
          have hfz45_4 := blk_frozen BK220.out 4
          go_wp2_with (first | ((with_reducible refine gate_callee (f := 18) rfl ?_); refine goesL_ (some 43) rfl rfl Tryd.func18 (by kernel_rfl) rfl #[.agg #[.int .i64 a0_0, .int .i64 a0_1, .int .i64 a0_2, .int .i64 a0_3, .int .i64 a0_4]] rfl (by (try simp only [List.map_toArray, List.map_cons, List.map_nil]); first | done | rfl | (simp only [List.length_drop, List.length_take]; rfl)) ?_; (with_reducible refine (place_Count.calls kj6 a0_0 a0_1 a0_2 a0_3 a0_4 t230 _ A42.out).mono ?_); rintro e w46 ⟨rfl, hb⟩; refine ⟨_, rfl, ?_⟩; have n0_ := Aside0.mk (blk_below (g := gb220) (o := .cells #[.int .i64 a0_0, .int .i64 a0_1, .int .i64 a0_2, .int .i64 a0_3, .int .i64 a0_4] 23 (0, 0)) (by (with_reducible repeat (first | refine blk_drewN ?_ _ | refine blk_drew ?_ | refine blk_alloc ?_ _)); exact BK220.out) hb); have n1_ := Aside0.mk (blk_below (g := gb221) (o := .cells #[.int .i64 a2_0, .int .i64 a2_1, .int .i64 a2_2] 25 (0, 0)) (by (with_reducible repeat (first | refine blk_drewN ?_ _ | refine blk_drew ?_ | refine blk_alloc ?_ _)); exact BK221.out) hb); have n2_ := Aside0.mk (below_step (by repeat (first | (with_reducible first | exact HB.out | apply below_alloc | apply pw_below_drewN | apply below_drew1 | refine below_set ?_ GE220.out | refine below_set ?_ GE221.out) | exact HB.out)) hb); clear BK220; clear BK221; clear HB; have BK220 := n0_; have BK221 := n1_; have HB := n2_; clear n0_ n1_ n2_; (try clear hb); (try clear hb2); (try clear hk); (try clear hi)))
          go_ret
          exact ⟨by first | rfl | (simp [errW_none, errW_some] <;> rfl) | (simp [*, errW_none, errW_some] <;> rfl), by repeat (first | (with_reducible first | exact HB.out | apply below_alloc | apply pw_below_drewN | apply below_drew1 | refine below_set ?_ GE220.out | refine below_set ?_ GE221.out) | exact HB.out)⟩
        · rw [if_neg c43] at H
          have c43b0 : (t230 == 0) = false := beq_eq_false_iff_ne.mpr c43
          have c43b1 : (t230 != 0) = true := bne_iff_ne.mpr c43
          replace H := Option.bind_eq_some_iff.mp H
          obtain ⟨t231, A470, H⟩ := H
          replace H : (if (IntKind.u64.wrap (t231)) = 0 then (none) else ((place_At.f kj6 a0_0 a0_1 a0_2 a0_3 a0_4 (wrap64 (Int.tmod (IntKind.u64.wrap (a1)) (IntKind.u64.wrap (t231))))).bind fun bt232 => ((place_Number.f kj6 a0_0 a0_1 a0_2 a0_3 a0_4 bt232.1 bt232.2.1 bt232.2.2.1).bind fun bt237 => (if bt232.2.2.2 = true then (if bt237.2 = true then (revenantlaw05_PlaceBack.j1 kj6 (wrap64 (Int.tmod (IntKind.u64.wrap (a1)) (IntKind.u64.wrap (t231)))) ((wrap64 (Int.tmod (IntKind.u64.wrap (a1)) (IntKind.u64.wrap (t231)))) != bt237.1) a0_0 a0_1 a0_2 a0_3 a0_4 bt232.1 bt232.2.1 bt232.2.2.1) else (revenantlaw05_PlaceBack.j1 kj6 (wrap64 (Int.tmod (IntKind.u64.wrap (a1)) (IntKind.u64.wrap (t231)))) true a0_0 a0_1 a0_2 a0_3 a0_4 bt232.1 bt232.2.1 bt232.2.2.1)) else (revenantlaw05_PlaceBack.j1 kj6 (wrap64 (Int.tmod (IntKind.u64.wrap (a1)) (IntKind.u64.wrap (t231)))) true a0_0 a0_1 a0_2 a0_3 a0_4 bt232.1 bt232.2.1 bt232.2.2.1))))) = some r := H
          have A47 := Aside0.mk A470
          clear A470
          by_cases c48 : (IntKind.u64.wrap (t231)) = 0
          · rw [if_pos c48] at H
            exact absurd H (by simp)
          · rw [if_neg c48] at H
            have c48b0 : ((IntKind.u64.wrap (t231)) == 0) = false := beq_eq_false_iff_ne.mpr c48
            have c48b1 : ((IntKind.u64.wrap (t231)) != 0) = true := bne_iff_ne.mpr c48
            replace H := Option.bind_eq_some_iff.mp H
            obtain ⟨⟨t232, t233, t234, t235⟩, A490, H⟩ := H
            replace H : ((place_Number.f kj6 a0_0 a0_1 a0_2 a0_3 a0_4 t232 t233 t234).bind fun bt237 => (if t235 = true then (if bt237.2 = true then (revenantlaw05_PlaceBack.j1 kj6 (wrap64 (Int.tmod (IntKind.u64.wrap (a1)) (IntKind.u64.wrap (t231)))) ((wrap64 (Int.tmod (IntKind.u64.wrap (a1)) (IntKind.u64.wrap (t231)))) != bt237.1) a0_0 a0_1 a0_2 a0_3 a0_4 t232 t233 t234) else (revenantlaw05_PlaceBack.j1 kj6 (wrap64 (Int.tmod (IntKind.u64.wrap (a1)) (IntKind.u64.wrap (t231)))) true a0_0 a0_1 a0_2 a0_3 a0_4 t232 t233 t234)) else (revenantlaw05_PlaceBack.j1 kj6 (wrap64 (Int.tmod (IntKind.u64.wrap (a1)) (IntKind.u64.wrap (t231)))) true a0_0 a0_1 a0_2 a0_3 a0_4 t232 t233 t234))) = some r := H
            have A49 := Aside0.mk A490
            clear A490
            replace H := Option.bind_eq_some_iff.mp H
            obtain ⟨⟨t237, t238⟩, A500, H⟩ := H
            replace H : (if t235 = true then (if t238 = true then (revenantlaw05_PlaceBack.j1 kj6 (wrap64 (Int.tmod (IntKind.u64.wrap (a1)) (IntKind.u64.wrap (t231)))) ((wrap64 (Int.tmod (IntKind.u64.wrap (a1)) (IntKind.u64.wrap (t231)))) != t237) a0_0 a0_1 a0_2 a0_3 a0_4 t232 t233 t234) else (revenantlaw05_PlaceBack.j1 kj6 (wrap64 (Int.tmod (IntKind.u64.wrap (a1)) (IntKind.u64.wrap (t231)))) true a0_0 a0_1 a0_2 a0_3 a0_4 t232 t233 t234)) else (revenantlaw05_PlaceBack.j1 kj6 (wrap64 (Int.tmod (IntKind.u64.wrap (a1)) (IntKind.u64.wrap (t231)))) true a0_0 a0_1 a0_2 a0_3 a0_4 t232 t233 t234)) = some r := H
            have A50 := Aside0.mk A500
            clear A500
            have HC51 := Aside0.mk H
            clear H
            have hnb52 := NB220_221.out
            have hnc52 := NB221_220.out
            have hcz53_0 : wc.cell? ⟨gb220, 0, none⟩ = some (.int .i64 a0_0) := (blk_cell BK220.out 0).trans rfl
            have hcz53_1 : wc.cell? ⟨gb220, 1, none⟩ = some (.int .i64 a0_1) := (blk_cell BK220.out 1).trans rfl
            have hcz53_2 : wc.cell? ⟨gb220, 2, none⟩ = some (.int .i64 a0_2) := (blk_cell BK220.out 2).trans rfl
            have hcz53_3 : wc.cell? ⟨gb220, 3, none⟩ = some (.int .i64 a0_3) := (blk_cell BK220.out 3).trans rfl
            have hcz53_4 : wc.cell? ⟨gb220, 4, none⟩ = some (.int .i64 a0_4) := (blk_cell BK220.out 4).trans rfl
            have hfz53_0 := blk_frozen BK220.out 0
            have hfz53_1 := blk_frozen BK220.out 1
            have hfz53_2 := blk_frozen BK220.out 2
            have hfz53_3 := blk_frozen BK220.out 3
            have hfz53_4 := blk_frozen BK220.out 4
            go_upto_region 13 with (first | ((with_reducible refine gate_callee (f := 18) rfl ?_); refine goesL_ (some 43) rfl rfl Tryd.func18 (by kernel_rfl) rfl #[.agg #[.int .i64 a0_0, .int .i64 a0_1, .int .i64 a0_2, .int .i64 a0_3, .int .i64 a0_4]] rfl (by (try simp only [List.map_toArray, List.map_cons, List.map_nil]); first | done | rfl | (simp only [List.length_drop, List.length_take]; rfl)) ?_; (with_reducible refine (place_Count.calls kj6 a0_0 a0_1 a0_2 a0_3 a0_4 t230 _ A42.out).mono ?_); rintro e w54 ⟨rfl, hb⟩; refine ⟨_, rfl, ?_⟩; have n0_ := Aside0.mk (blk_below (g := gb220) (o := .cells #[.int .i64 a0_0, .int .i64 a0_1, .int .i64 a0_2, .int .i64 a0_3, .int .i64 a0_4] 23 (0, 0)) (by (with_reducible repeat (first | refine blk_drewN ?_ _ | refine blk_drew ?_ | refine blk_alloc ?_ _)); exact BK220.out) hb); have n1_ := Aside0.mk (blk_below (g := gb221) (o := .cells #[.int .i64 a2_0, .int .i64 a2_1, .int .i64 a2_2] 25 (0, 0)) (by (with_reducible repeat (first | refine blk_drewN ?_ _ | refine blk_drew ?_ | refine blk_alloc ?_ _)); exact BK221.out) hb); have n2_ := Aside0.mk (below_step (by repeat (first | (with_reducible first | exact HB.out | apply below_alloc | apply pw_below_drewN | apply below_drew1 | refine below_set ?_ GE220.out | refine below_set ?_ GE221.out) | exact HB.out)) hb); clear BK220; clear BK221; clear HB; have BK220 := n0_; have BK221 := n1_; have HB := n2_; clear n0_ n1_ n2_; (try clear hb); (try clear hb2); (try clear hk); (try clear hi); have hcz55_0 : w54.cell? ⟨gb220, 0, none⟩ = some (.int .i64 a0_0) := (blk_cell BK220.out 0).trans rfl; have hcz55_1 : w54.cell? ⟨gb220, 1, none⟩ = some (.int .i64 a0_1) := (blk_cell BK220.out 1).trans rfl; have hcz55_2 : w54.cell? ⟨gb220, 2, none⟩ = some (.int .i64 a0_2) := (blk_cell BK220.out 2).trans rfl; have hcz55_3 : w54.cell? ⟨gb220, 3, none⟩ = some (.int .i64 a0_3) := (blk_cell BK220.out 3).trans rfl; have hcz55_4 : w54.cell? ⟨gb220, 4, none⟩ = some (.int .i64 a0_4) := (blk_cell BK220.out 4).trans rfl; have hfz55_0 := blk_frozen BK220.out 0; have hfz55_1 := blk_frozen BK220.out 1; have hfz55_2 := blk_frozen BK220.out 2; have hfz55_3 := blk_frozen BK220.out 3; have hfz55_4 := blk_frozen BK220.out 4) | ((with_reducible refine gate_callee (f := 18) rfl ?_); refine goesL_ (some 50) rfl rfl Tryd.func18 (by kernel_rfl) rfl #[.agg #[.int .i64 a0_0, .int .i64 a0_1, .int .i64 a0_2, .int .i64 a0_3, .int .i64 a0_4]] rfl (by (try simp only [List.map_toArray, List.map_cons, List.map_nil]); first | done | rfl | (simp only [List.length_drop, List.length_take]; rfl)) ?_; (with_reducible refine (place_Count.calls kj6 a0_0 a0_1 a0_2 a0_3 a0_4 t231 _ A47.out).mono ?_); rintro e w56 ⟨rfl, hb⟩; refine ⟨_, rfl, ?_⟩; have n0_ := Aside0.mk (blk_below (g := gb220) (o := .cells #[.int .i64 a0_0, .int .i64 a0_1, .int .i64 a0_2, .int .i64 a0_3, .int .i64 a0_4] 23 (0, 0)) (by (with_reducible repeat (first | refine blk_drewN ?_ _ | refine blk_drew ?_ | refine blk_alloc ?_ _)); exact BK220.out) hb); have n1_ := Aside0.mk (blk_below (g := gb221) (o := .cells #[.int .i64 a2_0, .int .i64 a2_1, .int .i64 a2_2] 25 (0, 0)) (by (with_reducible repeat (first | refine blk_drewN ?_ _ | refine blk_drew ?_ | refine blk_alloc ?_ _)); exact BK221.out) hb); have n2_ := Aside0.mk (below_step (by repeat (first | (with_reducible first | exact HB.out | apply below_alloc | apply pw_below_drewN | apply below_drew1 | refine below_set ?_ GE220.out | refine below_set ?_ GE221.out) | exact HB.out)) hb); clear BK220; clear BK221; clear HB; have BK220 := n0_; have BK221 := n1_; have HB := n2_; clear n0_ n1_ n2_; (try clear hb); (try clear hb2); (try clear hk); (try clear hi); have hcz57_0 : w56.cell? ⟨gb220, 0, none⟩ = some (.int .i64 a0_0) := (blk_cell BK220.out 0).trans rfl; have hcz57_1 : w56.cell? ⟨gb220, 1, none⟩ = some (.int .i64 a0_1) := (blk_cell BK220.out 1).trans rfl; have hcz57_2 : w56.cell? ⟨gb220, 2, none⟩ = some (.int .i64 a0_2) := (blk_cell BK220.out 2).trans rfl; have hcz57_3 : w56.cell? ⟨gb220, 3, none⟩ = some (.int .i64 a0_3) := (blk_cell BK220.out 3).trans rfl; have hcz57_4 : w56.cell? ⟨gb220, 4, none⟩ = some (.int .i64 a0_4) := (blk_cell BK220.out 4).trans rfl; have hfz57_0 := blk_frozen BK220.out 0; have hfz57_1 := blk_frozen BK220.out 1; have hfz57_2 := blk_frozen BK220.out 2; have hfz57_3 := blk_frozen BK220.out 3; have hfz57_4 := blk_frozen BK220.out 4) | ((with_reducible refine gate_callee (f := 17) rfl ?_); refine goesL_ (some 57) rfl rfl Tryd.func17 (by kernel_rfl) rfl #[.agg #[.int .i64 a0_0, .int .i64 a0_1, .int .i64 a0_2, .int .i64 a0_3, .int .i64 a0_4], .int .i64 (wrap64 (Int.tmod (IntKind.u64.wrap (a1)) (IntKind.u64.wrap (t231))))] rfl (by (try simp only [List.map_toArray, List.map_cons, List.map_nil]); first | done | rfl | (simp only [List.length_drop, List.length_take]; rfl)) ?_; (with_reducible refine (place_At.calls kj6 a0_0 a0_1 a0_2 a0_3 a0_4 (wrap64 (Int.tmod (IntKind.u64.wrap (a1)) (IntKind.u64.wrap (t231)))) t232 t233 t234 t235 _ A49.out).mono ?_); rintro e w58 ⟨rfl, hb⟩; refine ⟨_, rfl, ?_⟩; have n0_ := Aside0.mk (blk_below (g := gb220) (o := .cells #[.int .i64 a0_0, .int .i64 a0_1, .int .i64 a0_2, .int .i64 a0_3, .int .i64 a0_4] 23 (0, 0)) (by (with_reducible repeat (first | refine blk_drewN ?_ _ | refine blk_drew ?_ | refine blk_alloc ?_ _)); exact BK220.out) hb); have n1_ := Aside0.mk (blk_below (g := gb221) (o := .cells #[.int .i64 a2_0, .int .i64 a2_1, .int .i64 a2_2] 25 (0, 0)) (by (with_reducible repeat (first | refine blk_drewN ?_ _ | refine blk_drew ?_ | refine blk_alloc ?_ _)); exact BK221.out) hb); have n2_ := Aside0.mk (below_step (by repeat (first | (with_reducible first | exact HB.out | apply below_alloc | apply pw_below_drewN | apply below_drew1 | refine below_set ?_ GE220.out | refine below_set ?_ GE221.out) | exact HB.out)) hb); clear BK220; clear BK221; clear HB; have BK220 := n0_; have BK221 := n1_; have HB := n2_; clear n0_ n1_ n2_; (try clear hb); (try clear hb2); (try clear hk); (try clear hi)) | ((with_reducible refine gate_dst (N := 12) rfl ?_); refine box_event ?hg (N := 12) ?hd (cs := #[.int .i64 0, .int .i64 0, .int .i64 0]) (t := 25) ?hr ?_; (case hd => rfl); (case hg => rfl); (case hr => first | (go_simp; done) | (go_simp; rfl)); intro gb236 hg w59 hbox hb; have n0_ := Aside0.mk (blk_below (g := gb220) (o := .cells #[.int .i64 a0_0, .int .i64 a0_1, .int .i64 a0_2, .int .i64 a0_3, .int .i64 a0_4] 23 (0, 0)) (by (with_reducible repeat (first | refine blk_drewN ?_ _ | refine blk_drew ?_ | refine blk_alloc ?_ _)); exact BK220.out) hb); have n1_ := Aside0.mk (blk_below (g := gb221) (o := .cells #[.int .i64 a2_0, .int .i64 a2_1, .int .i64 a2_2] 25 (0, 0)) (by (with_reducible repeat (first | refine blk_drewN ?_ _ | refine blk_drew ?_ | refine blk_alloc ?_ _)); exact BK221.out) hb); have n2_ := Aside0.mk (below_step (by repeat (first | (with_reducible first | exact HB.out | apply below_alloc | apply pw_below_drewN | apply below_drew1 | refine below_set ?_ GE220.out | refine below_set ?_ GE221.out) | exact HB.out)) hb); have n3_ := Aside0.mk (hbox); have n4_ := Aside0.mk ((by rw [hg]; exact (below_size (by repeat (first | (with_reducible first | exact HB.out | apply below_alloc | apply pw_below_drewN | apply below_drew1 | refine below_set ?_ GE220.out | refine below_set ?_ GE221.out) | exact HB.out))) : w.heap.size ≤ gb236)); have n5_ := Aside0.mk ((by rw [hg]; exact (below_size (by repeat (first | (with_reducible first | exact HB.out | apply below_alloc | apply pw_below_drewN | apply below_drew1 | refine below_set ?_ GE220.out | refine below_set ?_ GE221.out) | exact HB.out))) : w.heap.size ≤ gb236)); have n6_ := Aside0.mk ((by rw [hg]; exact Nat.ne_of_lt (blk_lt (g := gb220) (o := .cells #[.int .i64 a0_0, .int .i64 a0_1, .int .i64 a0_2, .int .i64 a0_3, .int .i64 a0_4] 23 (0, 0)) (by (with_reducible repeat (first | refine blk_drewN ?_ _ | refine blk_drew ?_ | refine blk_alloc ?_ _)); exact BK220.out)) : gb220 ≠ gb236)); have n7_ := Aside0.mk ((by rw [hg]; exact Nat.ne_of_gt (blk_lt (g := gb220) (o := .cells #[.int .i64 a0_0, .int .i64 a0_1, .int .i64 a0_2, .int .i64 a0_3, .int .i64 a0_4] 23 (0, 0)) (by (with_reducible repeat (first | refine blk_drewN ?_ _ | refine blk_drew ?_ | refine blk_alloc ?_ _)); exact BK220.out)) : gb236 ≠ gb220)); have n8_ := Aside0.mk ((by rw [hg]; exact Nat.ne_of_lt (blk_lt (g := gb221) (o := .cells #[.int .i64 a2_0, .int .i64 a2_1, .int .i64 a2_2] 25 (0, 0)) (by (with_reducible repeat (first | refine blk_drewN ?_ _ | refine blk_drew ?_ | refine blk_alloc ?_ _)); exact BK221.out)) : gb221 ≠ gb236)); have n9_ := Aside0.mk ((by rw [hg]; exact Nat.ne_of_gt (blk_lt (g := gb221) (o := .cells #[.int .i64 a2_0, .int .i64 a2_1, .int .i64 a2_2] 25 (0, 0)) (by (with_reducible repeat (first | refine blk_drewN ?_ _ | refine blk_drew ?_ | refine blk_alloc ?_ _)); exact BK221.out)) : gb236 ≠ gb221)); clear BK220; clear BK221; clear HB; have BK220 := n0_; have BK221 := n1_; have HB := n2_; have BK236 := n3_; have GW236 := n4_; have GE236 := n5_; have NB220_236 := n6_; have NB236_220 := n7_; have NB221_236 := n8_; have NB236_221 := n9_; clear n0_ n1_ n2_ n3_ n4_ n5_ n6_ n7_ n8_ n9_; clear hb hbox hg; have hnb60 := NB236_220.out; have hnc60 := NB220_236.out; have hnb61 := NB236_221.out; have hnc61 := NB221_236.out; have hcz62_0 : w59.cell? ⟨gb236, 0, none⟩ = some (.int .i64 0) := (blk_cell BK236.out 0).trans rfl; have hcz62_1 : w59.cell? ⟨gb236, 1, none⟩ = some (.int .i64 0) := (blk_cell BK236.out 1).trans rfl; have hcz62_2 : w59.cell? ⟨gb236, 2, none⟩ = some (.int .i64 0) := (blk_cell BK236.out 2).trans rfl; have hfz62_0 := blk_frozen BK236.out 0; have hfz62_1 := blk_frozen BK236.out 1; have hfz62_2 := blk_frozen BK236.out 2; have hcz63_0 : w59.cell? ⟨gb220, 0, none⟩ = some (.int .i64 a0_0) := (blk_cell BK220.out 0).trans rfl; have hcz63_1 : w59.cell? ⟨gb220, 1, none⟩ = some (.int .i64 a0_1) := (blk_cell BK220.out 1).trans rfl; have hcz63_2 : w59.cell? ⟨gb220, 2, none⟩ = some (.int .i64 a0_2) := (blk_cell BK220.out 2).trans rfl; have hcz63_3 : w59.cell? ⟨gb220, 3, none⟩ = some (.int .i64 a0_3) := (blk_cell BK220.out 3).trans rfl; have hcz63_4 : w59.cell? ⟨gb220, 4, none⟩ = some (.int .i64 a0_4) := (blk_cell BK220.out 4).trans rfl; have hfz63_0 := blk_frozen BK220.out 0; have hfz63_1 := blk_frozen BK220.out 1; have hfz63_2 := blk_frozen BK220.out 2; have hfz63_3 := blk_frozen BK220.out 3; have hfz63_4 := blk_frozen BK220.out 4) | ((with_reducible refine gate_callee (f := 11) rfl ?_); refine goesL_ (some 63) rfl rfl Tryd.func11 (by kernel_rfl) rfl #[.agg #[.int .i64 a0_0, .int .i64 a0_1, .int .i64 a0_2, .int .i64 a0_3, .int .i64 a0_4], .agg #[.int .i64 t232, .int .i64 t233, .int .i64 t234]] rfl (by (try simp only [List.map_toArray, List.map_cons, List.map_nil]); first | done | rfl | (simp only [List.length_drop, List.length_take]; rfl)) ?_; (with_reducible refine (place_Number.calls kj6 a0_0 a0_1 a0_2 a0_3 a0_4 t232 t233 t234 t237 t238 _ A50.out).mono ?_); rintro e w64 ⟨rfl, hb⟩; refine ⟨_, rfl, ?_⟩; have n0_ := Aside0.mk (blk_below (g := gb220) (o := .cells #[.int .i64 a0_0, .int .i64 a0_1, .int .i64 a0_2, .int .i64 a0_3, .int .i64 a0_4] 23 (0, 0)) (by (with_reducible repeat (first | refine blk_drewN ?_ _ | refine blk_drew ?_ | refine blk_alloc ?_ _)); refine blk_far ?_ NB220_236.out _; (with_reducible repeat (first | refine blk_drewN ?_ _ | refine blk_drew ?_ | refine blk_alloc ?_ _)); refine blk_far ?_ NB220_236.out _; (with_reducible repeat (first | refine blk_drewN ?_ _ | refine blk_drew ?_ | refine blk_alloc ?_ _)); refine blk_far ?_ NB220_236.out _; (with_reducible repeat (first | refine blk_drewN ?_ _ | refine blk_drew ?_ | refine blk_alloc ?_ _)); exact BK220.out) hb); have n1_ := Aside0.mk (blk_below (g := gb221) (o := .cells #[.int .i64 a2_0, .int .i64 a2_1, .int .i64 a2_2] 25 (0, 0)) (by (with_reducible repeat (first | refine blk_drewN ?_ _ | refine blk_drew ?_ | refine blk_alloc ?_ _)); refine blk_far ?_ NB221_236.out _; (with_reducible repeat (first | refine blk_drewN ?_ _ | refine blk_drew ?_ | refine blk_alloc ?_ _)); refine blk_far ?_ NB221_236.out _; (with_reducible repeat (first | refine blk_drewN ?_ _ | refine blk_drew ?_ | refine blk_alloc ?_ _)); refine blk_far ?_ NB221_236.out _; (with_reducible repeat (first | refine blk_drewN ?_ _ | refine blk_drew ?_ | refine blk_alloc ?_ _)); exact BK221.out) hb); have n2_ := Aside0.mk (blk_below (g := gb236) (o := .cells #[.int .i64 t232, .int .i64 t233, .int .i64 t234] 25 (0, 0)) (by (with_reducible repeat (first | refine blk_drewN ?_ _ | refine blk_drew ?_ | refine blk_alloc ?_ _)); refine blk_put (cs := #[.int .i64 t232, .int .i64 t233, .int .i64 0]) ?_ 2 _ rfl; (with_reducible repeat (first | refine blk_drewN ?_ _ | refine blk_drew ?_ | refine blk_alloc ?_ _)); refine blk_put (cs := #[.int .i64 t232, .int .i64 0, .int .i64 0]) ?_ 1 _ rfl; (with_reducible repeat (first | refine blk_drewN ?_ _ | refine blk_drew ?_ | refine blk_alloc ?_ _)); refine blk_put (cs := #[.int .i64 0, .int .i64 0, .int .i64 0]) ?_ 0 _ rfl; (with_reducible repeat (first | refine blk_drewN ?_ _ | refine blk_drew ?_ | refine blk_alloc ?_ _)); exact BK236.out) hb); have n3_ := Aside0.mk (below_step (by repeat (first | (with_reducible first | exact HB.out | apply below_alloc | apply pw_below_drewN | apply below_drew1 | refine below_set ?_ GE220.out | refine below_set ?_ GE221.out | refine below_set ?_ GE236.out) | exact HB.out)) hb); clear BK220; clear BK221; clear BK236; clear HB; have BK220 := n0_; have BK221 := n1_; have BK236 := n2_; have HB := n3_; clear n0_ n1_ n2_ n3_; (try clear hb); (try clear hb2); (try clear hk); (try clear hi)))
            (try simp only [Act.put, List.setIfInBounds_toArray, List.set_cons_zero, List.set_cons_succ])
            go_cut [76] (fun v76 wc => ∃ (kq : Nat) (x76_50 : Bool), v76 = .bool x76_50 ∧ Aside0 (revenantlaw05_PlaceBack.j1 kq (wrap64 (Int.tmod (IntKind.u64.wrap (a1)) (IntKind.u64.wrap (t231)))) x76_50 a0_0 a0_1 a0_2 a0_3 a0_4 t232 t233 t234 = some r) ∧ Aside0 (kq ≤ kj6) ∧ Aside0 (wc.heap[gb220]? = some (.cells #[.int .i64 a0_0, .int .i64 a0_1, .int .i64 a0_2, .int .i64 a0_3, .int .i64 a0_4] 23 (0, 0))) ∧ Aside0 (wc.heap[gb221]? = some (.cells #[.int .i64 a2_0, .int .i64 a2_1, .int .i64 a2_2] 25 (0, 0))) ∧ Aside0 (wc.heap[gb236]? = some (.cells #[.int .i64 t232, .int .i64 t233, .int .i64 t234] 25 (0, 0))) ∧ Aside0 (Below w.heap.size w wc))
            case first =>
              have H := HC51.out
              clear HC51
              by_cases c65 : t235 = true
              · subst c65
                have H1 : (if t238 = true then (revenantlaw05_PlaceBack.j1 kj6 (wrap64 (Int.tmod (IntKind.u64.wrap (a1)) (IntKind.u64.wrap (t231)))) ((wrap64 (Int.tmod (IntKind.u64.wrap (a1)) (IntKind.u64.wrap (t231)))) != t237) a0_0 a0_1 a0_2 a0_3 a0_4 t232 t233 t234) else (revenantlaw05_PlaceBack.j1 kj6 (wrap64 (Int.tmod (IntKind.u64.wrap (a1)) (IntKind.u64.wrap (t231)))) true a0_0 a0_1 a0_2 a0_3 a0_4 t232 t233 t234)) = some r := by rw [if_pos rfl] at H; exact H
                clear H
                have H := H1
                clear H1
                by_cases c66 : t238 = true
                · subst c66
                  have H1 : (revenantlaw05_PlaceBack.j1 kj6 (wrap64 (Int.tmod (IntKind.u64.wrap (a1)) (IntKind.u64.wrap (t231)))) ((wrap64 (Int.tmod (IntKind.u64.wrap (a1)) (IntKind.u64.wrap (t231)))) != t237) a0_0 a0_1 a0_2 a0_3 a0_4 t232 t233 t234) = some r := by rw [if_pos rfl] at H; exact H
                  clear H
                  have H := H1
                  clear H1
                  have H' := Aside0.mk H
                  clear H
                  go_wp2
                  go_meet
                  case rel => exact ⟨_, (((wrap64 (Int.tmod (IntKind.u64.wrap (a1)) (IntKind.u64.wrap (t231)))) != t237)), (by first | rfl | (simp; done) | (simp [*]; done)), H', ⟨by have := HJ6.out; first | omega | exact Nat.le_refl _⟩, ⟨by (with_reducible repeat (first | refine blk_drewN ?_ _ | refine blk_drew ?_ | refine blk_alloc ?_ _)); exact BK220.out⟩, ⟨by (with_reducible repeat (first | refine blk_drewN ?_ _ | refine blk_drew ?_ | refine blk_alloc ?_ _)); exact BK221.out⟩, ⟨by (with_reducible repeat (first | refine blk_drewN ?_ _ | refine blk_drew ?_ | refine blk_alloc ?_ _)); exact BK236.out⟩, ⟨by repeat (first | (with_reducible first | exact HB.out | apply below_alloc | apply pw_below_drewN | apply below_drew1 | refine below_set ?_ GE220.out | refine below_set ?_ GE221.out | refine below_set ?_ GE236.out) | exact HB.out)⟩⟩
                · replace c66 := Bool.eq_false_iff.mpr c66
                  subst c66
                  have H1 : (revenantlaw05_PlaceBack.j1 kj6 (wrap64 (Int.tmod (IntKind.u64.wrap (a1)) (IntKind.u64.wrap (t231)))) true a0_0 a0_1 a0_2 a0_3 a0_4 t232 t233 t234) = some r := by rw [if_neg (show ¬ (false = true) by decide)] at H; exact H
                  clear H
                  have H := H1
                  clear H1
                  exact absurd ((revenantlaw05_PlaceBack.j1_no H).symm.trans HR.out) (by decide)
              · replace c65 := Bool.eq_false_iff.mpr c65
                subst c65
                have H1 : (revenantlaw05_PlaceBack.j1 kj6 (wrap64 (Int.tmod (IntKind.u64.wrap (a1)) (IntKind.u64.wrap (t231)))) true a0_0 a0_1 a0_2 a0_3 a0_4 t232 t233 t234) = some r := by rw [if_neg (show ¬ (false = true) by decide)] at H; exact H
                clear H
                have H := H1
                clear H1
                exact absurd ((revenantlaw05_PlaceBack.j1_no H).symm.trans HR.out) (by decide)
            case rest =>
              clear HC51
              try clear c1
              try clear c2
              try clear p2
              try clear c3
              try clear c4
              try clear c5
              try clear c6
              try clear p6
              try clear c9
              try clear c11
              try clear c15
              try clear c17
              try clear c18
              try clear c18b0
              try clear c19
              try clear c23
              try clear c24
              try clear c27
              try clear c31
              try clear c32
              try clear c35
              try clear c39
              try clear c40
              try clear c43
              try clear c43b0
              try clear c43b1
              try clear c44
              try clear c48
              try clear c48b0
              try clear c48b1
              try clear c52
              try clear c60
              try clear c61
              try clear p64
              try clear c65
              try clear c66
              try clear hcz12_0
              try clear hcz12_1
              try clear hcz12_2
              try clear hcz12_3
              try clear hcz12_4
              try clear hcz13_0
              try clear hcz13_1
              try clear hcz13_2
              try clear hcz20_0
              try clear hcz20_1
              try clear hcz20_2
              try clear hcz20_3
              try clear hcz20_4
              try clear hcz25_0
              try clear hcz25_1
              try clear hcz25_2
              try clear hcz26_0
              try clear hcz26_1
              try clear hcz26_2
              try clear hcz28_0
              try clear hcz28_1
              try clear hcz28_2
              try clear hcz28_3
              try clear hcz28_4
              try clear hcz33_0
              try clear hcz33_1
              try clear hcz33_2
              try clear hcz34_0
              try clear hcz34_1
              try clear hcz34_2
              try clear hcz36_0
              try clear hcz36_1
              try clear hcz36_2
              try clear hcz36_3
              try clear hcz36_4
              try clear hcz41_0
              try clear hcz41_1
              try clear hcz41_2
              try clear hcz45_0
              try clear hcz45_1
              try clear hcz45_2
              try clear hcz45_3
              try clear hcz45_4
              try clear hcz53_0
              try clear hcz53_1
              try clear hcz53_2
              try clear hcz53_3
              try clear hcz53_4
              try clear hcz55_0
              try clear hcz55_1
              try clear hcz55_2
              try clear hcz55_3
              try clear hcz55_4
              try clear hcz57_0
              try clear hcz57_1
              try clear hcz57_2
              try clear hcz57_3
              try clear hcz57_4
              try clear hcz62_0
              try clear hcz62_1
              try clear hcz62_2
              try clear hcz63_0
              try clear hcz63_1
              try clear hcz63_2
              try clear hcz63_3
              try clear hcz63_4
              try clear hfz12_0
              try clear hfz12_1
              try clear hfz12_2
              try clear hfz12_3
              try clear hfz12_4
              try clear hfz13_0
              try clear hfz13_1
              try clear hfz13_2
              try clear hfz20_0
              try clear hfz20_1
              try clear hfz20_2
              try clear hfz20_3
              try clear hfz20_4
              try clear hfz25_0
              try clear hfz25_1
              try clear hfz25_2
              try clear hfz26_0
              try clear hfz26_1
              try clear hfz26_2
              try clear hfz28_0
              try clear hfz28_1
              try clear hfz28_2
              try clear hfz28_3
              try clear hfz28_4
              try clear hfz33_0
              try clear hfz33_1
              try clear hfz33_2
              try clear hfz34_0
              try clear hfz34_1
              try clear hfz34_2
              try clear hfz36_0
              try clear hfz36_1
              try clear hfz36_2
              try clear hfz36_3
              try clear hfz36_4
              try clear hfz41_0
              try clear hfz41_1
              try clear hfz41_2
              try clear hfz45_0
              try clear hfz45_1
              try clear hfz45_2
              try clear hfz45_3
              try clear hfz45_4
              try clear hfz53_0
              try clear hfz53_1
              try clear hfz53_2
              try clear hfz53_3
              try clear hfz53_4
              try clear hfz55_0
              try clear hfz55_1
              try clear hfz55_2
              try clear hfz55_3
              try clear hfz55_4
              try clear hfz57_0
              try clear hfz57_1
              try clear hfz57_2
              try clear hfz57_3
              try clear hfz57_4
              try clear hfz62_0
              try clear hfz62_1
              try clear hfz62_2
              try clear hfz63_0
              try clear hfz63_1
              try clear hfz63_2
              try clear hfz63_3
              try clear hfz63_4
              try clear p2
              obtain ⟨kq, x76_50, rfl, HA, HJ50, BK220, BK221, BK236, HB⟩ := hcut
              cases kq with
              | zero => exact absurd HA.out (by simp [revenantlaw05_PlaceBack.j1])
              | succ kj50 =>
                have H := HA.out
                clear HA
                simp only [revenantlaw05_PlaceBack.j1] at H
                by_cases c67 : x76_50 = true
                · subst c67
                  have H1 : (some false) = some r := by rw [if_pos rfl] at H; exact H
                  clear H
                  have H := H1
                  clear H1
                  exact absurd ((Option.some.inj H).trans HR.out) (by decide)
                · replace c67 := Bool.eq_false_iff.mpr c67
                  subst c67
                  have H1 : ((revenantref05_After.f kj50 a0_0 a0_1 a0_2 a0_3 a0_4 t232 t233 t234).bind fun bt239 => ((place_At.f kj50 a0_0 a0_1 a0_2 a0_3 a0_4 (wrap64 ((wrap64 (Int.tmod (IntKind.u64.wrap (a1)) (IntKind.u64.wrap (t231)))) + 1))).bind fun bt244 => (if (bt239.2.2.2 == bt244.2.2.2) = true then (if bt244.2.2.2 = true then (some (bt244.1 == bt239.1 && (bt244.2.1 == bt239.2.1 && (bt244.2.2.1 == bt239.2.2.1)))) else (some true)) else (some false)))) = some r := by rw [if_neg (show ¬ (false = true) by decide)] at H; exact H
                  clear H
                  have H := H1
                  clear H1
                  replace H := Option.bind_eq_some_iff.mp H
                  obtain ⟨⟨t239, t240, t241, t242⟩, A680, H⟩ := H
                  replace H : ((place_At.f kj50 a0_0 a0_1 a0_2 a0_3 a0_4 (wrap64 ((wrap64 (Int.tmod (IntKind.u64.wrap (a1)) (IntKind.u64.wrap (t231)))) + 1))).bind fun bt244 => (if (t242 == bt244.2.2.2) = true then (if bt244.2.2.2 = true then (some (bt244.1 == t239 && (bt244.2.1 == t240 && (bt244.2.2.1 == t241)))) else (some true)) else (some false))) = some r := H
                  have A68 := Aside0.mk A680
                  clear A680
                  replace H := Option.bind_eq_some_iff.mp H
                  obtain ⟨⟨t244, t245, t246, t247⟩, A690, H⟩ := H
                  replace H : (if (t242 == t247) = true then (if t247 = true then (some (t244 == t239 && (t245 == t240 && (t246 == t241)))) else (some true)) else (some false)) = some r := H
                  have A69 := Aside0.mk A690
                  clear A690
                  by_cases c70 : (t242 == t247) = true
                  · rw [if_pos c70] at H
                    have c70b0 : (t242 == t247) = true := c70
                    (try (have c70b1 : decide (t242 = t247) = true := by simpa using c70))
                    (try (have c70b2 : (t242 == t247) = true := by simpa using c70))
                    clear c70
                    by_cases c71 : t247 = true
                    · subst c71
                      have H1 : (some (t244 == t239 && (t245 == t240 && (t246 == t241)))) = some r := by rw [if_pos rfl] at H; exact H
                      clear H
                      have H := H1
                      clear H1
                      obtain rfl := Option.some.inj H
                      have hnb72 := NB220_221.out
                      have hnc72 := NB221_220.out
                      have hnb73 := NB220_236.out
                      have hnc73 := NB236_220.out
                      have hcz74_0 : wc.cell? ⟨gb220, 0, none⟩ = some (.int .i64 a0_0) := (blk_cell BK220.out 0).trans rfl
                      have hcz74_1 : wc.cell? ⟨gb220, 1, none⟩ = some (.int .i64 a0_1) := (blk_cell BK220.out 1).trans rfl
                      have hcz74_2 : wc.cell? ⟨gb220, 2, none⟩ = some (.int .i64 a0_2) := (blk_cell BK220.out 2).trans rfl
                      have hcz74_3 : wc.cell? ⟨gb220, 3, none⟩ = some (.int .i64 a0_3) := (blk_cell BK220.out 3).trans rfl
                      have hcz74_4 : wc.cell? ⟨gb220, 4, none⟩ = some (.int .i64 a0_4) := (blk_cell BK220.out 4).trans rfl
                      have hfz74_0 := blk_frozen BK220.out 0
                      have hfz74_1 := blk_frozen BK220.out 1
                      have hfz74_2 := blk_frozen BK220.out 2
                      have hfz74_3 := blk_frozen BK220.out 3
                      have hfz74_4 := blk_frozen BK220.out 4
                      have hnb75 := NB236_221.out
                      have hnc75 := NB221_236.out
                      have hcz76_0 : wc.cell? ⟨gb236, 0, none⟩ = some (.int .i64 t232) := (blk_cell BK236.out 0).trans rfl
                      have hcz76_1 : wc.cell? ⟨gb236, 1, none⟩ = some (.int .i64 t233) := (blk_cell BK236.out 1).trans rfl
                      have hcz76_2 : wc.cell? ⟨gb236, 2, none⟩ = some (.int .i64 t234) := (blk_cell BK236.out 2).trans rfl
                      have hfz76_0 := blk_frozen BK236.out 0
                      have hfz76_1 := blk_frozen BK236.out 1
                      have hfz76_2 := blk_frozen BK236.out 2
                      go_wp2_with (first | ((with_reducible refine gate_callee (f := 26) rfl ?_); refine goesL_ (some 80) rfl rfl Tryd.func26 (by kernel_rfl) rfl #[.agg #[.int .i64 a0_0, .int .i64 a0_1, .int .i64 a0_2, .int .i64 a0_3, .int .i64 a0_4], .agg #[.int .i64 t232, .int .i64 t233, .int .i64 t234]] rfl (by (try simp only [List.map_toArray, List.map_cons, List.map_nil]); first | done | rfl | (simp only [List.length_drop, List.length_take]; rfl)) ?_; (with_reducible refine (revenantref05_After.calls kj50 a0_0 a0_1 a0_2 a0_3 a0_4 t232 t233 t234 t239 t240 t241 t242 _ A68.out).mono ?_); rintro e w77 ⟨rfl, hb⟩; refine ⟨_, rfl, ?_⟩; have n0_ := Aside0.mk (blk_below (g := gb220) (o := .cells #[.int .i64 a0_0, .int .i64 a0_1, .int .i64 a0_2, .int .i64 a0_3, .int .i64 a0_4] 23 (0, 0)) (by (with_reducible repeat (first | refine blk_drewN ?_ _ | refine blk_drew ?_ | refine blk_alloc ?_ _)); exact BK220.out) hb); have n1_ := Aside0.mk (blk_below (g := gb221) (o := .cells #[.int .i64 a2_0, .int .i64 a2_1, .int .i64 a2_2] 25 (0, 0)) (by (with_reducible repeat (first | refine blk_drewN ?_ _ | refine blk_drew ?_ | refine blk_alloc ?_ _)); exact BK221.out) hb); have n2_ := Aside0.mk (blk_below (g := gb236) (o := .cells #[.int .i64 t232, .int .i64 t233, .int .i64 t234] 25 (0, 0)) (by (with_reducible repeat (first | refine blk_drewN ?_ _ | refine blk_drew ?_ | refine blk_alloc ?_ _)); exact BK236.out) hb); have n3_ := Aside0.mk (below_step (by repeat (first | (with_reducible first | exact HB.out | apply below_alloc | apply pw_below_drewN | apply below_drew1 | refine below_set ?_ GE220.out | refine below_set ?_ GE221.out | refine below_set ?_ GE236.out) | exact HB.out)) hb); clear BK220; clear BK221; clear BK236; clear HB; have BK220 := n0_; have BK221 := n1_; have BK236 := n2_; have HB := n3_; clear n0_ n1_ n2_ n3_; (try clear hb); (try clear hb2); (try clear hk); (try clear hi)) | ((with_reducible refine gate_dst (N := 16) rfl ?_); refine box_event ?hg (N := 16) ?hd (cs := #[.int .i64 0, .int .i64 0, .int .i64 0]) (t := 25) ?hr ?_; (case hd => rfl); (case hg => rfl); (case hr => first | (go_simp; done) | (go_simp; rfl)); intro gb243 hg w78 hbox hb; have n0_ := Aside0.mk (blk_below (g := gb220) (o := .cells #[.int .i64 a0_0, .int .i64 a0_1, .int .i64 a0_2, .int .i64 a0_3, .int .i64 a0_4] 23 (0, 0)) (by (with_reducible repeat (first | refine blk_drewN ?_ _ | refine blk_drew ?_ | refine blk_alloc ?_ _)); exact BK220.out) hb); have n1_ := Aside0.mk (blk_below (g := gb221) (o := .cells #[.int .i64 a2_0, .int .i64 a2_1, .int .i64 a2_2] 25 (0, 0)) (by (with_reducible repeat (first | refine blk_drewN ?_ _ | refine blk_drew ?_ | refine blk_alloc ?_ _)); exact BK221.out) hb); have n2_ := Aside0.mk (blk_below (g := gb236) (o := .cells #[.int .i64 t232, .int .i64 t233, .int .i64 t234] 25 (0, 0)) (by (with_reducible repeat (first | refine blk_drewN ?_ _ | refine blk_drew ?_ | refine blk_alloc ?_ _)); exact BK236.out) hb); have n3_ := Aside0.mk (below_step (by repeat (first | (with_reducible first | exact HB.out | apply below_alloc | apply pw_below_drewN | apply below_drew1 | refine below_set ?_ GE220.out | refine below_set ?_ GE221.out | refine below_set ?_ GE236.out) | exact HB.out)) hb); have n4_ := Aside0.mk (hbox); have n5_ := Aside0.mk ((by rw [hg]; exact (below_size (by repeat (first | (with_reducible first | exact HB.out | apply below_alloc | apply pw_below_drewN | apply below_drew1 | refine below_set ?_ GE220.out | refine below_set ?_ GE221.out | refine below_set ?_ GE236.out) | exact HB.out))) : w.heap.size ≤ gb243)); have n6_ := Aside0.mk ((by rw [hg]; exact (below_size (by repeat (first | (with_reducible first | exact HB.out | apply below_alloc | apply pw_below_drewN | apply below_drew1 | refine below_set ?_ GE220.out | refine below_set ?_ GE221.out | refine below_set ?_ GE236.out) | exact HB.out))) : w.heap.size ≤ gb243)); have n7_ := Aside0.mk ((by rw [hg]; exact Nat.ne_of_lt (blk_lt (g := gb220) (o := .cells #[.int .i64 a0_0, .int .i64 a0_1, .int .i64 a0_2, .int .i64 a0_3, .int .i64 a0_4] 23 (0, 0)) (by (with_reducible repeat (first | refine blk_drewN ?_ _ | refine blk_drew ?_ | refine blk_alloc ?_ _)); exact BK220.out)) : gb220 ≠ gb243)); have n8_ := Aside0.mk ((by rw [hg]; exact Nat.ne_of_gt (blk_lt (g := gb220) (o := .cells #[.int .i64 a0_0, .int .i64 a0_1, .int .i64 a0_2, .int .i64 a0_3, .int .i64 a0_4] 23 (0, 0)) (by (with_reducible repeat (first | refine blk_drewN ?_ _ | refine blk_drew ?_ | refine blk_alloc ?_ _)); exact BK220.out)) : gb243 ≠ gb220)); have n9_ := Aside0.mk ((by rw [hg]; exact Nat.ne_of_lt (blk_lt (g := gb221) (o := .cells #[.int .i64 a2_0, .int .i64 a2_1, .int .i64 a2_2] 25 (0, 0)) (by (with_reducible repeat (first | refine blk_drewN ?_ _ | refine blk_drew ?_ | refine blk_alloc ?_ _)); exact BK221.out)) : gb221 ≠ gb243)); have n10_ := Aside0.mk ((by rw [hg]; exact Nat.ne_of_gt (blk_lt (g := gb221) (o := .cells #[.int .i64 a2_0, .int .i64 a2_1, .int .i64 a2_2] 25 (0, 0)) (by (with_reducible repeat (first | refine blk_drewN ?_ _ | refine blk_drew ?_ | refine blk_alloc ?_ _)); exact BK221.out)) : gb243 ≠ gb221)); have n11_ := Aside0.mk ((by rw [hg]; exact Nat.ne_of_lt (blk_lt (g := gb236) (o := .cells #[.int .i64 t232, .int .i64 t233, .int .i64 t234] 25 (0, 0)) (by (with_reducible repeat (first | refine blk_drewN ?_ _ | refine blk_drew ?_ | refine blk_alloc ?_ _)); exact BK236.out)) : gb236 ≠ gb243)); have n12_ := Aside0.mk ((by rw [hg]; exact Nat.ne_of_gt (blk_lt (g := gb236) (o := .cells #[.int .i64 t232, .int .i64 t233, .int .i64 t234] 25 (0, 0)) (by (with_reducible repeat (first | refine blk_drewN ?_ _ | refine blk_drew ?_ | refine blk_alloc ?_ _)); exact BK236.out)) : gb243 ≠ gb236)); clear BK220; clear BK221; clear BK236; clear HB; have BK220 := n0_; have BK221 := n1_; have BK236 := n2_; have HB := n3_; have BK243 := n4_; have GW243 := n5_; have GE243 := n6_; have NB220_243 := n7_; have NB243_220 := n8_; have NB221_243 := n9_; have NB243_221 := n10_; have NB236_243 := n11_; have NB243_236 := n12_; clear n0_ n1_ n2_ n3_ n4_ n5_ n6_ n7_ n8_ n9_ n10_ n11_ n12_; clear hb hbox hg; have hnb79 := NB243_220.out; have hnc79 := NB220_243.out; have hnb80 := NB243_221.out; have hnc80 := NB221_243.out; have hnb81 := NB243_236.out; have hnc81 := NB236_243.out; have hcz82_0 : w78.cell? ⟨gb243, 0, none⟩ = some (.int .i64 0) := (blk_cell BK243.out 0).trans rfl; have hcz82_1 : w78.cell? ⟨gb243, 1, none⟩ = some (.int .i64 0) := (blk_cell BK243.out 1).trans rfl; have hcz82_2 : w78.cell? ⟨gb243, 2, none⟩ = some (.int .i64 0) := (blk_cell BK243.out 2).trans rfl; have hfz82_0 := blk_frozen BK243.out 0; have hfz82_1 := blk_frozen BK243.out 1; have hfz82_2 := blk_frozen BK243.out 2; have hcz83_0 : w78.cell? ⟨gb220, 0, none⟩ = some (.int .i64 a0_0) := (blk_cell BK220.out 0).trans rfl; have hcz83_1 : w78.cell? ⟨gb220, 1, none⟩ = some (.int .i64 a0_1) := (blk_cell BK220.out 1).trans rfl; have hcz83_2 : w78.cell? ⟨gb220, 2, none⟩ = some (.int .i64 a0_2) := (blk_cell BK220.out 2).trans rfl; have hcz83_3 : w78.cell? ⟨gb220, 3, none⟩ = some (.int .i64 a0_3) := (blk_cell BK220.out 3).trans rfl; have hcz83_4 : w78.cell? ⟨gb220, 4, none⟩ = some (.int .i64 a0_4) := (blk_cell BK220.out 4).trans rfl; have hfz83_0 := blk_frozen BK220.out 0; have hfz83_1 := blk_frozen BK220.out 1; have hfz83_2 := blk_frozen BK220.out 2; have hfz83_3 := blk_frozen BK220.out 3; have hfz83_4 := blk_frozen BK220.out 4) | ((with_reducible refine gate_callee (f := 17) rfl ?_); refine goesL_ (some 87) rfl rfl Tryd.func17 (by kernel_rfl) rfl #[.agg #[.int .i64 a0_0, .int .i64 a0_1, .int .i64 a0_2, .int .i64 a0_3, .int .i64 a0_4], .int .i64 (wrap64 ((wrap64 (Int.tmod (IntKind.u64.wrap (a1)) (IntKind.u64.wrap (t231)))) + 1))] rfl (by (try simp only [List.map_toArray, List.map_cons, List.map_nil]); first | done | rfl | (simp only [List.length_drop, List.length_take]; rfl)) ?_; (with_reducible refine (place_At.calls kj50 a0_0 a0_1 a0_2 a0_3 a0_4 (wrap64 ((wrap64 (Int.tmod (IntKind.u64.wrap (a1)) (IntKind.u64.wrap (t231)))) + 1)) t244 t245 t246 true _ A69.out).mono ?_); rintro e w84 ⟨rfl, hb⟩; refine ⟨_, rfl, ?_⟩; have n0_ := Aside0.mk (blk_below (g := gb220) (o := .cells #[.int .i64 a0_0, .int .i64 a0_1, .int .i64 a0_2, .int .i64 a0_3, .int .i64 a0_4] 23 (0, 0)) (by (with_reducible repeat (first | refine blk_drewN ?_ _ | refine blk_drew ?_ | refine blk_alloc ?_ _)); refine blk_far ?_ NB220_243.out _; (with_reducible repeat (first | refine blk_drewN ?_ _ | refine blk_drew ?_ | refine blk_alloc ?_ _)); refine blk_far ?_ NB220_243.out _; (with_reducible repeat (first | refine blk_drewN ?_ _ | refine blk_drew ?_ | refine blk_alloc ?_ _)); refine blk_far ?_ NB220_243.out _; (with_reducible repeat (first | refine blk_drewN ?_ _ | refine blk_drew ?_ | refine blk_alloc ?_ _)); exact BK220.out) hb); have n1_ := Aside0.mk (blk_below (g := gb221) (o := .cells #[.int .i64 a2_0, .int .i64 a2_1, .int .i64 a2_2] 25 (0, 0)) (by (with_reducible repeat (first | refine blk_drewN ?_ _ | refine blk_drew ?_ | refine blk_alloc ?_ _)); refine blk_far ?_ NB221_243.out _; (with_reducible repeat (first | refine blk_drewN ?_ _ | refine blk_drew ?_ | refine blk_alloc ?_ _)); refine blk_far ?_ NB221_243.out _; (with_reducible repeat (first | refine blk_drewN ?_ _ | refine blk_drew ?_ | refine blk_alloc ?_ _)); refine blk_far ?_ NB221_243.out _; (with_reducible repeat (first | refine blk_drewN ?_ _ | refine blk_drew ?_ | refine blk_alloc ?_ _)); exact BK221.out) hb); have n2_ := Aside0.mk (blk_below (g := gb236) (o := .cells #[.int .i64 t232, .int .i64 t233, .int .i64 t234] 25 (0, 0)) (by (with_reducible repeat (first | refine blk_drewN ?_ _ | refine blk_drew ?_ | refine blk_alloc ?_ _)); refine blk_far ?_ NB236_243.out _; (with_reducible repeat (first | refine blk_drewN ?_ _ | refine blk_drew ?_ | refine blk_alloc ?_ _)); refine blk_far ?_ NB236_243.out _; (with_reducible repeat (first | refine blk_drewN ?_ _ | refine blk_drew ?_ | refine blk_alloc ?_ _)); refine blk_far ?_ NB236_243.out _; (with_reducible repeat (first | refine blk_drewN ?_ _ | refine blk_drew ?_ | refine blk_alloc ?_ _)); exact BK236.out) hb); have n3_ := Aside0.mk (blk_below (g := gb243) (o := .cells #[.int .i64 t239, .int .i64 t240, .int .i64 t241] 25 (0, 0)) (by (with_reducible repeat (first | refine blk_drewN ?_ _ | refine blk_drew ?_ | refine blk_alloc ?_ _)); refine blk_put (cs := #[.int .i64 t239, .int .i64 t240, .int .i64 0]) ?_ 2 _ rfl; (with_reducible repeat (first | refine blk_drewN ?_ _ | refine blk_drew ?_ | refine blk_alloc ?_ _)); refine blk_put (cs := #[.int .i64 t239, .int .i64 0, .int .i64 0]) ?_ 1 _ rfl; (with_reducible repeat (first | refine blk_drewN ?_ _ | refine blk_drew ?_ | refine blk_alloc ?_ _)); refine blk_put (cs := #[.int .i64 0, .int .i64 0, .int .i64 0]) ?_ 0 _ rfl; (with_reducible repeat (first | refine blk_drewN ?_ _ | refine blk_drew ?_ | refine blk_alloc ?_ _)); exact BK243.out) hb); have n4_ := Aside0.mk (below_step (by repeat (first | (with_reducible first | exact HB.out | apply below_alloc | apply pw_below_drewN | apply below_drew1 | refine below_set ?_ GE220.out | refine below_set ?_ GE221.out | refine below_set ?_ GE236.out | refine below_set ?_ GE243.out) | exact HB.out)) hb); clear BK220; clear BK221; clear BK236; clear BK243; clear HB; have BK220 := n0_; have BK221 := n1_; have BK236 := n2_; have BK243 := n3_; have HB := n4_; clear n0_ n1_ n2_ n3_ n4_; (try clear hb); (try clear hb2); (try clear hk); (try clear hi)) | ((with_reducible refine gate_dst (N := 18) rfl ?_); refine box_event ?hg (N := 18) ?hd (cs := #[.int .i64 0, .int .i64 0, .int .i64 0]) (t := 25) ?hr ?_; (case hd => rfl); (case hg => rfl); (case hr => first | (go_simp; done) | (go_simp; rfl)); intro gb248 hg w85 hbox hb; have n0_ := Aside0.mk (blk_below (g := gb220) (o := .cells #[.int .i64 a0_0, .int .i64 a0_1, .int .i64 a0_2, .int .i64 a0_3, .int .i64 a0_4] 23 (0, 0)) (by (with_reducible repeat (first | refine blk_drewN ?_ _ | refine blk_drew ?_ | refine blk_alloc ?_ _)); exact BK220.out) hb); have n1_ := Aside0.mk (blk_below (g := gb221) (o := .cells #[.int .i64 a2_0, .int .i64 a2_1, .int .i64 a2_2] 25 (0, 0)) (by (with_reducible repeat (first | refine blk_drewN ?_ _ | refine blk_drew ?_ | refine blk_alloc ?_ _)); exact BK221.out) hb); have n2_ := Aside0.mk (blk_below (g := gb236) (o := .cells #[.int .i64 t232, .int .i64 t233, .int .i64 t234] 25 (0, 0)) (by (with_reducible repeat (first | refine blk_drewN ?_ _ | refine blk_drew ?_ | refine blk_alloc ?_ _)); exact BK236.out) hb); have n3_ := Aside0.mk (blk_below (g := gb243) (o := .cells #[.int .i64 t239, .int .i64 t240, .int .i64 t241] 25 (0, 0)) (by (with_reducible repeat (first | refine blk_drewN ?_ _ | refine blk_drew ?_ | refine blk_alloc ?_ _)); exact BK243.out) hb); have n4_ := Aside0.mk (below_step (by repeat (first | (with_reducible first | exact HB.out | apply below_alloc | apply pw_below_drewN | apply below_drew1 | refine below_set ?_ GE220.out | refine below_set ?_ GE221.out | refine below_set ?_ GE236.out | refine below_set ?_ GE243.out) | exact HB.out)) hb); have n5_ := Aside0.mk (hbox); have n6_ := Aside0.mk ((by rw [hg]; exact (below_size (by repeat (first | (with_reducible first | exact HB.out | apply below_alloc | apply pw_below_drewN | apply below_drew1 | refine below_set ?_ GE220.out | refine below_set ?_ GE221.out | refine below_set ?_ GE236.out | refine below_set ?_ GE243.out) | exact HB.out))) : w.heap.size ≤ gb248)); have n7_ := Aside0.mk ((by rw [hg]; exact (below_size (by repeat (first | (with_reducible first | exact HB.out | apply below_alloc | apply pw_below_drewN | apply below_drew1 | refine below_set ?_ GE220.out | refine below_set ?_ GE221.out | refine below_set ?_ GE236.out | refine below_set ?_ GE243.out) | exact HB.out))) : w.heap.size ≤ gb248)); have n8_ := Aside0.mk ((by rw [hg]; exact Nat.ne_of_lt (blk_lt (g := gb220) (o := .cells #[.int .i64 a0_0, .int .i64 a0_1, .int .i64 a0_2, .int .i64 a0_3, .int .i64 a0_4] 23 (0, 0)) (by (with_reducible repeat (first | refine blk_drewN ?_ _ | refine blk_drew ?_ | refine blk_alloc ?_ _)); exact BK220.out)) : gb220 ≠ gb248)); have n9_ := Aside0.mk ((by rw [hg]; exact Nat.ne_of_gt (blk_lt (g := gb220) (o := .cells #[.int .i64 a0_0, .int .i64 a0_1, .int .i64 a0_2, .int .i64 a0_3, .int .i64 a0_4] 23 (0, 0)) (by (with_reducible repeat (first | refine blk_drewN ?_ _ | refine blk_drew ?_ | refine blk_alloc ?_ _)); exact BK220.out)) : gb248 ≠ gb220)); have n10_ := Aside0.mk ((by rw [hg]; exact Nat.ne_of_lt (blk_lt (g := gb221) (o := .cells #[.int .i64 a2_0, .int .i64 a2_1, .int .i64 a2_2] 25 (0, 0)) (by (with_reducible repeat (first | refine blk_drewN ?_ _ | refine blk_drew ?_ | refine blk_alloc ?_ _)); exact BK221.out)) : gb221 ≠ gb248)); have n11_ := Aside0.mk ((by rw [hg]; exact Nat.ne_of_gt (blk_lt (g := gb221) (o := .cells #[.int .i64 a2_0, .int .i64 a2_1, .int .i64 a2_2] 25 (0, 0)) (by (with_reducible repeat (first | refine blk_drewN ?_ _ | refine blk_drew ?_ | refine blk_alloc ?_ _)); exact BK221.out)) : gb248 ≠ gb221)); have n12_ := Aside0.mk ((by rw [hg]; exact Nat.ne_of_lt (blk_lt (g := gb236) (o := .cells #[.int .i64 t232, .int .i64 t233, .int .i64 t234] 25 (0, 0)) (by (with_reducible repeat (first | refine blk_drewN ?_ _ | refine blk_drew ?_ | refine blk_alloc ?_ _)); exact BK236.out)) : gb236 ≠ gb248)); have n13_ := Aside0.mk ((by rw [hg]; exact Nat.ne_of_gt (blk_lt (g := gb236) (o := .cells #[.int .i64 t232, .int .i64 t233, .int .i64 t234] 25 (0, 0)) (by (with_reducible repeat (first | refine blk_drewN ?_ _ | refine blk_drew ?_ | refine blk_alloc ?_ _)); exact BK236.out)) : gb248 ≠ gb236)); have n14_ := Aside0.mk ((by rw [hg]; exact Nat.ne_of_lt (blk_lt (g := gb243) (o := .cells #[.int .i64 t239, .int .i64 t240, .int .i64 t241] 25 (0, 0)) (by (with_reducible repeat (first | refine blk_drewN ?_ _ | refine blk_drew ?_ | refine blk_alloc ?_ _)); exact BK243.out)) : gb243 ≠ gb248)); have n15_ := Aside0.mk ((by rw [hg]; exact Nat.ne_of_gt (blk_lt (g := gb243) (o := .cells #[.int .i64 t239, .int .i64 t240, .int .i64 t241] 25 (0, 0)) (by (with_reducible repeat (first | refine blk_drewN ?_ _ | refine blk_drew ?_ | refine blk_alloc ?_ _)); exact BK243.out)) : gb248 ≠ gb243)); clear BK220; clear BK221; clear BK236; clear BK243; clear HB; have BK220 := n0_; have BK221 := n1_; have BK236 := n2_; have BK243 := n3_; have HB := n4_; have BK248 := n5_; have GW248 := n6_; have GE248 := n7_; have NB220_248 := n8_; have NB248_220 := n9_; have NB221_248 := n10_; have NB248_221 := n11_; have NB236_248 := n12_; have NB248_236 := n13_; have NB243_248 := n14_; have NB248_243 := n15_; clear n0_ n1_ n2_ n3_ n4_ n5_ n6_ n7_ n8_ n9_ n10_ n11_ n12_ n13_ n14_ n15_; clear hb hbox hg; have hnb86 := NB248_220.out; have hnc86 := NB220_248.out; have hnb87 := NB248_221.out; have hnc87 := NB221_248.out; have hnb88 := NB248_236.out; have hnc88 := NB236_248.out; have hnb89 := NB248_243.out; have hnc89 := NB243_248.out; have hcz90_0 : w85.cell? ⟨gb248, 0, none⟩ = some (.int .i64 0) := (blk_cell BK248.out 0).trans rfl; have hcz90_1 : w85.cell? ⟨gb248, 1, none⟩ = some (.int .i64 0) := (blk_cell BK248.out 1).trans rfl; have hcz90_2 : w85.cell? ⟨gb248, 2, none⟩ = some (.int .i64 0) := (blk_cell BK248.out 2).trans rfl; have hfz90_0 := blk_frozen BK248.out 0; have hfz90_1 := blk_frozen BK248.out 1; have hfz90_2 := blk_frozen BK248.out 2; have hcz91_0 : w85.cell? ⟨gb243, 0, none⟩ = some (.int .i64 t239) := (blk_cell BK243.out 0).trans rfl; have hcz91_1 : w85.cell? ⟨gb243, 1, none⟩ = some (.int .i64 t240) := (blk_cell BK243.out 1).trans rfl; have hcz91_2 : w85.cell? ⟨gb243, 2, none⟩ = some (.int .i64 t241) := (blk_cell BK243.out 2).trans rfl; have hfz91_0 := blk_frozen BK243.out 0; have hfz91_1 := blk_frozen BK243.out 1; have hfz91_2 := blk_frozen BK243.out 2))
                      go_ret
                      exact ⟨by first | rfl | (simp [errW_none, errW_some] <;> rfl) | (simp [*, errW_none, errW_some] <;> rfl), by repeat (first | (with_reducible first | exact HB.out | apply below_alloc | apply pw_below_drewN | apply below_drew1 | refine below_set ?_ GE220.out | refine below_set ?_ GE221.out | refine below_set ?_ GE236.out | refine below_set ?_ GE243.out | refine below_set ?_ GE248.out) | exact HB.out)⟩
                    · replace c71 := Bool.eq_false_iff.mpr c71
                      subst c71
                      have H1 : (some true) = some r := by rw [if_neg (show ¬ (false = true) by decide)] at H; exact H
                      clear H
                      have H := H1
                      clear H1
                      obtain rfl := Option.some.inj H
                      have hnb92 := NB220_221.out
                      have hnc92 := NB221_220.out
                      have hnb93 := NB220_236.out
                      have hnc93 := NB236_220.out
                      have hcz94_0 : wc.cell? ⟨gb220, 0, none⟩ = some (.int .i64 a0_0) := (blk_cell BK220.out 0).trans rfl
                      have hcz94_1 : wc.cell? ⟨gb220, 1, none⟩ = some (.int .i64 a0_1) := (blk_cell BK220.out 1).trans rfl
                      have hcz94_2 : wc.cell? ⟨gb220, 2, none⟩ = some (.int .i64 a0_2) := (blk_cell BK220.out 2).trans rfl
                      have hcz94_3 : wc.cell? ⟨gb220, 3, none⟩ = some (.int .i64 a0_3) := (blk_cell BK220.out 3).trans rfl
                      have hcz94_4 : wc.cell? ⟨gb220, 4, none⟩ = some (.int .i64 a0_4) := (blk_cell BK220.out 4).trans rfl
                      have hfz94_0 := blk_frozen BK220.out 0
                      have hfz94_1 := blk_frozen BK220.out 1
                      have hfz94_2 := blk_frozen BK220.out 2
                      have hfz94_3 := blk_frozen BK220.out 3
                      have hfz94_4 := blk_frozen BK220.out 4
                      have hnb95 := NB236_221.out
                      have hnc95 := NB221_236.out
                      have hcz96_0 : wc.cell? ⟨gb236, 0, none⟩ = some (.int .i64 t232) := (blk_cell BK236.out 0).trans rfl
                      have hcz96_1 : wc.cell? ⟨gb236, 1, none⟩ = some (.int .i64 t233) := (blk_cell BK236.out 1).trans rfl
                      have hcz96_2 : wc.cell? ⟨gb236, 2, none⟩ = some (.int .i64 t234) := (blk_cell BK236.out 2).trans rfl
                      have hfz96_0 := blk_frozen BK236.out 0
                      have hfz96_1 := blk_frozen BK236.out 1
                      have hfz96_2 := blk_frozen BK236.out 2
                      go_wp2_with (first | ((with_reducible refine gate_callee (f := 26) rfl ?_); refine goesL_ (some 80) rfl rfl Tryd.func26 (by kernel_rfl) rfl #[.agg #[.int .i64 a0_0, .int .i64 a0_1, .int .i64 a0_2, .int .i64 a0_3, .int .i64 a0_4], .agg #[.int .i64 t232, .int .i64 t233, .int .i64 t234]] rfl (by (try simp only [List.map_toArray, List.map_cons, List.map_nil]); first | done | rfl | (simp only [List.length_drop, List.length_take]; rfl)) ?_; (with_reducible refine (revenantref05_After.calls kj50 a0_0 a0_1 a0_2 a0_3 a0_4 t232 t233 t234 t239 t240 t241 t242 _ A68.out).mono ?_); rintro e w97 ⟨rfl, hb⟩; refine ⟨_, rfl, ?_⟩; have n0_ := Aside0.mk (blk_below (g := gb220) (o := .cells #[.int .i64 a0_0, .int .i64 a0_1, .int .i64 a0_2, .int .i64 a0_3, .int .i64 a0_4] 23 (0, 0)) (by (with_reducible repeat (first | refine blk_drewN ?_ _ | refine blk_drew ?_ | refine blk_alloc ?_ _)); exact BK220.out) hb); have n1_ := Aside0.mk (blk_below (g := gb221) (o := .cells #[.int .i64 a2_0, .int .i64 a2_1, .int .i64 a2_2] 25 (0, 0)) (by (with_reducible repeat (first | refine blk_drewN ?_ _ | refine blk_drew ?_ | refine blk_alloc ?_ _)); exact BK221.out) hb); have n2_ := Aside0.mk (blk_below (g := gb236) (o := .cells #[.int .i64 t232, .int .i64 t233, .int .i64 t234] 25 (0, 0)) (by (with_reducible repeat (first | refine blk_drewN ?_ _ | refine blk_drew ?_ | refine blk_alloc ?_ _)); exact BK236.out) hb); have n3_ := Aside0.mk (below_step (by repeat (first | (with_reducible first | exact HB.out | apply below_alloc | apply pw_below_drewN | apply below_drew1 | refine below_set ?_ GE220.out | refine below_set ?_ GE221.out | refine below_set ?_ GE236.out) | exact HB.out)) hb); clear BK220; clear BK221; clear BK236; clear HB; have BK220 := n0_; have BK221 := n1_; have BK236 := n2_; have HB := n3_; clear n0_ n1_ n2_ n3_; (try clear hb); (try clear hb2); (try clear hk); (try clear hi)) | ((with_reducible refine gate_dst (N := 16) rfl ?_); refine box_event ?hg (N := 16) ?hd (cs := #[.int .i64 0, .int .i64 0, .int .i64 0]) (t := 25) ?hr ?_; (case hd => rfl); (case hg => rfl); (case hr => first | (go_simp; done) | (go_simp; rfl)); intro gb243 hg w98 hbox hb; have n0_ := Aside0.mk (blk_below (g := gb220) (o := .cells #[.int .i64 a0_0, .int .i64 a0_1, .int .i64 a0_2, .int .i64 a0_3, .int .i64 a0_4] 23 (0, 0)) (by (with_reducible repeat (first | refine blk_drewN ?_ _ | refine blk_drew ?_ | refine blk_alloc ?_ _)); exact BK220.out) hb); have n1_ := Aside0.mk (blk_below (g := gb221) (o := .cells #[.int .i64 a2_0, .int .i64 a2_1, .int .i64 a2_2] 25 (0, 0)) (by (with_reducible repeat (first | refine blk_drewN ?_ _ | refine blk_drew ?_ | refine blk_alloc ?_ _)); exact BK221.out) hb); have n2_ := Aside0.mk (blk_below (g := gb236) (o := .cells #[.int .i64 t232, .int .i64 t233, .int .i64 t234] 25 (0, 0)) (by (with_reducible repeat (first | refine blk_drewN ?_ _ | refine blk_drew ?_ | refine blk_alloc ?_ _)); exact BK236.out) hb); have n3_ := Aside0.mk (below_step (by repeat (first | (with_reducible first | exact HB.out | apply below_alloc | apply pw_below_drewN | apply below_drew1 | refine below_set ?_ GE220.out | refine below_set ?_ GE221.out | refine below_set ?_ GE236.out) | exact HB.out)) hb); have n4_ := Aside0.mk (hbox); have n5_ := Aside0.mk ((by rw [hg]; exact (below_size (by repeat (first | (with_reducible first | exact HB.out | apply below_alloc | apply pw_below_drewN | apply below_drew1 | refine below_set ?_ GE220.out | refine below_set ?_ GE221.out | refine below_set ?_ GE236.out) | exact HB.out))) : w.heap.size ≤ gb243)); have n6_ := Aside0.mk ((by rw [hg]; exact (below_size (by repeat (first | (with_reducible first | exact HB.out | apply below_alloc | apply pw_below_drewN | apply below_drew1 | refine below_set ?_ GE220.out | refine below_set ?_ GE221.out | refine below_set ?_ GE236.out) | exact HB.out))) : w.heap.size ≤ gb243)); have n7_ := Aside0.mk ((by rw [hg]; exact Nat.ne_of_lt (blk_lt (g := gb220) (o := .cells #[.int .i64 a0_0, .int .i64 a0_1, .int .i64 a0_2, .int .i64 a0_3, .int .i64 a0_4] 23 (0, 0)) (by (with_reducible repeat (first | refine blk_drewN ?_ _ | refine blk_drew ?_ | refine blk_alloc ?_ _)); exact BK220.out)) : gb220 ≠ gb243)); have n8_ := Aside0.mk ((by rw [hg]; exact Nat.ne_of_gt (blk_lt (g := gb220) (o := .cells #[.int .i64 a0_0, .int .i64 a0_1, .int .i64 a0_2, .int .i64 a0_3, .int .i64 a0_4] 23 (0, 0)) (by (with_reducible repeat (first | refine blk_drewN ?_ _ | refine blk_drew ?_ | refine blk_alloc ?_ _)); exact BK220.out)) : gb243 ≠ gb220)); have n9_ := Aside0.mk ((by rw [hg]; exact Nat.ne_of_lt (blk_lt (g := gb221) (o := .cells #[.int .i64 a2_0, .int .i64 a2_1, .int .i64 a2_2] 25 (0, 0)) (by (with_reducible repeat (first | refine blk_drewN ?_ _ | refine blk_drew ?_ | refine blk_alloc ?_ _)); exact BK221.out)) : gb221 ≠ gb243)); have n10_ := Aside0.mk ((by rw [hg]; exact Nat.ne_of_gt (blk_lt (g := gb221) (o := .cells #[.int .i64 a2_0, .int .i64 a2_1, .int .i64 a2_2] 25 (0, 0)) (by (with_reducible repeat (first | refine blk_drewN ?_ _ | refine blk_drew ?_ | refine blk_alloc ?_ _)); exact BK221.out)) : gb243 ≠ gb221)); have n11_ := Aside0.mk ((by rw [hg]; exact Nat.ne_of_lt (blk_lt (g := gb236) (o := .cells #[.int .i64 t232, .int .i64 t233, .int .i64 t234] 25 (0, 0)) (by (with_reducible repeat (first | refine blk_drewN ?_ _ | refine blk_drew ?_ | refine blk_alloc ?_ _)); exact BK236.out)) : gb236 ≠ gb243)); have n12_ := Aside0.mk ((by rw [hg]; exact Nat.ne_of_gt (blk_lt (g := gb236) (o := .cells #[.int .i64 t232, .int .i64 t233, .int .i64 t234] 25 (0, 0)) (by (with_reducible repeat (first | refine blk_drewN ?_ _ | refine blk_drew ?_ | refine blk_alloc ?_ _)); exact BK236.out)) : gb243 ≠ gb236)); clear BK220; clear BK221; clear BK236; clear HB; have BK220 := n0_; have BK221 := n1_; have BK236 := n2_; have HB := n3_; have BK243 := n4_; have GW243 := n5_; have GE243 := n6_; have NB220_243 := n7_; have NB243_220 := n8_; have NB221_243 := n9_; have NB243_221 := n10_; have NB236_243 := n11_; have NB243_236 := n12_; clear n0_ n1_ n2_ n3_ n4_ n5_ n6_ n7_ n8_ n9_ n10_ n11_ n12_; clear hb hbox hg; have hnb99 := NB243_220.out; have hnc99 := NB220_243.out; have hnb100 := NB243_221.out; have hnc100 := NB221_243.out; have hnb101 := NB243_236.out; have hnc101 := NB236_243.out; have hcz102_0 : w98.cell? ⟨gb243, 0, none⟩ = some (.int .i64 0) := (blk_cell BK243.out 0).trans rfl; have hcz102_1 : w98.cell? ⟨gb243, 1, none⟩ = some (.int .i64 0) := (blk_cell BK243.out 1).trans rfl; have hcz102_2 : w98.cell? ⟨gb243, 2, none⟩ = some (.int .i64 0) := (blk_cell BK243.out 2).trans rfl; have hfz102_0 := blk_frozen BK243.out 0; have hfz102_1 := blk_frozen BK243.out 1; have hfz102_2 := blk_frozen BK243.out 2; have hcz103_0 : w98.cell? ⟨gb220, 0, none⟩ = some (.int .i64 a0_0) := (blk_cell BK220.out 0).trans rfl; have hcz103_1 : w98.cell? ⟨gb220, 1, none⟩ = some (.int .i64 a0_1) := (blk_cell BK220.out 1).trans rfl; have hcz103_2 : w98.cell? ⟨gb220, 2, none⟩ = some (.int .i64 a0_2) := (blk_cell BK220.out 2).trans rfl; have hcz103_3 : w98.cell? ⟨gb220, 3, none⟩ = some (.int .i64 a0_3) := (blk_cell BK220.out 3).trans rfl; have hcz103_4 : w98.cell? ⟨gb220, 4, none⟩ = some (.int .i64 a0_4) := (blk_cell BK220.out 4).trans rfl; have hfz103_0 := blk_frozen BK220.out 0; have hfz103_1 := blk_frozen BK220.out 1; have hfz103_2 := blk_frozen BK220.out 2; have hfz103_3 := blk_frozen BK220.out 3; have hfz103_4 := blk_frozen BK220.out 4) | ((with_reducible refine gate_callee (f := 17) rfl ?_); refine goesL_ (some 87) rfl rfl Tryd.func17 (by kernel_rfl) rfl #[.agg #[.int .i64 a0_0, .int .i64 a0_1, .int .i64 a0_2, .int .i64 a0_3, .int .i64 a0_4], .int .i64 (wrap64 ((wrap64 (Int.tmod (IntKind.u64.wrap (a1)) (IntKind.u64.wrap (t231)))) + 1))] rfl (by (try simp only [List.map_toArray, List.map_cons, List.map_nil]); first | done | rfl | (simp only [List.length_drop, List.length_take]; rfl)) ?_; (with_reducible refine (place_At.calls kj50 a0_0 a0_1 a0_2 a0_3 a0_4 (wrap64 ((wrap64 (Int.tmod (IntKind.u64.wrap (a1)) (IntKind.u64.wrap (t231)))) + 1)) t244 t245 t246 false _ A69.out).mono ?_); rintro e w104 ⟨rfl, hb⟩; refine ⟨_, rfl, ?_⟩; have n0_ := Aside0.mk (blk_below (g := gb220) (o := .cells #[.int .i64 a0_0, .int .i64 a0_1, .int .i64 a0_2, .int .i64 a0_3, .int .i64 a0_4] 23 (0, 0)) (by (with_reducible repeat (first | refine blk_drewN ?_ _ | refine blk_drew ?_ | refine blk_alloc ?_ _)); refine blk_far ?_ NB220_243.out _; (with_reducible repeat (first | refine blk_drewN ?_ _ | refine blk_drew ?_ | refine blk_alloc ?_ _)); refine blk_far ?_ NB220_243.out _; (with_reducible repeat (first | refine blk_drewN ?_ _ | refine blk_drew ?_ | refine blk_alloc ?_ _)); refine blk_far ?_ NB220_243.out _; (with_reducible repeat (first | refine blk_drewN ?_ _ | refine blk_drew ?_ | refine blk_alloc ?_ _)); exact BK220.out) hb); have n1_ := Aside0.mk (blk_below (g := gb221) (o := .cells #[.int .i64 a2_0, .int .i64 a2_1, .int .i64 a2_2] 25 (0, 0)) (by (with_reducible repeat (first | refine blk_drewN ?_ _ | refine blk_drew ?_ | refine blk_alloc ?_ _)); refine blk_far ?_ NB221_243.out _; (with_reducible repeat (first | refine blk_drewN ?_ _ | refine blk_drew ?_ | refine blk_alloc ?_ _)); refine blk_far ?_ NB221_243.out _; (with_reducible repeat (first | refine blk_drewN ?_ _ | refine blk_drew ?_ | refine blk_alloc ?_ _)); refine blk_far ?_ NB221_243.out _; (with_reducible repeat (first | refine blk_drewN ?_ _ | refine blk_drew ?_ | refine blk_alloc ?_ _)); exact BK221.out) hb); have n2_ := Aside0.mk (blk_below (g := gb236) (o := .cells #[.int .i64 t232, .int .i64 t233, .int .i64 t234] 25 (0, 0)) (by (with_reducible repeat (first | refine blk_drewN ?_ _ | refine blk_drew ?_ | refine blk_alloc ?_ _)); refine blk_far ?_ NB236_243.out _; (with_reducible repeat (first | refine blk_drewN ?_ _ | refine blk_drew ?_ | refine blk_alloc ?_ _)); refine blk_far ?_ NB236_243.out _; (with_reducible repeat (first | refine blk_drewN ?_ _ | refine blk_drew ?_ | refine blk_alloc ?_ _)); refine blk_far ?_ NB236_243.out _; (with_reducible repeat (first | refine blk_drewN ?_ _ | refine blk_drew ?_ | refine blk_alloc ?_ _)); exact BK236.out) hb); have n3_ := Aside0.mk (blk_below (g := gb243) (o := .cells #[.int .i64 t239, .int .i64 t240, .int .i64 t241] 25 (0, 0)) (by (with_reducible repeat (first | refine blk_drewN ?_ _ | refine blk_drew ?_ | refine blk_alloc ?_ _)); refine blk_put (cs := #[.int .i64 t239, .int .i64 t240, .int .i64 0]) ?_ 2 _ rfl; (with_reducible repeat (first | refine blk_drewN ?_ _ | refine blk_drew ?_ | refine blk_alloc ?_ _)); refine blk_put (cs := #[.int .i64 t239, .int .i64 0, .int .i64 0]) ?_ 1 _ rfl; (with_reducible repeat (first | refine blk_drewN ?_ _ | refine blk_drew ?_ | refine blk_alloc ?_ _)); refine blk_put (cs := #[.int .i64 0, .int .i64 0, .int .i64 0]) ?_ 0 _ rfl; (with_reducible repeat (first | refine blk_drewN ?_ _ | refine blk_drew ?_ | refine blk_alloc ?_ _)); exact BK243.out) hb); have n4_ := Aside0.mk (below_step (by repeat (first | (with_reducible first | exact HB.out | apply below_alloc | apply pw_below_drewN | apply below_drew1 | refine below_set ?_ GE220.out | refine below_set ?_ GE221.out | refine below_set ?_ GE236.out | refine below_set ?_ GE243.out) | exact HB.out)) hb); clear BK220; clear BK221; clear BK236; clear BK243; clear HB; have BK220 := n0_; have BK221 := n1_; have BK236 := n2_; have BK243 := n3_; have HB := n4_; clear n0_ n1_ n2_ n3_ n4_; (try clear hb); (try clear hb2); (try clear hk); (try clear hi)) | ((with_reducible refine gate_dst (N := 18) rfl ?_); refine box_event ?hg (N := 18) ?hd (cs := #[.int .i64 0, .int .i64 0, .int .i64 0]) (t := 25) ?hr ?_; (case hd => rfl); (case hg => rfl); (case hr => first | (go_simp; done) | (go_simp; rfl)); intro gb248 hg w105 hbox hb; have n0_ := Aside0.mk (blk_below (g := gb220) (o := .cells #[.int .i64 a0_0, .int .i64 a0_1, .int .i64 a0_2, .int .i64 a0_3, .int .i64 a0_4] 23 (0, 0)) (by (with_reducible repeat (first | refine blk_drewN ?_ _ | refine blk_drew ?_ | refine blk_alloc ?_ _)); exact BK220.out) hb); have n1_ := Aside0.mk (blk_below (g := gb221) (o := .cells #[.int .i64 a2_0, .int .i64 a2_1, .int .i64 a2_2] 25 (0, 0)) (by (with_reducible repeat (first | refine blk_drewN ?_ _ | refine blk_drew ?_ | refine blk_alloc ?_ _)); exact BK221.out) hb); have n2_ := Aside0.mk (blk_below (g := gb236) (o := .cells #[.int .i64 t232, .int .i64 t233, .int .i64 t234] 25 (0, 0)) (by (with_reducible repeat (first | refine blk_drewN ?_ _ | refine blk_drew ?_ | refine blk_alloc ?_ _)); exact BK236.out) hb); have n3_ := Aside0.mk (blk_below (g := gb243) (o := .cells #[.int .i64 t239, .int .i64 t240, .int .i64 t241] 25 (0, 0)) (by (with_reducible repeat (first | refine blk_drewN ?_ _ | refine blk_drew ?_ | refine blk_alloc ?_ _)); exact BK243.out) hb); have n4_ := Aside0.mk (below_step (by repeat (first | (with_reducible first | exact HB.out | apply below_alloc | apply pw_below_drewN | apply below_drew1 | refine below_set ?_ GE220.out | refine below_set ?_ GE221.out | refine below_set ?_ GE236.out | refine below_set ?_ GE243.out) | exact HB.out)) hb); have n5_ := Aside0.mk (hbox); have n6_ := Aside0.mk ((by rw [hg]; exact (below_size (by repeat (first | (with_reducible first | exact HB.out | apply below_alloc | apply pw_below_drewN | apply below_drew1 | refine below_set ?_ GE220.out | refine below_set ?_ GE221.out | refine below_set ?_ GE236.out | refine below_set ?_ GE243.out) | exact HB.out))) : w.heap.size ≤ gb248)); have n7_ := Aside0.mk ((by rw [hg]; exact (below_size (by repeat (first | (with_reducible first | exact HB.out | apply below_alloc | apply pw_below_drewN | apply below_drew1 | refine below_set ?_ GE220.out | refine below_set ?_ GE221.out | refine below_set ?_ GE236.out | refine below_set ?_ GE243.out) | exact HB.out))) : w.heap.size ≤ gb248)); have n8_ := Aside0.mk ((by rw [hg]; exact Nat.ne_of_lt (blk_lt (g := gb220) (o := .cells #[.int .i64 a0_0, .int .i64 a0_1, .int .i64 a0_2, .int .i64 a0_3, .int .i64 a0_4] 23 (0, 0)) (by (with_reducible repeat (first | refine blk_drewN ?_ _ | refine blk_drew ?_ | refine blk_alloc ?_ _)); exact BK220.out)) : gb220 ≠ gb248)); have n9_ := Aside0.mk ((by rw [hg]; exact Nat.ne_of_gt (blk_lt (g := gb220) (o := .cells #[.int .i64 a0_0, .int .i64 a0_1, .int .i64 a0_2, .int .i64 a0_3, .int .i64 a0_4] 23 (0, 0)) (by (with_reducible repeat (first | refine blk_drewN ?_ _ | refine blk_drew ?_ | refine blk_alloc ?_ _)); exact BK220.out)) : gb248 ≠ gb220)); have n10_ := Aside0.mk ((by rw [hg]; exact Nat.ne_of_lt (blk_lt (g := gb221) (o := .cells #[.int .i64 a2_0, .int .i64 a2_1, .int .i64 a2_2] 25 (0, 0)) (by (with_reducible repeat (first | refine blk_drewN ?_ _ | refine blk_drew ?_ | refine blk_alloc ?_ _)); exact BK221.out)) : gb221 ≠ gb248)); have n11_ := Aside0.mk ((by rw [hg]; exact Nat.ne_of_gt (blk_lt (g := gb221) (o := .cells #[.int .i64 a2_0, .int .i64 a2_1, .int .i64 a2_2] 25 (0, 0)) (by (with_reducible repeat (first | refine blk_drewN ?_ _ | refine blk_drew ?_ | refine blk_alloc ?_ _)); exact BK221.out)) : gb248 ≠ gb221)); have n12_ := Aside0.mk ((by rw [hg]; exact Nat.ne_of_lt (blk_lt (g := gb236) (o := .cells #[.int .i64 t232, .int .i64 t233, .int .i64 t234] 25 (0, 0)) (by (with_reducible repeat (first | refine blk_drewN ?_ _ | refine blk_drew ?_ | refine blk_alloc ?_ _)); exact BK236.out)) : gb236 ≠ gb248)); have n13_ := Aside0.mk ((by rw [hg]; exact Nat.ne_of_gt (blk_lt (g := gb236) (o := .cells #[.int .i64 t232, .int .i64 t233, .int .i64 t234] 25 (0, 0)) (by (with_reducible repeat (first | refine blk_drewN ?_ _ | refine blk_drew ?_ | refine blk_alloc ?_ _)); exact BK236.out)) : gb248 ≠ gb236)); have n14_ := Aside0.mk ((by rw [hg]; exact Nat.ne_of_lt (blk_lt (g := gb243) (o := .cells #[.int .i64 t239, .int .i64 t240, .int .i64 t241] 25 (0, 0)) (by (with_reducible repeat (first | refine blk_drewN ?_ _ | refine blk_drew ?_ | refine blk_alloc ?_ _)); exact BK243.out)) : gb243 ≠ gb248)); have n15_ := Aside0.mk ((by rw [hg]; exact Nat.ne_of_gt (blk_lt (g := gb243) (o := .cells #[.int .i64 t239, .int .i64 t240, .int .i64 t241] 25 (0, 0)) (by (with_reducible repeat (first | refine blk_drewN ?_ _ | refine blk_drew ?_ | refine blk_alloc ?_ _)); exact BK243.out)) : gb248 ≠ gb243)); clear BK220; clear BK221; clear BK236; clear BK243; clear HB; have BK220 := n0_; have BK221 := n1_; have BK236 := n2_; have BK243 := n3_; have HB := n4_; have BK248 := n5_; have GW248 := n6_; have GE248 := n7_; have NB220_248 := n8_; have NB248_220 := n9_; have NB221_248 := n10_; have NB248_221 := n11_; have NB236_248 := n12_; have NB248_236 := n13_; have NB243_248 := n14_; have NB248_243 := n15_; clear n0_ n1_ n2_ n3_ n4_ n5_ n6_ n7_ n8_ n9_ n10_ n11_ n12_ n13_ n14_ n15_; clear hb hbox hg; have hnb106 := NB248_220.out; have hnc106 := NB220_248.out; have hnb107 := NB248_221.out; have hnc107 := NB221_248.out; have hnb108 := NB248_236.out; have hnc108 := NB236_248.out; have hnb109 := NB248_243.out; have hnc109 := NB243_248.out; have hcz110_0 : w105.cell? ⟨gb248, 0, none⟩ = some (.int .i64 0) := (blk_cell BK248.out 0).trans rfl; have hcz110_1 : w105.cell? ⟨gb248, 1, none⟩ = some (.int .i64 0) := (blk_cell BK248.out 1).trans rfl; have hcz110_2 : w105.cell? ⟨gb248, 2, none⟩ = some (.int .i64 0) := (blk_cell BK248.out 2).trans rfl; have hfz110_0 := blk_frozen BK248.out 0; have hfz110_1 := blk_frozen BK248.out 1; have hfz110_2 := blk_frozen BK248.out 2))
                      go_ret
                      exact ⟨by first | rfl | (simp [errW_none, errW_some] <;> rfl) | (simp [*, errW_none, errW_some] <;> rfl), by repeat (first | (with_reducible first | exact HB.out | apply below_alloc | apply pw_below_drewN | apply below_drew1 | refine below_set ?_ GE220.out | refine below_set ?_ GE221.out | refine below_set ?_ GE236.out | refine below_set ?_ GE243.out | refine below_set ?_ GE248.out) | exact HB.out)⟩
                  · rw [if_neg c70] at H
                    have c70b0 : (t242 == t247) = false := by simpa using c70
                    (try (have c70b1 : decide (t242 = t247) = false := by simpa using c70))
                    (try (have c70b2 : (t242 == t247) = false := by simpa using c70))
                    (try (have c70b3 : ¬ (t242 = t247) := by simpa using c70))
                    clear c70
                    exact absurd ((Option.some.inj H).trans HR.out) (by decide)
  · replace c5 := Bool.eq_false_iff.mpr c5
    subst c5
    have H1 : (some false) = some r := by rw [if_neg (show ¬ (false = true) by decide)] at H; exact H
    clear H
    have H := H1
    clear H1
    exact absurd ((Option.some.inj H).trans HR.out) (by decide)

end Go.Proofs.YtcncndhoeiaoeaaDoor.PPlaceExact
