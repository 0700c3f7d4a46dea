-- WRITTEN BY A PROGRAM OF THIS SESSION (xprint.sh): the walks of plain functions over contracts of my own.
import Derived.Test.YtcncndhoeiaoeaaDoorPPlaceExactx0
import Derived.Test.YtcncndhoeiaoeaaDoorPPlaceExactx2
namespace Go.Proofs.YtcncndhoeiaoeaaDoor.PPlaceExact
open Go.RowKit Go.Proofs.YtcncndhoeiaoeaaDoorW.PrintWords Go.Proofs.YtcncndhoeiaoeaaDoorW.PrintLast Go.Proofs.YtcncndhoeiaoeaaDoorW.PrintMore
attribute [local go_sem] max2_int min2_int max_two min_two max_three min_three max_four min_four   -- for this text's walks alone
set_option linter.unusedVariables false
set_option linter.unusedSimpArgs false

/-! ### place_Number: function 11 -/
mutual
def place_Number.j0 : Nat → Int → Int → Bool → Int → Int → Int → Int → Int → Int → Int → Int → Option (Int × Bool)
  | 0, _, _, _, _, _, _, _, _, _, _, _ => none
  | k + 1, x6, x7, x15, x115000, x115001, x115002, x115003, x115004, x116000, x116001, x116002 => if x15 = true then (some (wrap64 (x116000 - 1), true)) else (if x116000 = 4 then (if x116001 = 0 then (if x116002 ≥ 0 then (place_Number.j1 k x6 x7 (decide (x116002 < x6)) x115000 x115001 x115002 x115003 x115004 x116000 x116001 x116002) else (place_Number.j1 k x6 x7 false x115000 x115001 x115002 x115003 x115004 x116000 x116001 x116002)) else (place_Number.j1 k x6 x7 false x115000 x115001 x115002 x115003 x115004 x116000 x116001 x116002)) else (place_Number.j1 k x6 x7 false x115000 x115001 x115002 x115003 x115004 x116000 x116001 x116002))
def place_Number.j1 : Nat → Int → Int → Bool → Int → Int → Int → Int → Int → Int → Int → Int → Option (Int × Bool)
  | 0, _, _, _, _, _, _, _, _, _, _, _ => none
  | k + 1, x6, x7, x37, x115000, x115001, x115002, x115003, x115004, x116000, x116001, x116002 => if x37 = true then (some (wrap64 (3 + x116002), true)) else (if x116000 = 5 then (if x116001 ≥ 1 then (if x116001 ≤ x115001 then (if x116002 ≥ 0 then (if x116002 < x7 then (some (wrap64 ((wrap64 ((wrap64 (3 + x6)) + (wrap64 ((wrap64 (x116001 - 1)) * x7)))) + x116002), true)) else (some (0, false))) else (some (0, false))) else (some (0, false))) else (some (0, false))) else (some (0, false)))
end
def place_Number.f (k : Nat) (a0_0 : Int) (a0_1 : Int) (a0_2 : Int) (a0_3 : Int) (a0_4 : Int) (a1_0 : Int) (a1_1 : Int) (a1_2 : Int) : Option (Int × Bool) := (conf_Roots.f k a0_0 a0_1 a0_2 a0_3 a0_4).bind fun t116 => ((conf_Cells.f k a0_0 a0_1 a0_2 a0_3 a0_4).bind fun t117 => (if t116 = 0 then (some (0, false)) else (if a1_0 ≥ 1 then (if a1_0 ≤ 3 then (if a1_1 = 0 then (place_Number.j0 k t116 t117 (a1_2 == 0) a0_0 a0_1 a0_2 a0_3 a0_4 a1_0 a1_1 a1_2) else (place_Number.j0 k t116 t117 false a0_0 a0_1 a0_2 a0_3 a0_4 a1_0 a1_1 a1_2)) else (place_Number.j0 k t116 t117 false a0_0 a0_1 a0_2 a0_3 a0_4 a1_0 a1_1 a1_2)) else (place_Number.j0 k t116 t117 false a0_0 a0_1 a0_2 a0_3 a0_4 a1_0 a1_1 a1_2))))
theorem place_Number.mono_l : ∀ k, (∀ y0 y1 y2 y3 y4 y5 y6 y7 y8 y9 y10, LeO (place_Number.j0 k y0 y1 y2 y3 y4 y5 y6 y7 y8 y9 y10) (place_Number.j0 (k + 1) y0 y1 y2 y3 y4 y5 y6 y7 y8 y9 y10)) ∧ (∀ y0 y1 y2 y3 y4 y5 y6 y7 y8 y9 y10, LeO (place_Number.j1 k y0 y1 y2 y3 y4 y5 y6 y7 y8 y9 y10) (place_Number.j1 (k + 1) y0 y1 y2 y3 y4 y5 y6 y7 y8 y9 y10))
  | 0 => ⟨fun _ _ _ _ _ _ _ _ _ _ _ r h => by simp [place_Number.j0] at h, fun _ _ _ _ _ _ _ _ _ _ _ r h => by simp [place_Number.j1] at h⟩
  | k + 1 => by
    obtain ⟨ih0, ih1⟩ := place_Number.mono_l k
    refine ⟨?_, ?_⟩
    · intro y0 y1 y2 y3 y4 y5 y6 y7 y8 y9 y10
      unfold place_Number.j0
      repeat' first
      | (with_reducible exact ih0 _ _ _ _ _ _ _ _ _ _ _)
      | (with_reducible exact ih1 _ _ _ _ _ _ _ _ _ _ _)
      | (with_reducible exact conf_Cells.mono _ _ _ _ _ _)
      | (with_reducible exact conf_Roots.mono _ _ _ _ _ _)
      | (with_reducible exact LeO.refl _)
      | (with_reducible exact LeO.none _)
      | (with_reducible refine LeO.ite ?_ ?_)
      | (with_reducible refine LeO.bind ?_ (fun _ => ?_))
      | exact ih0 _ _ _ _ _ _ _ _ _ _ _
      | exact ih1 _ _ _ _ _ _ _ _ _ _ _
      | exact conf_Cells.mono _ _ _ _ _ _
      | exact conf_Roots.mono _ _ _ _ _ _
      | exact LeO.none _
      | refine LeO.ite ?_ ?_
      | refine LeO.bind ?_ (fun _ => ?_)
    · intro y0 y1 y2 y3 y4 y5 y6 y7 y8 y9 y10
      unfold place_Number.j1
      repeat' first
      | (with_reducible exact ih0 _ _ _ _ _ _ _ _ _ _ _)
      | (with_reducible exact ih1 _ _ _ _ _ _ _ _ _ _ _)
      | (with_reducible exact conf_Cells.mono _ _ _ _ _ _)
      | (with_reducible exact conf_Roots.mono _ _ _ _ _ _)
      | (with_reducible exact LeO.refl _)
      | (with_reducible exact LeO.none _)
      | (with_reducible refine LeO.ite ?_ ?_)
      | (with_reducible refine LeO.bind ?_ (fun _ => ?_))
      | exact ih0 _ _ _ _ _ _ _ _ _ _ _
      | exact ih1 _ _ _ _ _ _ _ _ _ _ _
      | exact conf_Cells.mono _ _ _ _ _ _
      | exact conf_Roots.mono _ _ _ _ _ _
      | exact LeO.none _
      | refine LeO.ite ?_ ?_
      | refine LeO.bind ?_ (fun _ => ?_)
theorem place_Number.mono : ∀ a0 a1 a2 a3 a4 a5 a6 a7 k, LeO (place_Number.f k a0 a1 a2 a3 a4 a5 a6 a7) (place_Number.f (k + 1) a0 a1 a2 a3 a4 a5 a6 a7) := by
  intro a0 a1 a2 a3 a4 a5 a6 a7 k
  obtain ⟨ih0, ih1⟩ := place_Number.mono_l k
  unfold place_Number.f
  repeat' first
      | (with_reducible exact ih0 _ _ _ _ _ _ _ _ _ _ _)
      | (with_reducible exact ih1 _ _ _ _ _ _ _ _ _ _ _)
      | (with_reducible exact conf_Cells.mono _ _ _ _ _ _)
      | (with_reducible exact conf_Roots.mono _ _ _ _ _ _)
      | (with_reducible exact LeO.refl _)
      | (with_reducible exact LeO.none _)
      | (with_reducible refine LeO.ite ?_ ?_)
      | (with_reducible refine LeO.bind ?_ (fun _ => ?_))
      | exact ih0 _ _ _ _ _ _ _ _ _ _ _
      | exact ih1 _ _ _ _ _ _ _ _ _ _ _
      | exact conf_Cells.mono _ _ _ _ _ _
      | exact conf_Roots.mono _ _ _ _ _ _
      | exact LeO.none _
      | refine LeO.ite ?_ ?_
      | refine LeO.bind ?_ (fun _ => ?_)
set_option maxHeartbeats 8000000 in
set_option maxRecDepth 100000 in
theorem place_Number.calls (k : Nat) (a0_0 : Int) (a0_1 : Int) (a0_2 : Int) (a0_3 : Int) (a0_4 : Int) (a1_0 : Int) (a1_1 : Int) (a1_2 : Int) (r1 : Int) (r2 : Bool) (w : World) (h : place_Number.f k a0_0 a0_1 a0_2 a0_3 a0_4 a1_0 a1_1 a1_2 = some (r1, r2)) :
    Calls Tryd.prog 11 #[.agg #[.int .i64 a0_0, .int .i64 a0_1, .int .i64 a0_2, .int .i64 a0_3, .int .i64 a0_4], .agg #[.int .i64 a1_0, .int .i64 a1_1, .int .i64 a1_2]] w fun e w' => e = .returned (.tuple #[.int .i64 r1, .bool r2]) ∧ Below w.heap.size w w' := by
  have hu23 := Tryd.underlying23
  have hu25 := Tryd.underlying25
  have HB := Aside0.mk (Below.refl w.heap.size w)
  have H : ((conf_Roots.f k a0_0 a0_1 a0_2 a0_3 a0_4).bind fun t116 => ((conf_Cells.f k a0_0 a0_1 a0_2 a0_3 a0_4).bind fun t117 => (if t116 = 0 then (some (0, false)) else (if a1_0 ≥ 1 then (if a1_0 ≤ 3 then (if a1_1 = 0 then (place_Number.j0 k t116 t117 (a1_2 == 0) a0_0 a0_1 a0_2 a0_3 a0_4 a1_0 a1_1 a1_2) else (place_Number.j0 k t116 t117 false a0_0 a0_1 a0_2 a0_3 a0_4 a1_0 a1_1 a1_2)) else (place_Number.j0 k t116 t117 false a0_0 a0_1 a0_2 a0_3 a0_4 a1_0 a1_1 a1_2)) else (place_Number.j0 k t116 t117 false a0_0 a0_1 a0_2 a0_3 a0_4 a1_0 a1_1 a1_2))))) = some (r1, r2) := h
  clear h
  replace H := Option.bind_eq_some_iff.mp H
  obtain ⟨t116, A30, H⟩ := H
  replace H : ((conf_Cells.f k a0_0 a0_1 a0_2 a0_3 a0_4).bind fun t117 => (if t116 = 0 then (some (0, false)) else (if a1_0 ≥ 1 then (if a1_0 ≤ 3 then (if a1_1 = 0 then (place_Number.j0 k t116 t117 (a1_2 == 0) a0_0 a0_1 a0_2 a0_3 a0_4 a1_0 a1_1 a1_2) else (place_Number.j0 k t116 t117 false a0_0 a0_1 a0_2 a0_3 a0_4 a1_0 a1_1 a1_2)) else (place_Number.j0 k t116 t117 false a0_0 a0_1 a0_2 a0_3 a0_4 a1_0 a1_1 a1_2)) else (place_Number.j0 k t116 t117 false a0_0 a0_1 a0_2 a0_3 a0_4 a1_0 a1_1 a1_2)))) = some (r1, r2) := H
  have A3 := Aside0.mk A30
  clear A30
  replace H := Option.bind_eq_some_iff.mp H
  obtain ⟨t117, A40, H⟩ := H
  replace H : (if t116 = 0 then (some (0, false)) else (if a1_0 ≥ 1 then (if a1_0 ≤ 3 then (if a1_1 = 0 then (place_Number.j0 k t116 t117 (a1_2 == 0) a0_0 a0_1 a0_2 a0_3 a0_4 a1_0 a1_1 a1_2) else (place_Number.j0 k t116 t117 false a0_0 a0_1 a0_2 a0_3 a0_4 a1_0 a1_1 a1_2)) else (place_Number.j0 k t116 t117 false a0_0 a0_1 a0_2 a0_3 a0_4 a1_0 a1_1 a1_2)) else (place_Number.j0 k t116 t117 false a0_0 a0_1 a0_2 a0_3 a0_4 a1_0 a1_1 a1_2))) = some (r1, r2) := H
  have A4 := Aside0.mk A40
  clear A40
  by_cases c5 : t116 = 0
  · rw [if_pos c5] at H
    have c5b0 : (t116 == 0) = true := beq_iff_eq.mpr c5
    have c5b1 : (t116 != 0) = false := bne_eq_false_iff_eq.mpr c5
    clear c5
    simp only [Option.some.injEq, Prod.mk.injEq] at H
    obtain ⟨rfl, rfl⟩ := H
    go_enter Tryd.func11, Tryd.ntmps11
    try go_wp2_with (first | ((with_reducible refine gate_dst (N := 2) rfl ?_); refine box_event ?hg (N := 2) ?hd (cs := #[.int .i64 a0_0, .int .i64 a0_1, .int .i64 a0_2, .int .i64 a0_3, .int .i64 a0_4]) (t := 23) ?hr ?_; (case hd => rfl); (case hg => rfl); (case hr => first | (go_simp; done) | (go_simp; rfl)); intro gb114 hg w6 hbox hb; have n0_ := Aside0.mk (below_step (by repeat (first | (with_reducible first | exact HB.out | apply below_alloc | apply pw_below_drewN | apply below_drew1) | exact HB.out)) hb); have n1_ := Aside0.mk (hbox); have n2_ := Aside0.mk ((by rw [hg]; exact (below_size (by repeat (first | (with_reducible first | exact HB.out | apply below_alloc | apply pw_below_drewN | apply below_drew1) | exact HB.out))) : w.heap.size ≤ gb114)); have n3_ := Aside0.mk ((by rw [hg]; exact (below_size (by repeat (first | (with_reducible first | exact HB.out | apply below_alloc | apply pw_below_drewN | apply below_drew1) | exact HB.out))) : w.heap.size ≤ gb114)); clear HB; have HB := n0_; have BK114 := n1_; have GW114 := n2_; have GE114 := n3_; clear n0_ n1_ n2_ n3_; clear hb hbox hg) | ((with_reducible refine gate_dst (N := 3) rfl ?_); refine box_event ?hg (N := 3) ?hd (cs := #[.int .i64 a1_0, .int .i64 a1_1, .int .i64 a1_2]) (t := 25) ?hr ?_; (case hd => rfl); (case hg => rfl); (case hr => first | (go_simp; done) | (go_simp; rfl)); intro gb115 hg w7 hbox hb; have n0_ := Aside0.mk (blk_below (g := gb114) (o := .cells #[.int .i64 a0_0, .int .i64 a0_1, .int .i64 a0_2, .int .i64 a0_3, .int .i64 a0_4] 23 (0, 0)) (by (with_reducible repeat (first | refine blk_drewN ?_ _ | refine blk_drew ?_ | refine blk_alloc ?_ _)); exact BK114.out) hb); have n1_ := Aside0.mk (below_step (by repeat (first | (with_reducible first | exact HB.out | apply below_alloc | apply pw_below_drewN | apply below_drew1 | refine below_set ?_ GE114.out) | exact HB.out)) hb); have n2_ := Aside0.mk (hbox); have n3_ := Aside0.mk ((by rw [hg]; exact (below_size (by repeat (first | (with_reducible first | exact HB.out | apply below_alloc | apply pw_below_drewN | apply below_drew1 | refine below_set ?_ GE114.out) | exact HB.out))) : w.heap.size ≤ gb115)); have n4_ := Aside0.mk ((by rw [hg]; exact (below_size (by repeat (first | (with_reducible first | exact HB.out | apply below_alloc | apply pw_below_drewN | apply below_drew1 | refine below_set ?_ GE114.out) | exact HB.out))) : w.heap.size ≤ gb115)); have n5_ := Aside0.mk ((by rw [hg]; exact Nat.ne_of_lt (blk_lt (g := gb114) (o := .cells #[.int .i64 a0_0, .int .i64 a0_1, .int .i64 a0_2, .int .i64 a0_3, .int .i64 a0_4] 23 (0, 0)) (by (with_reducible repeat (first | refine blk_drewN ?_ _ | refine blk_drew ?_ | refine blk_alloc ?_ _)); exact BK114.out)) : gb114 ≠ gb115)); have n6_ := Aside0.mk ((by rw [hg]; exact Nat.ne_of_gt (blk_lt (g := gb114) (o := .cells #[.int .i64 a0_0, .int .i64 a0_1, .int .i64 a0_2, .int .i64 a0_3, .int .i64 a0_4] 23 (0, 0)) (by (with_reducible repeat (first | refine blk_drewN ?_ _ | refine blk_drew ?_ | refine blk_alloc ?_ _)); exact BK114.out)) : gb115 ≠ gb114)); clear BK114; clear HB; have BK114 := n0_; have HB := n1_; have BK115 := n2_; have GW115 := n3_; have GE115 := n4_; have NB114_115 := n5_; have NB115_114 := n6_; clear n0_ n1_ n2_ n3_ n4_ n5_ n6_; clear hb hbox hg))
    have n0_ := Aside0.mk (blk_drew BK114.out)
    have n1_ := Aside0.mk (blk_drew BK115.out)
    have n2_ := Aside0.mk (below_drew1 HB.out)
    clear BK114
    clear BK115
    clear HB
    have BK114 := n0_
    have BK115 := n1_
    have HB := n2_
    clear n0_ n1_ n2_
    refine start_ (n := 6) (S := fun w' => w'.cell? ⟨gb114, 0, none⟩ = some (.int .i64 a0_0) ∧ w'.cell? ⟨gb114, 1, none⟩ = some (.int .i64 a0_1) ∧ w'.cell? ⟨gb114, 2, none⟩ = some (.int .i64 a0_2) ∧ w'.cell? ⟨gb114, 3, none⟩ = some (.int .i64 a0_3) ∧ w'.cell? ⟨gb114, 4, none⟩ = some (.int .i64 a0_4)) (ds := []) #[false, false, false, false, false, false] (by kernel_rfl) rfl rfl ⟨(blk_cell BK114.out 0).trans rfl, (blk_cell BK114.out 1).trans rfl, (blk_cell BK114.out 2).trans rfl, (blk_cell BK114.out 3).trans rfl, (blk_cell BK114.out 4).trans rfl⟩ (fun hHeld => ?_)
    generalize w7.drew = w8 at BK114 BK115 HB hHeld ⊢
    refine take_ (i := 0) (N := some 8) (v := ?_) (a' := ?_) #[true, false, false, false, false, false] rfl rfl (by kernel_rfl) (fun _ _ _ h => h) (Or.inl ⟨by rfl, ?_⟩) hHeld ?_ ?_
    rotate_left
    · rintro w' ⟨s0, s1, s2, s3, s4⟩
      go_simp
      with_reducible rfl
    rotate_left
    · simp only [Act.put, List.setIfInBounds_toArray, List.set_cons_zero, List.set_cons_succ, i64_w, i32_w]
      rfl
    refine take_ (i := 2) (N := some 10) (v := ?_) (a' := ?_) #[true, false, true, false, false, false] rfl rfl (by kernel_rfl) (fun _ _ _ h => h) (Or.inl ⟨by rfl, ?_⟩) hHeld ?_ ?_
    rotate_left
    · rintro w' ⟨s0, s1, s2, s3, s4⟩
      go_simp
      with_reducible rfl
    rotate_left
    · simp only [Act.put, List.setIfInBounds_toArray, List.set_cons_zero, List.set_cons_succ, i64_w, i32_w]
      rfl
    refine one_ (i := 1) (N := some 9) #[true, true, true, false, false, false] rfl rfl (by kernel_rfl) (by decide) (fun K hK => ?_)
    refine goes_ Tryd.func38 (by kernel_rfl) rfl #[.agg #[.int .i64 a0_0, .int .i64 a0_1, .int .i64 a0_2, .int .i64 a0_3, .int .i64 a0_4]] (by rfl) rfl rfl (by (try simp only [List.map_toArray, List.map_cons, List.map_nil]); first | done | rfl | (simp only [List.length_drop, List.length_take]; rfl)) ?_
    with_reducible refine (conf_Roots.calls k a0_0 a0_1 a0_2 a0_3 a0_4 t116 _ A3.out).mono ?_
    rintro e w9 ⟨rfl, hb⟩
    refine ⟨_, rfl, ?_⟩
    have n0_ := Aside0.mk (blk_below (g := gb114) (o := .cells #[.int .i64 a0_0, .int .i64 a0_1, .int .i64 a0_2, .int .i64 a0_3, .int .i64 a0_4] 23 (0, 0)) (by (with_reducible repeat (first | refine blk_drewN ?_ _ | refine blk_drew ?_ | refine blk_alloc ?_ _)); exact BK114.out) hb)
    have n1_ := Aside0.mk (blk_below (g := gb115) (o := .cells #[.int .i64 a1_0, .int .i64 a1_1, .int .i64 a1_2] 25 (0, 0)) (by (with_reducible repeat (first | refine blk_drewN ?_ _ | refine blk_drew ?_ | refine blk_alloc ?_ _)); exact BK115.out) hb)
    have n2_ := Aside0.mk (below_step (by repeat (first | (with_reducible first | exact HB.out | apply below_alloc | apply pw_below_drewN | apply below_drew1 | refine below_set ?_ GE114.out | refine below_set ?_ GE115.out) | exact HB.out)) hb)
    clear BK114
    clear BK115
    clear HB
    have BK114 := n0_
    have BK115 := n1_
    have HB := n2_
    clear n0_ n1_ n2_
    (try clear hb)
    (try clear hb2)
    (try clear hk)
    (try clear hi)
    refine hK.out _ _ ⟨(blk_cell BK114.out 0).trans rfl, (blk_cell BK114.out 1).trans rfl, (blk_cell BK114.out 2).trans rfl, (blk_cell BK114.out 3).trans rfl, (blk_cell BK114.out 4).trans rfl⟩ (fun hHeld => ?_)
    clear hK K
    refine norm_ (a' := ?_) ?_ ?_
    rotate_left
    · show Act.put _ (some 9) _ = _
      simp only [Act.put, List.setIfInBounds_toArray, List.set_cons_zero, List.set_cons_succ, i64_w, i32_w]
      rfl
    refine one_ (i := 3) (N := some 11) #[true, true, true, true, false, false] rfl rfl (by kernel_rfl) (by decide) (fun K hK => ?_)
    refine goes_ Tryd.func39 (by kernel_rfl) rfl #[.agg #[.int .i64 a0_0, .int .i64 a0_1, .int .i64 a0_2, .int .i64 a0_3, .int .i64 a0_4]] (by rfl) rfl rfl (by (try simp only [List.map_toArray, List.map_cons, List.map_nil]); first | done | rfl | (simp only [List.length_drop, List.length_take]; rfl)) ?_
    with_reducible refine (conf_Cells.calls k a0_0 a0_1 a0_2 a0_3 a0_4 t117 _ A4.out).mono ?_
    rintro e w10 ⟨rfl, hb⟩
    refine ⟨_, rfl, ?_⟩
    have n0_ := Aside0.mk (blk_below (g := gb114) (o := .cells #[.int .i64 a0_0, .int .i64 a0_1, .int .i64 a0_2, .int .i64 a0_3, .int .i64 a0_4] 23 (0, 0)) (by (with_reducible repeat (first | refine blk_drewN ?_ _ | refine blk_drew ?_ | refine blk_alloc ?_ _)); exact BK114.out) hb)
    have n1_ := Aside0.mk (blk_below (g := gb115) (o := .cells #[.int .i64 a1_0, .int .i64 a1_1, .int .i64 a1_2] 25 (0, 0)) (by (with_reducible repeat (first | refine blk_drewN ?_ _ | refine blk_drew ?_ | refine blk_alloc ?_ _)); exact BK115.out) hb)
    have n2_ := Aside0.mk (below_step (by repeat (first | (with_reducible first | exact HB.out | apply below_alloc | apply pw_below_drewN | apply below_drew1 | refine below_set ?_ GE114.out | refine below_set ?_ GE115.out) | exact HB.out)) hb)
    clear BK114
    clear BK115
    clear HB
    have BK114 := n0_
    have BK115 := n1_
    have HB := n2_
    clear n0_ n1_ n2_
    (try clear hb)
    (try clear hb2)
    (try clear hk)
    (try clear hi)
    refine hK.out _ _ ⟨(blk_cell BK114.out 0).trans rfl, (blk_cell BK114.out 1).trans rfl, (blk_cell BK114.out 2).trans rfl, (blk_cell BK114.out 3).trans rfl, (blk_cell BK114.out 4).trans rfl⟩ (fun hHeld => ?_)
    clear hK K
    refine norm_ (a' := ?_) ?_ ?_
    rotate_left
    · show Act.put _ (some 11) _ = _
      simp only [Act.put, List.setIfInBounds_toArray, List.set_cons_zero, List.set_cons_succ, i64_w, i32_w]
      rfl
    refine pure_ (i := 4) (N := some 6) (v := ?_) (a' := ?_) #[true, true, true, true, true, false] rfl rfl (by kernel_rfl) (fun _ _ _ h => h) (Or.inl ⟨by rfl, ?_⟩) ?_ ?_
    rotate_left
    · intro w'
      go_simp
      with_reducible rfl
    rotate_left
    · simp only [Act.put, List.setIfInBounds_toArray, List.set_cons_zero, List.set_cons_succ, i64_w, i32_w]
      rfl
    refine pure_ (i := 5) (N := some 7) (v := ?_) (a' := ?_) #[true, true, true, true, true, true] rfl rfl (by kernel_rfl) (fun _ _ _ h => h) (Or.inl ⟨by rfl, ?_⟩) ?_ ?_
    rotate_left
    · intro w'
      go_simp
      with_reducible rfl
    rotate_left
    · simp only [Act.put, List.setIfInBounds_toArray, List.set_cons_zero, List.set_cons_succ, i64_w, i32_w]
      rfl
    refine done_ (by kernel_rfl) ?_
    try go_wp2
    go_ret2
    exact ⟨by first | rfl | (simp [errW_none, errW_some] <;> rfl) | (simp [*, errW_none, errW_some] <;> rfl), by repeat (first | (with_reducible first | exact HB.out | apply below_alloc | apply pw_below_drewN | apply below_drew1 | refine below_set ?_ GE114.out | refine below_set ?_ GE115.out) | exact HB.out)⟩
  · rw [if_neg c5] at H
    have c5b0 : (t116 == 0) = false := beq_eq_false_iff_ne.mpr c5
    have c5b1 : (t116 != 0) = true := bne_iff_ne.mpr c5
    have HC11 := Aside0.mk H
    clear H
    go_enter Tryd.func11, Tryd.ntmps11
    try go_wp2_with (first | ((with_reducible refine gate_dst (N := 2) rfl ?_); refine box_event ?hg (N := 2) ?hd (cs := #[.int .i64 a0_0, .int .i64 a0_1, .int .i64 a0_2, .int .i64 a0_3, .int .i64 a0_4]) (t := 23) ?hr ?_; (case hd => rfl); (case hg => rfl); (case hr => first | (go_simp; done) | (go_simp; rfl)); intro gb114 hg w12 hbox hb; have n0_ := Aside0.mk (below_step (by repeat (first | (with_reducible first | exact HB.out | apply below_alloc | apply pw_below_drewN | apply below_drew1) | exact HB.out)) hb); have n1_ := Aside0.mk (hbox); have n2_ := Aside0.mk ((by rw [hg]; exact (below_size (by repeat (first | (with_reducible first | exact HB.out | apply below_alloc | apply pw_below_drewN | apply below_drew1) | exact HB.out))) : w.heap.size ≤ gb114)); have n3_ := Aside0.mk ((by rw [hg]; exact (below_size (by repeat (first | (with_reducible first | exact HB.out | apply below_alloc | apply pw_below_drewN | apply below_drew1) | exact HB.out))) : w.heap.size ≤ gb114)); clear HB; have HB := n0_; have BK114 := n1_; have GW114 := n2_; have GE114 := n3_; clear n0_ n1_ n2_ n3_; clear hb hbox hg) | ((with_reducible refine gate_dst (N := 3) rfl ?_); refine box_event ?hg (N := 3) ?hd (cs := #[.int .i64 a1_0, .int .i64 a1_1, .int .i64 a1_2]) (t := 25) ?hr ?_; (case hd => rfl); (case hg => rfl); (case hr => first | (go_simp; done) | (go_simp; rfl)); intro gb115 hg w13 hbox hb; have n0_ := Aside0.mk (blk_below (g := gb114) (o := .cells #[.int .i64 a0_0, .int .i64 a0_1, .int .i64 a0_2, .int .i64 a0_3, .int .i64 a0_4] 23 (0, 0)) (by (with_reducible repeat (first | refine blk_drewN ?_ _ | refine blk_drew ?_ | refine blk_alloc ?_ _)); exact BK114.out) hb); have n1_ := Aside0.mk (below_step (by repeat (first | (with_reducible first | exact HB.out | apply below_alloc | apply pw_below_drewN | apply below_drew1 | refine below_set ?_ GE114.out) | exact HB.out)) hb); have n2_ := Aside0.mk (hbox); have n3_ := Aside0.mk ((by rw [hg]; exact (below_size (by repeat (first | (with_reducible first | exact HB.out | apply below_alloc | apply pw_below_drewN | apply below_drew1 | refine below_set ?_ GE114.out) | exact HB.out))) : w.heap.size ≤ gb115)); have n4_ := Aside0.mk ((by rw [hg]; exact (below_size (by repeat (first | (with_reducible first | exact HB.out | apply below_alloc | apply pw_below_drewN | apply below_drew1 | refine below_set ?_ GE114.out) | exact HB.out))) : w.heap.size ≤ gb115)); have n5_ := Aside0.mk ((by rw [hg]; exact Nat.ne_of_lt (blk_lt (g := gb114) (o := .cells #[.int .i64 a0_0, .int .i64 a0_1, .int .i64 a0_2, .int .i64 a0_3, .int .i64 a0_4] 23 (0, 0)) (by (with_reducible repeat (first | refine blk_drewN ?_ _ | refine blk_drew ?_ | refine blk_alloc ?_ _)); exact BK114.out)) : gb114 ≠ gb115)); have n6_ := Aside0.mk ((by rw [hg]; exact Nat.ne_of_gt (blk_lt (g := gb114) (o := .cells #[.int .i64 a0_0, .int .i64 a0_1, .int .i64 a0_2, .int .i64 a0_3, .int .i64 a0_4] 23 (0, 0)) (by (with_reducible repeat (first | refine blk_drewN ?_ _ | refine blk_drew ?_ | refine blk_alloc ?_ _)); exact BK114.out)) : gb115 ≠ gb114)); clear BK114; clear HB; have BK114 := n0_; have HB := n1_; have BK115 := n2_; have GW115 := n3_; have GE115 := n4_; have NB114_115 := n5_; have NB115_114 := n6_; clear n0_ n1_ n2_ n3_ n4_ n5_ n6_; clear hb hbox hg))
    have n0_ := Aside0.mk (blk_drew BK114.out)
    have n1_ := Aside0.mk (blk_drew BK115.out)
    have n2_ := Aside0.mk (below_drew1 HB.out)
    clear BK114
    clear BK115
    clear HB
    have BK114 := n0_
    have BK115 := n1_
    have HB := n2_
    clear n0_ n1_ n2_
    refine start_ (n := 6) (S := fun w' => w'.cell? ⟨gb114, 0, none⟩ = some (.int .i64 a0_0) ∧ w'.cell? ⟨gb114, 1, none⟩ = some (.int .i64 a0_1) ∧ w'.cell? ⟨gb114, 2, none⟩ = some (.int .i64 a0_2) ∧ w'.cell? ⟨gb114, 3, none⟩ = some (.int .i64 a0_3) ∧ w'.cell? ⟨gb114, 4, none⟩ = some (.int .i64 a0_4)) (ds := []) #[false, false, false, false, false, false] (by kernel_rfl) rfl rfl ⟨(blk_cell BK114.out 0).trans rfl, (blk_cell BK114.out 1).trans rfl, (blk_cell BK114.out 2).trans rfl, (blk_cell BK114.out 3).trans rfl, (blk_cell BK114.out 4).trans rfl⟩ (fun hHeld => ?_)
    generalize w13.drew = w14 at BK114 BK115 HB hHeld ⊢
    refine take_ (i := 0) (N := some 8) (v := ?_) (a' := ?_) #[true, false, false, false, false, false] rfl rfl (by kernel_rfl) (fun _ _ _ h => h) (Or.inl ⟨by rfl, ?_⟩) hHeld ?_ ?_
    rotate_left
    · rintro w' ⟨s0, s1, s2, s3, s4⟩
      go_simp
      with_reducible rfl
    rotate_left
    · simp only [Act.put, List.setIfInBounds_toArray, List.set_cons_zero, List.set_cons_succ, i64_w, i32_w]
      rfl
    refine take_ (i := 2) (N := some 10) (v := ?_) (a' := ?_) #[true, false, true, false, false, false] rfl rfl (by kernel_rfl) (fun _ _ _ h => h) (Or.inl ⟨by rfl, ?_⟩) hHeld ?_ ?_
    rotate_left
    · rintro w' ⟨s0, s1, s2, s3, s4⟩
      go_simp
      with_reducible rfl
    rotate_left
    · simp only [Act.put, List.setIfInBounds_toArray, List.set_cons_zero, List.set_cons_succ, i64_w, i32_w]
      rfl
    refine one_ (i := 1) (N := some 9) #[true, true, true, false, false, false] rfl rfl (by kernel_rfl) (by decide) (fun K hK => ?_)
    refine goes_ Tryd.func38 (by kernel_rfl) rfl #[.agg #[.int .i64 a0_0, .int .i64 a0_1, .int .i64 a0_2, .int .i64 a0_3, .int .i64 a0_4]] (by rfl) rfl rfl (by (try simp only [List.map_toArray, List.map_cons, List.map_nil]); first | done | rfl | (simp only [List.length_drop, List.length_take]; rfl)) ?_
    with_reducible refine (conf_Roots.calls k a0_0 a0_1 a0_2 a0_3 a0_4 t116 _ A3.out).mono ?_
    rintro e w15 ⟨rfl, hb⟩
    refine ⟨_, rfl, ?_⟩
    have n0_ := Aside0.mk (blk_below (g := gb114) (o := .cells #[.int .i64 a0_0, .int .i64 a0_1, .int .i64 a0_2, .int .i64 a0_3, .int .i64 a0_4] 23 (0, 0)) (by (with_reducible repeat (first | refine blk_drewN ?_ _ | refine blk_drew ?_ | refine blk_alloc ?_ _)); exact BK114.out) hb)
    have n1_ := Aside0.mk (blk_below (g := gb115) (o := .cells #[.int .i64 a1_0, .int .i64 a1_1, .int .i64 a1_2] 25 (0, 0)) (by (with_reducible repeat (first | refine blk_drewN ?_ _ | refine blk_drew ?_ | refine blk_alloc ?_ _)); exact BK115.out) hb)
    have n2_ := Aside0.mk (below_step (by repeat (first | (with_reducible first | exact HB.out | apply below_alloc | apply pw_below_drewN | apply below_drew1 | refine below_set ?_ GE114.out | refine below_set ?_ GE115.out) | exact HB.out)) hb)
    clear BK114
    clear BK115
    clear HB
    have BK114 := n0_
    have BK115 := n1_
    have HB := n2_
    clear n0_ n1_ n2_
    (try clear hb)
    (try clear hb2)
    (try clear hk)
    (try clear hi)
    refine hK.out _ _ ⟨(blk_cell BK114.out 0).trans rfl, (blk_cell BK114.out 1).trans rfl, (blk_cell BK114.out 2).trans rfl, (blk_cell BK114.out 3).trans rfl, (blk_cell BK114.out 4).trans rfl⟩ (fun hHeld => ?_)
    clear hK K
    refine norm_ (a' := ?_) ?_ ?_
    rotate_left
    · show Act.put _ (some 9) _ = _
      simp only [Act.put, List.setIfInBounds_toArray, List.set_cons_zero, List.set_cons_succ, i64_w, i32_w]
      rfl
    refine one_ (i := 3) (N := some 11) #[true, true, true, true, false, false] rfl rfl (by kernel_rfl) (by decide) (fun K hK => ?_)
    refine goes_ Tryd.func39 (by kernel_rfl) rfl #[.agg #[.int .i64 a0_0, .int .i64 a0_1, .int .i64 a0_2, .int .i64 a0_3, .int .i64 a0_4]] (by rfl) rfl rfl (by (try simp only [List.map_toArray, List.map_cons, List.map_nil]); first | done | rfl | (simp only [List.length_drop, List.length_take]; rfl)) ?_
    with_reducible refine (conf_Cells.calls k a0_0 a0_1 a0_2 a0_3 a0_4 t117 _ A4.out).mono ?_
    rintro e w16 ⟨rfl, hb⟩
    refine ⟨_, rfl, ?_⟩
    have n0_ := Aside0.mk (blk_below (g := gb114) (o := .cells #[.int .i64 a0_0, .int .i64 a0_1, .int .i64 a0_2, .int .i64 a0_3, .int .i64 a0_4] 23 (0, 0)) (by (with_reducible repeat (first | refine blk_drewN ?_ _ | refine blk_drew ?_ | refine blk_alloc ?_ _)); exact BK114.out) hb)
    have n1_ := Aside0.mk (blk_below (g := gb115) (o := .cells #[.int .i64 a1_0, .int .i64 a1_1, .int .i64 a1_2] 25 (0, 0)) (by (with_reducible repeat (first | refine blk_drewN ?_ _ | refine blk_drew ?_ | refine blk_alloc ?_ _)); exact BK115.out) hb)
    have n2_ := Aside0.mk (below_step (by repeat (first | (with_reducible first | exact HB.out | apply below_alloc | apply pw_below_drewN | apply below_drew1 | refine below_set ?_ GE114.out | refine below_set ?_ GE115.out) | exact HB.out)) hb)
    clear BK114
    clear BK115
    clear HB
    have BK114 := n0_
    have BK115 := n1_
    have HB := n2_
    clear n0_ n1_ n2_
    (try clear hb)
    (try clear hb2)
    (try clear hk)
    (try clear hi)
    refine hK.out _ _ ⟨(blk_cell BK114.out 0).trans rfl, (blk_cell BK114.out 1).trans rfl, (blk_cell BK114.out 2).trans rfl, (blk_cell BK114.out 3).trans rfl, (blk_cell BK114.out 4).trans rfl⟩ (fun hHeld => ?_)
    clear hK K
    refine norm_ (a' := ?_) ?_ ?_
    rotate_left
    · show Act.put _ (some 11) _ = _
      simp only [Act.put, List.setIfInBounds_toArray, List.set_cons_zero, List.set_cons_succ, i64_w, i32_w]
      rfl
    refine pure_ (i := 4) (N := some 6) (v := ?_) (a' := ?_) #[true, true, true, true, true, false] rfl rfl (by kernel_rfl) (fun _ _ _ h => h) (Or.inl ⟨by rfl, ?_⟩) ?_ ?_
    rotate_left
    · intro w'
      go_simp
      with_reducible rfl
    rotate_left
    · simp only [Act.put, List.setIfInBounds_toArray, List.set_cons_zero, List.set_cons_succ, i64_w, i32_w]
      rfl
    refine pure_ (i := 5) (N := some 7) (v := ?_) (a' := ?_) #[true, true, true, true, true, true] rfl rfl (by kernel_rfl) (fun _ _ _ h => h) (Or.inl ⟨by rfl, ?_⟩) ?_ ?_
    rotate_left
    · intro w'
      go_simp
      with_reducible rfl
    rotate_left
    · simp only [Act.put, List.setIfInBounds_toArray, List.set_cons_zero, List.set_cons_succ, i64_w, i32_w]
      rfl
    refine done_ (by kernel_rfl) ?_
    go_upto_region 4 with (fail)
    go_cut [15] (fun v15 wc => ∃ (kq : Nat) (x15_10 : Bool), v15 = .bool x15_10 ∧ Aside0 (place_Number.j0 kq t116 t117 x15_10 a0_0 a0_1 a0_2 a0_3 a0_4 a1_0 a1_1 a1_2 = some (r1, r2)) ∧ Aside0 (kq ≤ k) ∧ Aside0 (wc.heap[gb114]? = some (.cells #[.int .i64 a0_0, .int .i64 a0_1, .int .i64 a0_2, .int .i64 a0_3, .int .i64 a0_4] 23 (0, 0))) ∧ Aside0 (wc.heap[gb115]? = some (.cells #[.int .i64 a1_0, .int .i64 a1_1, .int .i64 a1_2] 25 (0, 0))) ∧ Aside0 (Below w.heap.size w wc))
    case first =>
      have H := HC11.out
      clear HC11
      by_cases c17 : a1_0 ≥ 1
      · rw [if_pos c17] at H
        have c17b0 : decide (1 ≤ a1_0) = true := decide_eq_true c17
        clear c17
        (first | rw [c17b0] | (simp only [i64_w, i32_w]; rw [c17b0]) | skip)
        by_cases c18 : a1_0 ≤ 3
        · rw [if_pos c18] at H
          have c18b0 : decide (a1_0 ≤ 3) = true := decide_eq_true c18
          clear c18
          by_cases c19 : a1_1 = 0
          · rw [if_pos c19] at H
            have c19b0 : (a1_1 == 0) = true := beq_iff_eq.mpr c19
            have c19b1 : (a1_1 != 0) = false := bne_eq_false_iff_eq.mpr c19
            clear c19
            have H' := Aside0.mk H
            clear H
            have hnb20 := NB115_114.out
            have hnc20 := NB114_115.out
            have hcz21_0 : w16.cell? ⟨gb115, 0, none⟩ = some (.int .i64 a1_0) := (blk_cell BK115.out 0).trans rfl
            have hcz21_1 : w16.cell? ⟨gb115, 1, none⟩ = some (.int .i64 a1_1) := (blk_cell BK115.out 1).trans rfl
            have hcz21_2 : w16.cell? ⟨gb115, 2, none⟩ = some (.int .i64 a1_2) := (blk_cell BK115.out 2).trans rfl
            have hfz21_0 := blk_frozen BK115.out 0
            have hfz21_1 := blk_frozen BK115.out 1
            have hfz21_2 := blk_frozen BK115.out 2
            go_wp2
            go_meet
            case rel => exact ⟨_, ((a1_2 == 0)), (by first | rfl | (simp; done) | (simp [*]; done)), H', ⟨by first | omega | exact Nat.le_refl _⟩, ⟨by (with_reducible repeat (first | refine blk_drewN ?_ _ | refine blk_drew ?_ | refine blk_alloc ?_ _)); exact BK114.out⟩, ⟨by (with_reducible repeat (first | refine blk_drewN ?_ _ | refine blk_drew ?_ | refine blk_alloc ?_ _)); exact BK115.out⟩, ⟨by repeat (first | (with_reducible first | exact HB.out | apply below_alloc | apply pw_below_drewN | apply below_drew1 | refine below_set ?_ GE114.out | refine below_set ?_ GE115.out) | exact HB.out)⟩⟩
          · rw [if_neg c19] at H
            have c19b0 : (a1_1 == 0) = false := beq_eq_false_iff_ne.mpr c19
            have c19b1 : (a1_1 != 0) = true := bne_iff_ne.mpr c19
            have H' := Aside0.mk H
            clear H
            have hnb22 := NB115_114.out
            have hnc22 := NB114_115.out
            have hcz23_0 : w16.cell? ⟨gb115, 0, none⟩ = some (.int .i64 a1_0) := (blk_cell BK115.out 0).trans rfl
            have hcz23_1 : w16.cell? ⟨gb115, 1, none⟩ = some (.int .i64 a1_1) := (blk_cell BK115.out 1).trans rfl
            have hcz23_2 : w16.cell? ⟨gb115, 2, none⟩ = some (.int .i64 a1_2) := (blk_cell BK115.out 2).trans rfl
            have hfz23_0 := blk_frozen BK115.out 0
            have hfz23_1 := blk_frozen BK115.out 1
            have hfz23_2 := blk_frozen BK115.out 2
            go_wp2
            go_meet
            case rel => exact ⟨_, (false), (by first | rfl | (simp; done) | (simp [*]; done)), H', ⟨by first | omega | exact Nat.le_refl _⟩, ⟨by (with_reducible repeat (first | refine blk_drewN ?_ _ | refine blk_drew ?_ | refine blk_alloc ?_ _)); exact BK114.out⟩, ⟨by (with_reducible repeat (first | refine blk_drewN ?_ _ | refine blk_drew ?_ | refine blk_alloc ?_ _)); exact BK115.out⟩, ⟨by repeat (first | (with_reducible first | exact HB.out | apply below_alloc | apply pw_below_drewN | apply below_drew1 | refine below_set ?_ GE114.out | refine below_set ?_ GE115.out) | exact HB.out)⟩⟩
        · rw [if_neg c18] at H
          have c18b0 : decide (a1_0 ≤ 3) = false := decide_eq_false c18
          clear c18
          have H' := Aside0.mk H
          clear H
          have hnb24 := NB115_114.out
          have hnc24 := NB114_115.out
          have hcz25_0 : w16.cell? ⟨gb115, 0, none⟩ = some (.int .i64 a1_0) := (blk_cell BK115.out 0).trans rfl
          have hcz25_1 : w16.cell? ⟨gb115, 1, none⟩ = some (.int .i64 a1_1) := (blk_cell BK115.out 1).trans rfl
          have hcz25_2 : w16.cell? ⟨gb115, 2, none⟩ = some (.int .i64 a1_2) := (blk_cell BK115.out 2).trans rfl
          have hfz25_0 := blk_frozen BK115.out 0
          have hfz25_1 := blk_frozen BK115.out 1
          have hfz25_2 := blk_frozen BK115.out 2
          go_wp2
          go_meet
          case rel => exact ⟨_, (false), (by first | rfl | (simp; done) | (simp [*]; done)), H', ⟨by first | omega | exact Nat.le_refl _⟩, ⟨by (with_reducible repeat (first | refine blk_drewN ?_ _ | refine blk_drew ?_ | refine blk_alloc ?_ _)); exact BK114.out⟩, ⟨by (with_reducible repeat (first | refine blk_drewN ?_ _ | refine blk_drew ?_ | refine blk_alloc ?_ _)); exact BK115.out⟩, ⟨by repeat (first | (with_reducible first | exact HB.out | apply below_alloc | apply pw_below_drewN | apply below_drew1 | refine below_set ?_ GE114.out | refine below_set ?_ GE115.out) | exact HB.out)⟩⟩
      · rw [if_neg c17] at H
        have c17b0 : decide (1 ≤ a1_0) = false := decide_eq_false c17
        clear c17
        (first | rw [c17b0] | (simp only [i64_w, i32_w]; rw [c17b0]) | skip)
        have H' := Aside0.mk H
        clear H
        have hnb26 := NB115_114.out
        have hnc26 := NB114_115.out
        have hcz27_0 : w16.cell? ⟨gb115, 0, none⟩ = some (.int .i64 a1_0) := (blk_cell BK115.out 0).trans rfl
        have hcz27_1 : w16.cell? ⟨gb115, 1, none⟩ = some (.int .i64 a1_1) := (blk_cell BK115.out 1).trans rfl
        have hcz27_2 : w16.cell? ⟨gb115, 2, none⟩ = some (.int .i64 a1_2) := (blk_cell BK115.out 2).trans rfl
        have hfz27_0 := blk_frozen BK115.out 0
        have hfz27_1 := blk_frozen BK115.out 1
        have hfz27_2 := blk_frozen BK115.out 2
        go_wp2
        go_meet
        case rel => exact ⟨_, (false), (by first | rfl | (simp; done) | (simp [*]; done)), H', ⟨by first | omega | exact Nat.le_refl _⟩, ⟨by (with_reducible repeat (first | refine blk_drewN ?_ _ | refine blk_drew ?_ | refine blk_alloc ?_ _)); exact BK114.out⟩, ⟨by (with_reducible repeat (first | refine blk_drewN ?_ _ | refine blk_drew ?_ | refine blk_alloc ?_ _)); exact BK115.out⟩, ⟨by repeat (first | (with_reducible first | exact HB.out | apply below_alloc | apply pw_below_drewN | apply below_drew1 | refine below_set ?_ GE114.out | refine below_set ?_ GE115.out) | exact HB.out)⟩⟩
    case rest =>
      clear HC11
      try clear c1
      try clear c2
      try clear p2
      try clear c3
      try clear c5
      try clear c5b0
      try clear c5b1
      try clear c11
      try clear c17
      try clear c17b0
      try clear c18
      try clear c18b0
      try clear c19
      try clear c19b0
      try clear c19b1
      try clear c20
      try clear c22
      try clear c24
      try clear c26
      try clear hcz21_0
      try clear hcz21_1
      try clear hcz21_2
      try clear hcz23_0
      try clear hcz23_1
      try clear hcz23_2
      try clear hcz25_0
      try clear hcz25_1
      try clear hcz25_2
      try clear hcz27_0
      try clear hcz27_1
      try clear hcz27_2
      try clear hfz21_0
      try clear hfz21_1
      try clear hfz21_2
      try clear hfz23_0
      try clear hfz23_1
      try clear hfz23_2
      try clear hfz25_0
      try clear hfz25_1
      try clear hfz25_2
      try clear hfz27_0
      try clear hfz27_1
      try clear hfz27_2
      obtain ⟨kq, x15_10, rfl, HA, HJ10, BK114, BK115, HB⟩ := hcut
      cases kq with
      | zero => exact absurd HA.out (by simp [place_Number.j0])
      | succ kj10 =>
        have H := HA.out
        clear HA
        simp only [place_Number.j0] at H
        by_cases c28 : x15_10 = true
        · subst c28
          have H1 : (some (wrap64 (a1_0 - 1), true)) = some (r1, r2) := by rw [if_pos rfl] at H; exact H
          clear H
          have H := H1
          clear H1
          simp only [Option.some.injEq, Prod.mk.injEq] at H
          obtain ⟨rfl, rfl⟩ := H
          have hnb29 := NB115_114.out
          have hnc29 := NB114_115.out
          have hcz30_0 : wc.cell? ⟨gb115, 0, none⟩ = some (.int .i64 a1_0) := (blk_cell BK115.out 0).trans rfl
          have hcz30_1 : wc.cell? ⟨gb115, 1, none⟩ = some (.int .i64 a1_1) := (blk_cell BK115.out 1).trans rfl
          have hcz30_2 : wc.cell? ⟨gb115, 2, none⟩ = some (.int .i64 a1_2) := (blk_cell BK115.out 2).trans rfl
          have hfz30_0 := blk_frozen BK115.out 0
          have hfz30_1 := blk_frozen BK115.out 1
          have hfz30_2 := blk_frozen BK115.out 2
          go_wp2
          go_ret2
          exact ⟨by first | rfl | (simp [errW_none, errW_some] <;> rfl) | (simp [*, errW_none, errW_some] <;> rfl), by repeat (first | (with_reducible first | exact HB.out | apply below_alloc | apply pw_below_drewN | apply below_drew1 | refine below_set ?_ GE114.out | refine below_set ?_ GE115.out) | exact HB.out)⟩
        · replace c28 := Bool.eq_false_iff.mpr c28
          subst c28
          have H1 : (if a1_0 = 4 then (if a1_1 = 0 then (if a1_2 ≥ 0 then (place_Number.j1 kj10 t116 t117 (decide (a1_2 < t116)) a0_0 a0_1 a0_2 a0_3 a0_4 a1_0 a1_1 a1_2) else (place_Number.j1 kj10 t116 t117 false a0_0 a0_1 a0_2 a0_3 a0_4 a1_0 a1_1 a1_2)) else (place_Number.j1 kj10 t116 t117 false a0_0 a0_1 a0_2 a0_3 a0_4 a1_0 a1_1 a1_2)) else (place_Number.j1 kj10 t116 t117 false a0_0 a0_1 a0_2 a0_3 a0_4 a1_0 a1_1 a1_2)) = some (r1, r2) := by rw [if_neg (show ¬ (false = true) by decide)] at H; exact H
          clear H
          have H := H1
          clear H1
          have HC31 := Aside0.mk H
          clear H
          go_upto_region 6 with (fail)
          go_cut [37] (fun v37 wc => ∃ (kq : Nat) (x37_30 : Bool), v37 = .bool x37_30 ∧ Aside0 (place_Number.j1 kq t116 t117 x37_30 a0_0 a0_1 a0_2 a0_3 a0_4 a1_0 a1_1 a1_2 = some (r1, r2)) ∧ Aside0 (kq ≤ kj10) ∧ Aside0 (wc.heap[gb114]? = some (.cells #[.int .i64 a0_0, .int .i64 a0_1, .int .i64 a0_2, .int .i64 a0_3, .int .i64 a0_4] 23 (0, 0))) ∧ Aside0 (wc.heap[gb115]? = some (.cells #[.int .i64 a1_0, .int .i64 a1_1, .int .i64 a1_2] 25 (0, 0))) ∧ Aside0 (Below w.heap.size w wc))
          case first =>
            have H := HC31.out
            clear HC31
            by_cases c32 : a1_0 = 4
            · rw [if_pos c32] at H
              have c32b0 : (a1_0 == 4) = true := beq_iff_eq.mpr c32
              have c32b1 : (a1_0 != 4) = false := bne_eq_false_iff_eq.mpr c32
              clear c32
              (first | rw [c32b0] | (simp only [i64_w, i32_w]; rw [c32b0]) | skip)
              by_cases c33 : a1_1 = 0
              · rw [if_pos c33] at H
                have c33b0 : (a1_1 == 0) = true := beq_iff_eq.mpr c33
                have c33b1 : (a1_1 != 0) = false := bne_eq_false_iff_eq.mpr c33
                clear c33
                by_cases c34 : a1_2 ≥ 0
                · rw [if_pos c34] at H
                  have c34b0 : decide (0 ≤ a1_2) = true := decide_eq_true c34
                  clear c34
                  have H' := Aside0.mk H
                  clear H
                  have hnb35 := NB115_114.out
                  have hnc35 := NB114_115.out
                  have hcz36_0 : wc.cell? ⟨gb115, 0, none⟩ = some (.int .i64 a1_0) := (blk_cell BK115.out 0).trans rfl
                  have hcz36_1 : wc.cell? ⟨gb115, 1, none⟩ = some (.int .i64 a1_1) := (blk_cell BK115.out 1).trans rfl
                  have hcz36_2 : wc.cell? ⟨gb115, 2, none⟩ = some (.int .i64 a1_2) := (blk_cell BK115.out 2).trans rfl
                  have hfz36_0 := blk_frozen BK115.out 0
                  have hfz36_1 := blk_frozen BK115.out 1
                  have hfz36_2 := blk_frozen BK115.out 2
                  go_wp2
                  go_meet
                  case rel => exact ⟨_, (decide (a1_2 < t116)), (by first | rfl | (simp; done) | (simp [*]; done)), H', ⟨by have := HJ10.out; first | omega | exact Nat.le_refl _⟩, ⟨by (with_reducible repeat (first | refine blk_drewN ?_ _ | refine blk_drew ?_ | refine blk_alloc ?_ _)); exact BK114.out⟩, ⟨by (with_reducible repeat (first | refine blk_drewN ?_ _ | refine blk_drew ?_ | refine blk_alloc ?_ _)); exact BK115.out⟩, ⟨by repeat (first | (with_reducible first | exact HB.out | apply below_alloc | apply pw_below_drewN | apply below_drew1 | refine below_set ?_ GE114.out | refine below_set ?_ GE115.out) | exact HB.out)⟩⟩
                · rw [if_neg c34] at H
                  have c34b0 : decide (0 ≤ a1_2) = false := decide_eq_false c34
                  clear c34
                  have H' := Aside0.mk H
                  clear H
                  have hnb37 := NB115_114.out
                  have hnc37 := NB114_115.out
                  have hcz38_0 : wc.cell? ⟨gb115, 0, none⟩ = some (.int .i64 a1_0) := (blk_cell BK115.out 0).trans rfl
                  have hcz38_1 : wc.cell? ⟨gb115, 1, none⟩ = some (.int .i64 a1_1) := (blk_cell BK115.out 1).trans rfl
                  have hcz38_2 : wc.cell? ⟨gb115, 2, none⟩ = some (.int .i64 a1_2) := (blk_cell BK115.out 2).trans rfl
                  have hfz38_0 := blk_frozen BK115.out 0
                  have hfz38_1 := blk_frozen BK115.out 1
                  have hfz38_2 := blk_frozen BK115.out 2
                  go_wp2
                  go_meet
                  case rel => exact ⟨_, (false), (by first | rfl | (simp; done) | (simp [*]; done)), H', ⟨by have := HJ10.out; first | omega | exact Nat.le_refl _⟩, ⟨by (with_reducible repeat (first | refine blk_drewN ?_ _ | refine blk_drew ?_ | refine blk_alloc ?_ _)); exact BK114.out⟩, ⟨by (with_reducible repeat (first | refine blk_drewN ?_ _ | refine blk_drew ?_ | refine blk_alloc ?_ _)); exact BK115.out⟩, ⟨by repeat (first | (with_reducible first | exact HB.out | apply below_alloc | apply pw_below_drewN | apply below_drew1 | refine below_set ?_ GE114.out | refine below_set ?_ GE115.out) | exact HB.out)⟩⟩
              · rw [if_neg c33] at H
                have c33b0 : (a1_1 == 0) = false := beq_eq_false_iff_ne.mpr c33
                have c33b1 : (a1_1 != 0) = true := bne_iff_ne.mpr c33
                have H' := Aside0.mk H
                clear H
                have hnb39 := NB115_114.out
                have hnc39 := NB114_115.out
                have hcz40_0 : wc.cell? ⟨gb115, 0, none⟩ = some (.int .i64 a1_0) := (blk_cell BK115.out 0).trans rfl
                have hcz40_1 : wc.cell? ⟨gb115, 1, none⟩ = some (.int .i64 a1_1) := (blk_cell BK115.out 1).trans rfl
                have hcz40_2 : wc.cell? ⟨gb115, 2, none⟩ = some (.int .i64 a1_2) := (blk_cell BK115.out 2).trans rfl
                have hfz40_0 := blk_frozen BK115.out 0
                have hfz40_1 := blk_frozen BK115.out 1
                have hfz40_2 := blk_frozen BK115.out 2
                go_wp2
                go_meet
                case rel => exact ⟨_, (false), (by first | rfl | (simp; done) | (simp [*]; done)), H', ⟨by have := HJ10.out; first | omega | exact Nat.le_refl _⟩, ⟨by (with_reducible repeat (first | refine blk_drewN ?_ _ | refine blk_drew ?_ | refine blk_alloc ?_ _)); exact BK114.out⟩, ⟨by (with_reducible repeat (first | refine blk_drewN ?_ _ | refine blk_drew ?_ | refine blk_alloc ?_ _)); exact BK115.out⟩, ⟨by repeat (first | (with_reducible first | exact HB.out | apply below_alloc | apply pw_below_drewN | apply below_drew1 | refine below_set ?_ GE114.out | refine below_set ?_ GE115.out) | exact HB.out)⟩⟩
            · rw [if_neg c32] at H
              have c32b0 : (a1_0 == 4) = false := beq_eq_false_iff_ne.mpr c32
              have c32b1 : (a1_0 != 4) = true := bne_iff_ne.mpr c32
              (first | rw [c32b0] | (simp only [i64_w, i32_w]; rw [c32b0]) | skip)
              have H' := Aside0.mk H
              clear H
              have hnb41 := NB115_114.out
              have hnc41 := NB114_115.out
              have hcz42_0 : wc.cell? ⟨gb115, 0, none⟩ = some (.int .i64 a1_0) := (blk_cell BK115.out 0).trans rfl
              have hcz42_1 : wc.cell? ⟨gb115, 1, none⟩ = some (.int .i64 a1_1) := (blk_cell BK115.out 1).trans rfl
              have hcz42_2 : wc.cell? ⟨gb115, 2, none⟩ = some (.int .i64 a1_2) := (blk_cell BK115.out 2).trans rfl
              have hfz42_0 := blk_frozen BK115.out 0
              have hfz42_1 := blk_frozen BK115.out 1
              have hfz42_2 := blk_frozen BK115.out 2
              go_wp2
              go_meet
              case rel => exact ⟨_, (false), (by first | rfl | (simp; done) | (simp [*]; done)), H', ⟨by have := HJ10.out; first | omega | exact Nat.le_refl _⟩, ⟨by (with_reducible repeat (first | refine blk_drewN ?_ _ | refine blk_drew ?_ | refine blk_alloc ?_ _)); exact BK114.out⟩, ⟨by (with_reducible repeat (first | refine blk_drewN ?_ _ | refine blk_drew ?_ | refine blk_alloc ?_ _)); exact BK115.out⟩, ⟨by repeat (first | (with_reducible first | exact HB.out | apply below_alloc | apply pw_below_drewN | apply below_drew1 | refine below_set ?_ GE114.out | refine below_set ?_ GE115.out) | exact HB.out)⟩⟩
          case rest =>
            clear HC31
            try clear c1
            try clear c2
            try clear p2
            try clear c3
            try clear c4
            try clear c5
            try clear c5b0
            try clear c5b1
            try clear p6
            try clear c11
            try clear c17
            try clear c17b0
            try clear c18
            try clear c18b0
            try clear c19
            try clear c19b0
            try clear c19b1
            try clear c20
            try clear c22
            try clear c24
            try clear c26
            try clear c28
            try clear c29
            try clear c32
            try clear c32b0
            try clear c32b1
            try clear c33
            try clear c33b0
            try clear c33b1
            try clear c34
            try clear c34b0
            try clear c35
            try clear c37
            try clear c38
            try clear c39
            try clear c41
            try clear hcz21_0
            try clear hcz21_1
            try clear hcz21_2
            try clear hcz23_0
            try clear hcz23_1
            try clear hcz23_2
            try clear hcz25_0
            try clear hcz25_1
            try clear hcz25_2
            try clear hcz27_0
            try clear hcz27_1
            try clear hcz27_2
            try clear hcz30_0
            try clear hcz30_1
            try clear hcz30_2
            try clear hcz36_0
            try clear hcz36_1
            try clear hcz36_2
            try clear hcz38_0
            try clear hcz38_1
            try clear hcz38_2
            try clear hcz40_0
            try clear hcz40_1
            try clear hcz40_2
            try clear hcz42_0
            try clear hcz42_1
            try clear hcz42_2
            try clear hfz21_0
            try clear hfz21_1
            try clear hfz21_2
            try clear hfz23_0
            try clear hfz23_1
            try clear hfz23_2
            try clear hfz25_0
            try clear hfz25_1
            try clear hfz25_2
            try clear hfz27_0
            try clear hfz27_1
            try clear hfz27_2
            try clear hfz30_0
            try clear hfz30_1
            try clear hfz30_2
            try clear hfz36_0
            try clear hfz36_1
            try clear hfz36_2
            try clear hfz38_0
            try clear hfz38_1
            try clear hfz38_2
            try clear hfz40_0
            try clear hfz40_1
            try clear hfz40_2
            try clear hfz42_0
            try clear hfz42_1
            try clear hfz42_2
            try clear p2
            obtain ⟨kq, x37_30, rfl, HA, HJ30, BK114, BK115, HB⟩ := hcut
            cases kq with
            | zero => exact absurd HA.out (by simp [place_Number.j1])
            | succ kj30 =>
              have H := HA.out
              clear HA
              simp only [place_Number.j1] at H
              by_cases c43 : x37_30 = true
              · subst c43
                have H1 : (some (wrap64 (3 + a1_2), true)) = some (r1, r2) := by rw [if_pos rfl] at H; exact H
                clear H
                have H := H1
                clear H1
                simp only [Option.some.injEq, Prod.mk.injEq] at H
                obtain ⟨rfl, rfl⟩ := H
                have hnb44 := NB115_114.out
                have hnc44 := NB114_115.out
                have hcz45_0 : wc.cell? ⟨gb115, 0, none⟩ = some (.int .i64 a1_0) := (blk_cell BK115.out 0).trans rfl
                have hcz45_1 : wc.cell? ⟨gb115, 1, none⟩ = some (.int .i64 a1_1) := (blk_cell BK115.out 1).trans rfl
                have hcz45_2 : wc.cell? ⟨gb115, 2, none⟩ = some (.int .i64 a1_2) := (blk_cell BK115.out 2).trans rfl
                have hfz45_0 := blk_frozen BK115.out 0
                have hfz45_1 := blk_frozen BK115.out 1
                have hfz45_2 := blk_frozen BK115.out 2
                go_wp2
                go_ret2
                exact ⟨by first | rfl | (simp [errW_none, errW_some] <;> rfl) | (simp [*, errW_none, errW_some] <;> rfl), by repeat (first | (with_reducible first | exact HB.out | apply below_alloc | apply pw_below_drewN | apply below_drew1 | refine below_set ?_ GE114.out | refine below_set ?_ GE115.out) | exact HB.out)⟩
              · replace c43 := Bool.eq_false_iff.mpr c43
                subst c43
                have H1 : (if a1_0 = 5 then (if a1_1 ≥ 1 then (if a1_1 ≤ a0_1 then (if a1_2 ≥ 0 then (if a1_2 < t117 then (some (wrap64 ((wrap64 ((wrap64 (3 + t116)) + (wrap64 ((wrap64 (a1_1 - 1)) * t117)))) + a1_2), true)) else (some (0, false))) else (some (0, false))) else (some (0, false))) else (some (0, false))) else (some (0, false))) = some (r1, r2) := by rw [if_neg (show ¬ (false = true) by decide)] at H; exact H
                clear H
                have H := H1
                clear H1
                by_cases c46 : a1_0 = 5
                · rw [if_pos c46] at H
                  have c46b0 : (a1_0 == 5) = true := beq_iff_eq.mpr c46
                  have c46b1 : (a1_0 != 5) = false := bne_eq_false_iff_eq.mpr c46
                  clear c46
                  by_cases c47 : a1_1 ≥ 1
                  · rw [if_pos c47] at H
                    have c47b0 : decide (1 ≤ a1_1) = true := decide_eq_true c47
                    clear c47
                    by_cases c48 : a1_1 ≤ a0_1
                    · rw [if_pos c48] at H
                      have c48b0 : decide (a1_1 ≤ a0_1) = true := decide_eq_true c48
                      clear c48
                      by_cases c49 : a1_2 ≥ 0
                      · rw [if_pos c49] at H
                        have c49b0 : decide (0 ≤ a1_2) = true := decide_eq_true c49
                        clear c49
                        by_cases c50 : a1_2 < t117
                        · rw [if_pos c50] at H
                          have c50b0 : decide (a1_2 < t117) = true := decide_eq_true c50
                          clear c50
                          simp only [Option.some.injEq, Prod.mk.injEq] at H
                          obtain ⟨rfl, rfl⟩ := H
                          have hnb51 := NB115_114.out
                          have hnc51 := NB114_115.out
                          have hcz52_0 : wc.cell? ⟨gb115, 0, none⟩ = some (.int .i64 a1_0) := (blk_cell BK115.out 0).trans rfl
                          have hcz52_1 : wc.cell? ⟨gb115, 1, none⟩ = some (.int .i64 a1_1) := (blk_cell BK115.out 1).trans rfl
                          have hcz52_2 : wc.cell? ⟨gb115, 2, none⟩ = some (.int .i64 a1_2) := (blk_cell BK115.out 2).trans rfl
                          have hfz52_0 := blk_frozen BK115.out 0
                          have hfz52_1 := blk_frozen BK115.out 1
                          have hfz52_2 := blk_frozen BK115.out 2
                          have hcz53_0 : wc.cell? ⟨gb114, 0, none⟩ = some (.int .i64 a0_0) := (blk_cell BK114.out 0).trans rfl
                          have hcz53_1 : wc.cell? ⟨gb114, 1, none⟩ = some (.int .i64 a0_1) := (blk_cell BK114.out 1).trans rfl
                          have hcz53_2 : wc.cell? ⟨gb114, 2, none⟩ = some (.int .i64 a0_2) := (blk_cell BK114.out 2).trans rfl
                          have hcz53_3 : wc.cell? ⟨gb114, 3, none⟩ = some (.int .i64 a0_3) := (blk_cell BK114.out 3).trans rfl
                          have hcz53_4 : wc.cell? ⟨gb114, 4, none⟩ = some (.int .i64 a0_4) := (blk_cell BK114.out 4).trans rfl
                          have hfz53_0 := blk_frozen BK114.out 0
                          have hfz53_1 := blk_frozen BK114.out 1
                          have hfz53_2 := blk_frozen BK114.out 2
                          have hfz53_3 := blk_frozen BK114.out 3
                          have hfz53_4 := blk_frozen BK114.out 4
                          go_wp2
                          go_ret2
                          exact ⟨by first | rfl | (simp [errW_none, errW_some] <;> rfl) | (simp [*, errW_none, errW_some] <;> rfl), by repeat (first | (with_reducible first | exact HB.out | apply below_alloc | apply pw_below_drewN | apply below_drew1 | refine below_set ?_ GE114.out | refine below_set ?_ GE115.out) | exact HB.out)⟩
                        · rw [if_neg c50] at H
                          have c50b0 : decide (a1_2 < t117) = false := decide_eq_false c50
                          clear c50
                          simp only [Option.some.injEq, Prod.mk.injEq] at H
                          obtain ⟨rfl, rfl⟩ := H
                          have hnb54 := NB115_114.out
                          have hnc54 := NB114_115.out
                          have hcz55_0 : wc.cell? ⟨gb115, 0, none⟩ = some (.int .i64 a1_0) := (blk_cell BK115.out 0).trans rfl
                          have hcz55_1 : wc.cell? ⟨gb115, 1, none⟩ = some (.int .i64 a1_1) := (blk_cell BK115.out 1).trans rfl
                          have hcz55_2 : wc.cell? ⟨gb115, 2, none⟩ = some (.int .i64 a1_2) := (blk_cell BK115.out 2).trans rfl
                          have hfz55_0 := blk_frozen BK115.out 0
                          have hfz55_1 := blk_frozen BK115.out 1
                          have hfz55_2 := blk_frozen BK115.out 2
                          have hcz56_0 : wc.cell? ⟨gb114, 0, none⟩ = some (.int .i64 a0_0) := (blk_cell BK114.out 0).trans rfl
                          have hcz56_1 : wc.cell? ⟨gb114, 1, none⟩ = some (.int .i64 a0_1) := (blk_cell BK114.out 1).trans rfl
                          have hcz56_2 : wc.cell? ⟨gb114, 2, none⟩ = some (.int .i64 a0_2) := (blk_cell BK114.out 2).trans rfl
                          have hcz56_3 : wc.cell? ⟨gb114, 3, none⟩ = some (.int .i64 a0_3) := (blk_cell BK114.out 3).trans rfl
                          have hcz56_4 : wc.cell? ⟨gb114, 4, none⟩ = some (.int .i64 a0_4) := (blk_cell BK114.out 4).trans rfl
                          have hfz56_0 := blk_frozen BK114.out 0
                          have hfz56_1 := blk_frozen BK114.out 1
                          have hfz56_2 := blk_frozen BK114.out 2
                          have hfz56_3 := blk_frozen BK114.out 3
                          have hfz56_4 := blk_frozen BK114.out 4
                          go_wp2
                          go_ret2
                          exact ⟨by first | rfl | (simp [errW_none, errW_some] <;> rfl) | (simp [*, errW_none, errW_some] <;> rfl), by repeat (first | (with_reducible first | exact HB.out | apply below_alloc | apply pw_below_drewN | apply below_drew1 | refine below_set ?_ GE114.out | refine below_set ?_ GE115.out) | exact HB.out)⟩
                      · rw [if_neg c49] at H
                        have c49b0 : decide (0 ≤ a1_2) = false := decide_eq_false c49
                        clear c49
                        simp only [Option.some.injEq, Prod.mk.injEq] at H
                        obtain ⟨rfl, rfl⟩ := H
                        have hnb57 := NB115_114.out
                        have hnc57 := NB114_115.out
                        have hcz58_0 : wc.cell? ⟨gb115, 0, none⟩ = some (.int .i64 a1_0) := (blk_cell BK115.out 0).trans rfl
                        have hcz58_1 : wc.cell? ⟨gb115, 1, none⟩ = some (.int .i64 a1_1) := (blk_cell BK115.out 1).trans rfl
                        have hcz58_2 : wc.cell? ⟨gb115, 2, none⟩ = some (.int .i64 a1_2) := (blk_cell BK115.out 2).trans rfl
                        have hfz58_0 := blk_frozen BK115.out 0
                        have hfz58_1 := blk_frozen BK115.out 1
                        have hfz58_2 := blk_frozen BK115.out 2
                        have hcz59_0 : wc.cell? ⟨gb114, 0, none⟩ = some (.int .i64 a0_0) := (blk_cell BK114.out 0).trans rfl
                        have hcz59_1 : wc.cell? ⟨gb114, 1, none⟩ = some (.int .i64 a0_1) := (blk_cell BK114.out 1).trans rfl
                        have hcz59_2 : wc.cell? ⟨gb114, 2, none⟩ = some (.int .i64 a0_2) := (blk_cell BK114.out 2).trans rfl
                        have hcz59_3 : wc.cell? ⟨gb114, 3, none⟩ = some (.int .i64 a0_3) := (blk_cell BK114.out 3).trans rfl
                        have hcz59_4 : wc.cell? ⟨gb114, 4, none⟩ = some (.int .i64 a0_4) := (blk_cell BK114.out 4).trans rfl
                        have hfz59_0 := blk_frozen BK114.out 0
                        have hfz59_1 := blk_frozen BK114.out 1
                        have hfz59_2 := blk_frozen BK114.out 2
                        have hfz59_3 := blk_frozen BK114.out 3
                        have hfz59_4 := blk_frozen BK114.out 4
                        go_wp2
                        go_ret2
                        exact ⟨by first | rfl | (simp [errW_none, errW_some] <;> rfl) | (simp [*, errW_none, errW_some] <;> rfl), by repeat (first | (with_reducible first | exact HB.out | apply below_alloc | apply pw_below_drewN | apply below_drew1 | refine below_set ?_ GE114.out | refine below_set ?_ GE115.out) | exact HB.out)⟩
                    · rw [if_neg c48] at H
                      have c48b0 : decide (a1_1 ≤ a0_1) = false := decide_eq_false c48
                      clear c48
                      simp only [Option.some.injEq, Prod.mk.injEq] at H
                      obtain ⟨rfl, rfl⟩ := H
                      have hnb60 := NB115_114.out
                      have hnc60 := NB114_115.out
                      have hcz61_0 : wc.cell? ⟨gb115, 0, none⟩ = some (.int .i64 a1_0) := (blk_cell BK115.out 0).trans rfl
                      have hcz61_1 : wc.cell? ⟨gb115, 1, none⟩ = some (.int .i64 a1_1) := (blk_cell BK115.out 1).trans rfl
                      have hcz61_2 : wc.cell? ⟨gb115, 2, none⟩ = some (.int .i64 a1_2) := (blk_cell BK115.out 2).trans rfl
                      have hfz61_0 := blk_frozen BK115.out 0
                      have hfz61_1 := blk_frozen BK115.out 1
                      have hfz61_2 := blk_frozen BK115.out 2
                      have hcz62_0 : wc.cell? ⟨gb114, 0, none⟩ = some (.int .i64 a0_0) := (blk_cell BK114.out 0).trans rfl
                      have hcz62_1 : wc.cell? ⟨gb114, 1, none⟩ = some (.int .i64 a0_1) := (blk_cell BK114.out 1).trans rfl
                      have hcz62_2 : wc.cell? ⟨gb114, 2, none⟩ = some (.int .i64 a0_2) := (blk_cell BK114.out 2).trans rfl
                      have hcz62_3 : wc.cell? ⟨gb114, 3, none⟩ = some (.int .i64 a0_3) := (blk_cell BK114.out 3).trans rfl
                      have hcz62_4 : wc.cell? ⟨gb114, 4, none⟩ = some (.int .i64 a0_4) := (blk_cell BK114.out 4).trans rfl
                      have hfz62_0 := blk_frozen BK114.out 0
                      have hfz62_1 := blk_frozen BK114.out 1
                      have hfz62_2 := blk_frozen BK114.out 2
                      have hfz62_3 := blk_frozen BK114.out 3
                      have hfz62_4 := blk_frozen BK114.out 4
                      go_wp2
                      go_ret2
                      exact ⟨by first | rfl | (simp [errW_none, errW_some] <;> rfl) | (simp [*, errW_none, errW_some] <;> rfl), by repeat (first | (with_reducible first | exact HB.out | apply below_alloc | apply pw_below_drewN | apply below_drew1 | refine below_set ?_ GE114.out | refine below_set ?_ GE115.out) | exact HB.out)⟩
                  · rw [if_neg c47] at H
                    have c47b0 : decide (1 ≤ a1_1) = false := decide_eq_false c47
                    clear c47
                    simp only [Option.some.injEq, Prod.mk.injEq] at H
                    obtain ⟨rfl, rfl⟩ := H
                    have hnb63 := NB115_114.out
                    have hnc63 := NB114_115.out
                    have hcz64_0 : wc.cell? ⟨gb115, 0, none⟩ = some (.int .i64 a1_0) := (blk_cell BK115.out 0).trans rfl
                    have hcz64_1 : wc.cell? ⟨gb115, 1, none⟩ = some (.int .i64 a1_1) := (blk_cell BK115.out 1).trans rfl
                    have hcz64_2 : wc.cell? ⟨gb115, 2, none⟩ = some (.int .i64 a1_2) := (blk_cell BK115.out 2).trans rfl
                    have hfz64_0 := blk_frozen BK115.out 0
                    have hfz64_1 := blk_frozen BK115.out 1
                    have hfz64_2 := blk_frozen BK115.out 2
                    go_wp2
                    go_ret2
                    exact ⟨by first | rfl | (simp [errW_none, errW_some] <;> rfl) | (simp [*, errW_none, errW_some] <;> rfl), by repeat (first | (with_reducible first | exact HB.out | apply below_alloc | apply pw_below_drewN | apply below_drew1 | refine below_set ?_ GE114.out | refine below_set ?_ GE115.out) | exact HB.out)⟩
                · rw [if_neg c46] at H
                  have c46b0 : (a1_0 == 5) = false := beq_eq_false_iff_ne.mpr c46
                  have c46b1 : (a1_0 != 5) = true := bne_iff_ne.mpr c46
                  simp only [Option.some.injEq, Prod.mk.injEq] at H
                  obtain ⟨rfl, rfl⟩ := H
                  have hnb65 := NB115_114.out
                  have hnc65 := NB114_115.out
                  have hcz66_0 : wc.cell? ⟨gb115, 0, none⟩ = some (.int .i64 a1_0) := (blk_cell BK115.out 0).trans rfl
                  have hcz66_1 : wc.cell? ⟨gb115, 1, none⟩ = some (.int .i64 a1_1) := (blk_cell BK115.out 1).trans rfl
                  have hcz66_2 : wc.cell? ⟨gb115, 2, none⟩ = some (.int .i64 a1_2) := (blk_cell BK115.out 2).trans rfl
                  have hfz66_0 := blk_frozen BK115.out 0
                  have hfz66_1 := blk_frozen BK115.out 1
                  have hfz66_2 := blk_frozen BK115.out 2
                  go_wp2
                  go_ret2
                  exact ⟨by first | rfl | (simp [errW_none, errW_some] <;> rfl) | (simp [*, errW_none, errW_some] <;> rfl), by repeat (first | (with_reducible first | exact HB.out | apply below_alloc | apply pw_below_drewN | apply below_drew1 | refine below_set ?_ GE114.out | refine below_set ?_ GE115.out) | exact HB.out)⟩

/-! ### place_Is: function 12 -/
def place_Is.f (k : Nat) (a0_0 : Int) (a0_1 : Int) (a0_2 : Int) (a0_3 : Int) (a0_4 : Int) (a1_0 : Int) (a1_1 : Int) (a1_2 : Int) : Option (Bool) := (place_Number.f k a0_0 a0_1 a0_2 a0_3 a0_4 a1_0 a1_1 a1_2).bind fun bt120 => (some bt120.2)
theorem place_Is.mono : ∀ a0 a1 a2 a3 a4 a5 a6 a7 k, LeO (place_Is.f k a0 a1 a2 a3 a4 a5 a6 a7) (place_Is.f (k + 1) a0 a1 a2 a3 a4 a5 a6 a7) := by
  intro a0 a1 a2 a3 a4 a5 a6 a7 k
  unfold place_Is.f
  repeat' first
      | (with_reducible exact place_Number.mono _ _ _ _ _ _ _ _ _)
      | (with_reducible exact LeO.refl _)
      | (with_reducible exact LeO.none _)
      | (with_reducible refine LeO.ite ?_ ?_)
      | (with_reducible refine LeO.bind ?_ (fun _ => ?_))
      | exact place_Number.mono _ _ _ _ _ _ _ _ _
      | exact LeO.none _
      | refine LeO.ite ?_ ?_
      | refine LeO.bind ?_ (fun _ => ?_)
set_option maxHeartbeats 8000000 in
set_option maxRecDepth 100000 in
theorem place_Is.calls (k : Nat) (a0_0 : Int) (a0_1 : Int) (a0_2 : Int) (a0_3 : Int) (a0_4 : Int) (a1_0 : Int) (a1_1 : Int) (a1_2 : Int) (r : Bool) (w : World) (h : place_Is.f k a0_0 a0_1 a0_2 a0_3 a0_4 a1_0 a1_1 a1_2 = some r) :
    Calls Tryd.prog 12 #[.agg #[.int .i64 a0_0, .int .i64 a0_1, .int .i64 a0_2, .int .i64 a0_3, .int .i64 a0_4], .agg #[.int .i64 a1_0, .int .i64 a1_1, .int .i64 a1_2]] w fun e w' => e = .returned (.bool r) ∧ Below w.heap.size w w' := by
  have hu23 := Tryd.underlying23
  have hu25 := Tryd.underlying25
  have HB := Aside0.mk (Below.refl w.heap.size w)
  have H : ((place_Number.f k a0_0 a0_1 a0_2 a0_3 a0_4 a1_0 a1_1 a1_2).bind fun bt120 => (some bt120.2)) = some r := h
  clear h
  replace H := Option.bind_eq_some_iff.mp H
  obtain ⟨⟨t120, t121⟩, A30, H⟩ := H
  replace H : (some t121) = some r := H
  have A3 := Aside0.mk A30
  clear A30
  obtain rfl := Option.some.inj H
  go_enter Tryd.func12, Tryd.ntmps12
  go_wp2_with (first | ((with_reducible refine gate_dst (N := 2) rfl ?_); refine box_event ?hg (N := 2) ?hd (cs := #[.int .i64 a0_0, .int .i64 a0_1, .int .i64 a0_2, .int .i64 a0_3, .int .i64 a0_4]) (t := 23) ?hr ?_; (case hd => rfl); (case hg => rfl); (case hr => first | (go_simp; done) | (go_simp; rfl)); intro gb118 hg w4 hbox hb; have n0_ := Aside0.mk (below_step (by repeat (first | (with_reducible first | exact HB.out | apply below_alloc | apply pw_below_drewN | apply below_drew1) | exact HB.out)) hb); have n1_ := Aside0.mk (hbox); have n2_ := Aside0.mk ((by rw [hg]; exact (below_size (by repeat (first | (with_reducible first | exact HB.out | apply below_alloc | apply pw_below_drewN | apply below_drew1) | exact HB.out))) : w.heap.size ≤ gb118)); have n3_ := Aside0.mk ((by rw [hg]; exact (below_size (by repeat (first | (with_reducible first | exact HB.out | apply below_alloc | apply pw_below_drewN | apply below_drew1) | exact HB.out))) : w.heap.size ≤ gb118)); clear HB; have HB := n0_; have BK118 := n1_; have GW118 := n2_; have GE118 := n3_; clear n0_ n1_ n2_ n3_; clear hb hbox hg) | ((with_reducible refine gate_dst (N := 3) rfl ?_); refine box_event ?hg (N := 3) ?hd (cs := #[.int .i64 a1_0, .int .i64 a1_1, .int .i64 a1_2]) (t := 25) ?hr ?_; (case hd => rfl); (case hg => rfl); (case hr => first | (go_simp; done) | (go_simp; rfl)); intro gb119 hg w5 hbox hb; have n0_ := Aside0.mk (blk_below (g := gb118) (o := .cells #[.int .i64 a0_0, .int .i64 a0_1, .int .i64 a0_2, .int .i64 a0_3, .int .i64 a0_4] 23 (0, 0)) (by (with_reducible repeat (first | refine blk_drewN ?_ _ | refine blk_drew ?_ | refine blk_alloc ?_ _)); exact BK118.out) hb); have n1_ := Aside0.mk (below_step (by repeat (first | (with_reducible first | exact HB.out | apply below_alloc | apply pw_below_drewN | apply below_drew1 | refine below_set ?_ GE118.out) | exact HB.out)) hb); have n2_ := Aside0.mk (hbox); have n3_ := Aside0.mk ((by rw [hg]; exact (below_size (by repeat (first | (with_reducible first | exact HB.out | apply below_alloc | apply pw_below_drewN | apply below_drew1 | refine below_set ?_ GE118.out) | exact HB.out))) : w.heap.size ≤ gb119)); have n4_ := Aside0.mk ((by rw [hg]; exact (below_size (by repeat (first | (with_reducible first | exact HB.out | apply below_alloc | apply pw_below_drewN | apply below_drew1 | refine below_set ?_ GE118.out) | exact HB.out))) : w.heap.size ≤ gb119)); have n5_ := Aside0.mk ((by rw [hg]; exact Nat.ne_of_lt (blk_lt (g := gb118) (o := .cells #[.int .i64 a0_0, .int .i64 a0_1, .int .i64 a0_2, .int .i64 a0_3, .int .i64 a0_4] 23 (0, 0)) (by (with_reducible repeat (first | refine blk_drewN ?_ _ | refine blk_drew ?_ | refine blk_alloc ?_ _)); exact BK118.out)) : gb118 ≠ gb119)); have n6_ := Aside0.mk ((by rw [hg]; exact Nat.ne_of_gt (blk_lt (g := gb118) (o := .cells #[.int .i64 a0_0, .int .i64 a0_1, .int .i64 a0_2, .int .i64 a0_3, .int .i64 a0_4] 23 (0, 0)) (by (with_reducible repeat (first | refine blk_drewN ?_ _ | refine blk_drew ?_ | refine blk_alloc ?_ _)); exact BK118.out)) : gb119 ≠ gb118)); clear BK118; clear HB; have BK118 := n0_; have HB := n1_; have BK119 := n2_; have GW119 := n3_; have GE119 := n4_; have NB118_119 := n5_; have NB119_118 := n6_; clear n0_ n1_ n2_ n3_ n4_ n5_ n6_; clear hb hbox hg; have hnb6 := NB118_119.out; have hnc6 := NB119_118.out; have hcz7_0 : w5.cell? ⟨gb118, 0, none⟩ = some (.int .i64 a0_0) := (blk_cell BK118.out 0).trans rfl; have hcz7_1 : w5.cell? ⟨gb118, 1, none⟩ = some (.int .i64 a0_1) := (blk_cell BK118.out 1).trans rfl; have hcz7_2 : w5.cell? ⟨gb118, 2, none⟩ = some (.int .i64 a0_2) := (blk_cell BK118.out 2).trans rfl; have hcz7_3 : w5.cell? ⟨gb118, 3, none⟩ = some (.int .i64 a0_3) := (blk_cell BK118.out 3).trans rfl; have hcz7_4 : w5.cell? ⟨gb118, 4, none⟩ = some (.int .i64 a0_4) := (blk_cell BK118.out 4).trans rfl; have hfz7_0 := blk_frozen BK118.out 0; have hfz7_1 := blk_frozen BK118.out 1; have hfz7_2 := blk_frozen BK118.out 2; have hfz7_3 := blk_frozen BK118.out 3; have hfz7_4 := blk_frozen BK118.out 4; have hcz8_0 : w5.cell? ⟨gb119, 0, none⟩ = some (.int .i64 a1_0) := (blk_cell BK119.out 0).trans rfl; have hcz8_1 : w5.cell? ⟨gb119, 1, none⟩ = some (.int .i64 a1_1) := (blk_cell BK119.out 1).trans rfl; have hcz8_2 : w5.cell? ⟨gb119, 2, none⟩ = some (.int .i64 a1_2) := (blk_cell BK119.out 2).trans rfl; have hfz8_0 := blk_frozen BK119.out 0; have hfz8_1 := blk_frozen BK119.out 1; have hfz8_2 := blk_frozen BK119.out 2) | ((with_reducible refine gate_callee (f := 11) rfl ?_); refine goesL_ (some 10) rfl rfl Tryd.func11 (by kernel_rfl) rfl #[.agg #[.int .i64 a0_0, .int .i64 a0_1, .int .i64 a0_2, .int .i64 a0_3, .int .i64 a0_4], .agg #[.int .i64 a1_0, .int .i64 a1_1, .int .i64 a1_2]] rfl (by (try simp only [List.map_toArray, List.map_cons, List.map_nil]); first | done | rfl | (simp only [List.length_drop, List.length_take]; rfl)) ?_; (with_reducible refine (place_Number.calls k a0_0 a0_1 a0_2 a0_3 a0_4 a1_0 a1_1 a1_2 t120 t121 _ A3.out).mono ?_); rintro e w9 ⟨rfl, hb⟩; refine ⟨_, rfl, ?_⟩; have n0_ := Aside0.mk (blk_below (g := gb118) (o := .cells #[.int .i64 a0_0, .int .i64 a0_1, .int .i64 a0_2, .int .i64 a0_3, .int .i64 a0_4] 23 (0, 0)) (by (with_reducible repeat (first | refine blk_drewN ?_ _ | refine blk_drew ?_ | refine blk_alloc ?_ _)); exact BK118.out) hb); have n1_ := Aside0.mk (blk_below (g := gb119) (o := .cells #[.int .i64 a1_0, .int .i64 a1_1, .int .i64 a1_2] 25 (0, 0)) (by (with_reducible repeat (first | refine blk_drewN ?_ _ | refine blk_drew ?_ | refine blk_alloc ?_ _)); exact BK119.out) hb); have n2_ := Aside0.mk (below_step (by repeat (first | (with_reducible first | exact HB.out | apply below_alloc | apply pw_below_drewN | apply below_drew1 | refine below_set ?_ GE118.out | refine below_set ?_ GE119.out) | exact HB.out)) hb); clear BK118; clear BK119; clear HB; have BK118 := n0_; have BK119 := n1_; have HB := n2_; clear n0_ n1_ n2_; (try clear hb); (try clear hb2); (try clear hk); (try clear hi)))
  go_ret
  exact ⟨by first | rfl | (simp [errW_none, errW_some] <;> rfl) | (simp [*, errW_none, errW_some] <;> rfl), by repeat (first | (with_reducible first | exact HB.out | apply below_alloc | apply pw_below_drewN | apply below_drew1 | refine below_set ?_ GE118.out | refine below_set ?_ GE119.out) | exact HB.out)⟩

end Go.Proofs.YtcncndhoeiaoeaaDoor.PPlaceExact
