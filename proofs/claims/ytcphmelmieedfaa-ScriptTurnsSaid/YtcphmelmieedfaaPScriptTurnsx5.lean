-- WRITTEN BY A PROGRAM OF THIS SESSION (xprint.sh): the walks of plain functions over contracts of my own.
import Derived.Test.YtcphmelmieedfaaPScriptTurnsx0
import Derived.Test.YtcphmelmieedfaaPScriptTurnsx4
namespace Go.Proofs.Ytcphmelmieedfaa.PScriptTurns
open Go.RowKit Go.Proofs.YtcphmelmieedfaaW.PrintWords Go.Proofs.YtcphmelmieedfaaW.PrintLast Go.Proofs.YtcphmelmieedfaaW.PrintMore
attribute [local go_sem] max2_int min2_int max_two min_two max_three min_three max_four min_four   -- for this text's walks alone
set_option linter.unusedVariables false
set_option linter.unusedSimpArgs false

/-! ### script_Round: function 31 -/
mutual
def script_Round.j0 : Nat → Int → Bool → Int → Int → Int → Int → Int → List (List (S37)) → List Int → Int → Int → Int → Int → Int → List (List (S37)) → List Int → Option (Int × Int × Int × Int × Int × (List (List (S37))) × List Int)
  | 0, _, _, _, _, _, _, _, _, _, _, _, _, _, _, _, _ => none
  | k + 1, x1, x16, x158000, x158001, x158002, x158003, x158004, x158005, x158006, x171000, x171001, x171002, x171003, x171004, x171005, x171006 => if x16 = true then (some (x171000, x171001, x171002, x171003, x171004, x171005, x171006)) else (script_Round.l0 k x1 0 x158000 x158001 x158002 x158003 x158004 x158005 x158006 x171000 x171001 x171002 x171003 x171004 x171005 x171006)
def script_Round.l0 : Nat → Int → Int → Int → Int → Int → Int → Int → List (List (S37)) → List Int → Int → Int → Int → Int → Int → List (List (S37)) → List Int → Option (Int × Int × Int × Int × Int × (List (List (S37))) × List Int)
  | 0, _, _, _, _, _, _, _, _, _, _, _, _, _, _, _, _ => none
  | k + 1, x18, x19, x158000, x158001, x158002, x158003, x158004, x158005, x158006, x171000, x171001, x171002, x171003, x171004, x171005, x171006 => if x19 < x18 then (script_Round.l1 k x18 x19 (x158005.length : Int) 0 x158000 x158001 x158002 x158003 x158004 x158005 x158006 x171000 x171001 x171002 x171003 x171004 x171005 x171006) else (some (x171000, x171001, x171002, x171003, x171004, x171005, x171006))
def script_Round.l1 : Nat → Int → Int → Int → Int → Int → Int → Int → Int → Int → List (List (S37)) → List Int → Int → Int → Int → Int → Int → List (List (S37)) → List Int → Option (Int × Int × Int × Int × Int × (List (List (S37))) × List Int)
  | 0, _, _, _, _, _, _, _, _, _, _, _, _, _, _, _, _, _, _ => none
  | k + 1, x18, x19, x23, x24, x158000, x158001, x158002, x158003, x158004, x158005, x158006, x171000, x171001, x171002, x171003, x171004, x171005, x171006 => if x24 < x23 then (if (x171006.length : Int) ≥ 262144 then (some (x171000, x171001, x171002, x171003, x171004, x171005, x171006)) else (if x171006.length < 17592186044416 then (script_Round.l1 k x18 x19 x23 (wrap64 (x24 + 1)) x158000 x158001 x158002 x158003 x158004 x158005 x158006 x171000 x171001 x171002 x171003 x171004 x171005 (x171006 ++ [x24])) else (none))) else (script_Round.l0 k x18 (wrap64 (x19 + 1)) x158000 x158001 x158002 x158003 x158004 x158005 x158006 x171000 x171001 x171002 x171003 x171004 x171005 x171006)
end
def script_Round.f (k : Nat) (a0_0 : Int) (a0_1 : Int) (a0_2 : Int) (a0_3 : Int) (a0_4 : Int) (l0_5 : List (List (S37))) (l0_6 : List Int) (a1 : Int) : Option (Int × Int × Int × Int × Int × (List (List (S37))) × List Int) := (script_Copy.f k a0_0 a0_1 a0_2 a0_3 a0_4 l0_5 l0_6).bind fun bt159 => (if a1 < 1 then (script_Round.j0 k a1 true a0_0 a0_1 a0_2 a0_3 a0_4 l0_5 l0_6 bt159.1 bt159.2.1 bt159.2.2.1 bt159.2.2.2.1 bt159.2.2.2.2.1 bt159.2.2.2.2.2.1 bt159.2.2.2.2.2.2) else (script_Round.j0 k a1 ((l0_5.length : Int) == 0) a0_0 a0_1 a0_2 a0_3 a0_4 l0_5 l0_6 bt159.1 bt159.2.1 bt159.2.2.1 bt159.2.2.2.1 bt159.2.2.2.2.1 bt159.2.2.2.2.2.1 bt159.2.2.2.2.2.2))
theorem script_Round.mono_l : ∀ k, (∀ y0 y1 y2 y3 y4 y5 y6 y7 y8 y9 y10 y11 y12 y13 y14 y15, LeO (script_Round.j0 k y0 y1 y2 y3 y4 y5 y6 y7 y8 y9 y10 y11 y12 y13 y14 y15) (script_Round.j0 (k + 1) y0 y1 y2 y3 y4 y5 y6 y7 y8 y9 y10 y11 y12 y13 y14 y15)) ∧ (∀ y0 y1 y2 y3 y4 y5 y6 y7 y8 y9 y10 y11 y12 y13 y14 y15, LeO (script_Round.l0 k y0 y1 y2 y3 y4 y5 y6 y7 y8 y9 y10 y11 y12 y13 y14 y15) (script_Round.l0 (k + 1) y0 y1 y2 y3 y4 y5 y6 y7 y8 y9 y10 y11 y12 y13 y14 y15)) ∧ (∀ y0 y1 y2 y3 y4 y5 y6 y7 y8 y9 y10 y11 y12 y13 y14 y15 y16 y17, LeO (script_Round.l1 k y0 y1 y2 y3 y4 y5 y6 y7 y8 y9 y10 y11 y12 y13 y14 y15 y16 y17) (script_Round.l1 (k + 1) y0 y1 y2 y3 y4 y5 y6 y7 y8 y9 y10 y11 y12 y13 y14 y15 y16 y17))
  | 0 => ⟨fun _ _ _ _ _ _ _ _ _ _ _ _ _ _ _ _ r h => by simp [script_Round.j0] at h, fun _ _ _ _ _ _ _ _ _ _ _ _ _ _ _ _ r h => by simp [script_Round.l0] at h, fun _ _ _ _ _ _ _ _ _ _ _ _ _ _ _ _ _ _ r h => by simp [script_Round.l1] at h⟩
  | k + 1 => by
    obtain ⟨ih0, ih1, ih2⟩ := script_Round.mono_l k
    refine ⟨?_, ?_, ?_⟩
    · intro y0 y1 y2 y3 y4 y5 y6 y7 y8 y9 y10 y11 y12 y13 y14 y15
      unfold script_Round.j0
      repeat' first
      | (with_reducible exact ih0 _ _ _ _ _ _ _ _ _ _ _ _ _ _ _ _)
      | (with_reducible exact ih1 _ _ _ _ _ _ _ _ _ _ _ _ _ _ _ _)
      | (with_reducible exact ih2 _ _ _ _ _ _ _ _ _ _ _ _ _ _ _ _ _ _)
      | (with_reducible exact script_Copy.mono _ _ _ _ _ _ _ _)
      | (with_reducible exact LeO.refl _)
      | (with_reducible exact LeO.none _)
      | (with_reducible refine LeO.ite ?_ ?_)
      | (with_reducible refine LeO.bind ?_ (fun _ => ?_))
      | exact ih0 _ _ _ _ _ _ _ _ _ _ _ _ _ _ _ _
      | exact ih1 _ _ _ _ _ _ _ _ _ _ _ _ _ _ _ _
      | exact ih2 _ _ _ _ _ _ _ _ _ _ _ _ _ _ _ _ _ _
      | exact script_Copy.mono _ _ _ _ _ _ _ _
      | exact LeO.none _
      | refine LeO.ite ?_ ?_
      | refine LeO.bind ?_ (fun _ => ?_)
    · intro y0 y1 y2 y3 y4 y5 y6 y7 y8 y9 y10 y11 y12 y13 y14 y15
      unfold script_Round.l0
      repeat' first
      | (with_reducible exact ih0 _ _ _ _ _ _ _ _ _ _ _ _ _ _ _ _)
      | (with_reducible exact ih1 _ _ _ _ _ _ _ _ _ _ _ _ _ _ _ _)
      | (with_reducible exact ih2 _ _ _ _ _ _ _ _ _ _ _ _ _ _ _ _ _ _)
      | (with_reducible exact script_Copy.mono _ _ _ _ _ _ _ _)
      | (with_reducible exact LeO.refl _)
      | (with_reducible exact LeO.none _)
      | (with_reducible refine LeO.ite ?_ ?_)
      | (with_reducible refine LeO.bind ?_ (fun _ => ?_))
      | exact ih0 _ _ _ _ _ _ _ _ _ _ _ _ _ _ _ _
      | exact ih1 _ _ _ _ _ _ _ _ _ _ _ _ _ _ _ _
      | exact ih2 _ _ _ _ _ _ _ _ _ _ _ _ _ _ _ _ _ _
      | exact script_Copy.mono _ _ _ _ _ _ _ _
      | exact LeO.none _
      | refine LeO.ite ?_ ?_
      | refine LeO.bind ?_ (fun _ => ?_)
    · intro y0 y1 y2 y3 y4 y5 y6 y7 y8 y9 y10 y11 y12 y13 y14 y15 y16 y17
      unfold script_Round.l1
      repeat' first
      | (with_reducible exact ih0 _ _ _ _ _ _ _ _ _ _ _ _ _ _ _ _)
      | (with_reducible exact ih1 _ _ _ _ _ _ _ _ _ _ _ _ _ _ _ _)
      | (with_reducible exact ih2 _ _ _ _ _ _ _ _ _ _ _ _ _ _ _ _ _ _)
      | (with_reducible exact script_Copy.mono _ _ _ _ _ _ _ _)
      | (with_reducible exact LeO.refl _)
      | (with_reducible exact LeO.none _)
      | (with_reducible refine LeO.ite ?_ ?_)
      | (with_reducible refine LeO.bind ?_ (fun _ => ?_))
      | exact ih0 _ _ _ _ _ _ _ _ _ _ _ _ _ _ _ _
      | exact ih1 _ _ _ _ _ _ _ _ _ _ _ _ _ _ _ _
      | exact ih2 _ _ _ _ _ _ _ _ _ _ _ _ _ _ _ _ _ _
      | exact script_Copy.mono _ _ _ _ _ _ _ _
      | exact LeO.none _
      | refine LeO.ite ?_ ?_
      | refine LeO.bind ?_ (fun _ => ?_)
theorem script_Round.mono : ∀ a0 a1 a2 a3 a4 a5 a6 a7 k, LeO (script_Round.f k a0 a1 a2 a3 a4 a5 a6 a7) (script_Round.f (k + 1) a0 a1 a2 a3 a4 a5 a6 a7) := by
  intro a0 a1 a2 a3 a4 a5 a6 a7 k
  obtain ⟨ih0, ih1, ih2⟩ := script_Round.mono_l k
  unfold script_Round.f
  repeat' first
      | (with_reducible exact ih0 _ _ _ _ _ _ _ _ _ _ _ _ _ _ _ _)
      | (with_reducible exact ih1 _ _ _ _ _ _ _ _ _ _ _ _ _ _ _ _)
      | (with_reducible exact ih2 _ _ _ _ _ _ _ _ _ _ _ _ _ _ _ _ _ _)
      | (with_reducible exact script_Copy.mono _ _ _ _ _ _ _ _)
      | (with_reducible exact LeO.refl _)
      | (with_reducible exact LeO.none _)
      | (with_reducible refine LeO.ite ?_ ?_)
      | (with_reducible refine LeO.bind ?_ (fun _ => ?_))
      | exact ih0 _ _ _ _ _ _ _ _ _ _ _ _ _ _ _ _
      | exact ih1 _ _ _ _ _ _ _ _ _ _ _ _ _ _ _ _
      | exact ih2 _ _ _ _ _ _ _ _ _ _ _ _ _ _ _ _ _ _
      | exact script_Copy.mono _ _ _ _ _ _ _ _
      | exact LeO.none _
      | refine LeO.ite ?_ ?_
      | refine LeO.bind ?_ (fun _ => ?_)
set_option maxHeartbeats 8000000 in
set_option maxRecDepth 100000 in
theorem script_Round.calls (k : Nat) (a0_0 : Int) (a0_1 : Int) (a0_2 : Int) (a0_3 : Int) (a0_4 : Int) (A0_5 : Option Addr) (c0_5 : Nat) (l0_5 : List (List (S37))) (A0_6 : Option Addr) (c0_6 : Nat) (l0_6 : List Int) (a1 : Int) (r1 : Int) (r2 : Int) (r3 : Int) (r4 : Int) (r5 : Int) (r6 : List (List (S37))) (r7 : List Int) (w : World) (hr0_5 : Kd.C (Kd.slice 37 k37) w A0_5 l0_5.length l0_5) (hc0_5 : l0_5.length ≤ c0_5) (hr0_6 : Kd.C (Kd.int .i64) w A0_6 l0_6.length l0_6) (hc0_6 : l0_6.length ≤ c0_6) (h : script_Round.f k a0_0 a0_1 a0_2 a0_3 a0_4 l0_5 l0_6 a1 = some (r1, r2, r3, r4, r5, r6, r7)) :
    Calls Try.prog 31 #[.agg #[.int .i64 a0_0, .int .i64 a0_1, .int .i64 a0_2, .int .i64 a0_3, .int .i64 a0_4, .slice A0_5 l0_5.length c0_5, .slice A0_6 l0_6.length c0_6], .int .i64 a1] w fun e w' => ∃ v5_ v6_ : Value, e = .returned (.agg #[.int .i64 r1, .int .i64 r2, .int .i64 r3, .int .i64 r4, .int .i64 r5, v5_, v6_]) ∧ Kd.S (Kd.slice 37 k37) 55 w' w.heap.size (fun _ => True) v5_ r6 ∧ Kd.R (Kd.int .i64) 3 w' w.heap.size (fun _ => True) v6_ r7 ∧ Below w.heap.size w w' := by
  have hu49 := Try.underlying49
  have HR0_5 := Aside0.mk hr0_5
  have HC0_5 := Aside0.mk hc0_5
  clear hr0_5 hc0_5
  have HR0_6 := Aside0.mk hr0_6
  have HC0_6 := Aside0.mk hc0_6
  clear hr0_6 hc0_6
  have HB := Aside0.mk (Below.refl w.heap.size w)
  have H : ((script_Copy.f k a0_0 a0_1 a0_2 a0_3 a0_4 l0_5 l0_6).bind fun bt159 => (if a1 < 1 then (script_Round.j0 k a1 true a0_0 a0_1 a0_2 a0_3 a0_4 l0_5 l0_6 bt159.1 bt159.2.1 bt159.2.2.1 bt159.2.2.2.1 bt159.2.2.2.2.1 bt159.2.2.2.2.2.1 bt159.2.2.2.2.2.2) else (script_Round.j0 k a1 ((l0_5.length : Int) == 0) a0_0 a0_1 a0_2 a0_3 a0_4 l0_5 l0_6 bt159.1 bt159.2.1 bt159.2.2.1 bt159.2.2.2.1 bt159.2.2.2.2.1 bt159.2.2.2.2.2.1 bt159.2.2.2.2.2.2))) = some (r1, r2, r3, r4, r5, r6, r7) := h
  clear h
  replace H := Option.bind_eq_some_iff.mp H
  obtain ⟨⟨t159, t160, t161, t162, t163, t164, t167⟩, A30, H⟩ := H
  replace H : (if a1 < 1 then (script_Round.j0 k a1 true a0_0 a0_1 a0_2 a0_3 a0_4 l0_5 l0_6 t159 t160 t161 t162 t163 t164 t167) else (script_Round.j0 k a1 ((l0_5.length : Int) == 0) a0_0 a0_1 a0_2 a0_3 a0_4 l0_5 l0_6 t159 t160 t161 t162 t163 t164 t167)) = some (r1, r2, r3, r4, r5, r6, r7) := H
  have A3 := Aside0.mk A30
  clear A30
  have HC4 := Aside0.mk H
  clear H
  go_enter Try.func31, Try.ntmps31
  go_upto_region 2 with (first | ((with_reducible refine gate_dst (N := 2) rfl ?_); (try (refine gate_guard (by rfl) ?_; dsimp only)); refine box_event ?hg (N := 2) ?hd (cs := #[.int .i64 a0_0, .int .i64 a0_1, .int .i64 a0_2, .int .i64 a0_3, .int .i64 a0_4, .slice A0_5 l0_5.length c0_5, .slice A0_6 l0_6.length c0_6]) (t := 49) ?hr ?_; (case hd => rfl); (case hg => rfl); (case hr => first | (go_simp; done) | (go_simp; rfl)); intro gb157 hg w5 hbox hb; have n0_ := Aside0.mk (below_step (by repeat (first | (with_reducible first | exact HB.out | apply below_alloc | apply pw_below_drewN | apply below_drew1) | exact HB.out)) hb); have n1_ := Aside0.mk (hbox); have n2_ := Aside0.mk ((by rw [hg]; exact (below_size (by repeat (first | (with_reducible first | exact HB.out | apply below_alloc | apply pw_below_drewN | apply below_drew1) | exact HB.out))) : w.heap.size ≤ gb157)); have n3_ := Aside0.mk ((by rw [hg]; exact (below_size (by repeat (first | (with_reducible first | exact HB.out | apply below_alloc | apply pw_below_drewN | apply below_drew1) | exact HB.out))) : w.heap.size ≤ gb157)); clear HB; have HB := n0_; have BK157 := n1_; have GW157 := n2_; have GE157 := n3_; clear n0_ n1_ n2_ n3_; clear hb hbox hg) | ((with_reducible refine gate_dst (N := 4) rfl ?_); (try (refine gate_guard (by rfl) ?_; dsimp only)); refine box_event ?hg (N := 4) ?hd (cs := #[.int .i64 0, .int .i64 0, .int .i64 0, .int .i64 0, .int .i64 0, .slice none 0 0, .slice none 0 0]) (t := 49) ?hr ?_; (case hd => rfl); (case hg => rfl); (case hr => first | (go_simp; done) | (go_simp; rfl)); intro gb158 hg w6 hbox hb; have n0_ := Aside0.mk (blk_below (g := gb157) (o := .cells #[.int .i64 a0_0, .int .i64 a0_1, .int .i64 a0_2, .int .i64 a0_3, .int .i64 a0_4, .slice A0_5 l0_5.length c0_5, .slice A0_6 l0_6.length c0_6] 49 (0, 0)) (by (with_reducible repeat (first | refine blk_drewN ?_ _ | refine blk_drew ?_ | refine blk_alloc ?_ _)); exact BK157.out) hb); have n1_ := Aside0.mk (below_step (by repeat (first | (with_reducible first | exact HB.out | apply below_alloc | apply pw_below_drewN | apply below_drew1 | refine below_set ?_ GE157.out) | exact HB.out)) hb); have n2_ := Aside0.mk (hbox); have n3_ := Aside0.mk ((by rw [hg]; exact (below_size (by repeat (first | (with_reducible first | exact HB.out | apply below_alloc | apply pw_below_drewN | apply below_drew1 | refine below_set ?_ GE157.out) | exact HB.out))) : w.heap.size ≤ gb158)); have n4_ := Aside0.mk ((by rw [hg]; exact (below_size (by repeat (first | (with_reducible first | exact HB.out | apply below_alloc | apply pw_below_drewN | apply below_drew1 | refine below_set ?_ GE157.out) | exact HB.out))) : w.heap.size ≤ gb158)); have n5_ := Aside0.mk ((by rw [hg]; exact Nat.ne_of_lt (blk_lt (g := gb157) (o := .cells #[.int .i64 a0_0, .int .i64 a0_1, .int .i64 a0_2, .int .i64 a0_3, .int .i64 a0_4, .slice A0_5 l0_5.length c0_5, .slice A0_6 l0_6.length c0_6] 49 (0, 0)) (by (with_reducible repeat (first | refine blk_drewN ?_ _ | refine blk_drew ?_ | refine blk_alloc ?_ _)); exact BK157.out)) : gb157 ≠ gb158)); have n6_ := Aside0.mk ((by rw [hg]; exact Nat.ne_of_gt (blk_lt (g := gb157) (o := .cells #[.int .i64 a0_0, .int .i64 a0_1, .int .i64 a0_2, .int .i64 a0_3, .int .i64 a0_4, .slice A0_5 l0_5.length c0_5, .slice A0_6 l0_6.length c0_6] 49 (0, 0)) (by (with_reducible repeat (first | refine blk_drewN ?_ _ | refine blk_drew ?_ | refine blk_alloc ?_ _)); exact BK157.out)) : gb158 ≠ gb157)); clear BK157; clear HB; have BK157 := n0_; have HB := n1_; have BK158 := n2_; have GW158 := n3_; have GE158 := n4_; have NB157_158 := n5_; have NB158_157 := n6_; clear n0_ n1_ n2_ n3_ n4_ n5_ n6_; clear hb hbox hg; have hnb7 := NB157_158.out; have hnc7 := NB158_157.out; have hcz8_0 : w6.cell? ⟨gb157, 0, none⟩ = some (.int .i64 a0_0) := (blk_cell BK157.out 0).trans rfl; have hcz8_1 : w6.cell? ⟨gb157, 1, none⟩ = some (.int .i64 a0_1) := (blk_cell BK157.out 1).trans rfl; have hcz8_2 : w6.cell? ⟨gb157, 2, none⟩ = some (.int .i64 a0_2) := (blk_cell BK157.out 2).trans rfl; have hcz8_3 : w6.cell? ⟨gb157, 3, none⟩ = some (.int .i64 a0_3) := (blk_cell BK157.out 3).trans rfl; have hcz8_4 : w6.cell? ⟨gb157, 4, none⟩ = some (.int .i64 a0_4) := (blk_cell BK157.out 4).trans rfl; have hcz8_5 : w6.cell? ⟨gb157, 5, none⟩ = some (.slice A0_5 l0_5.length c0_5) := (blk_cell BK157.out 5).trans rfl; have hcz8_6 : w6.cell? ⟨gb157, 6, none⟩ = some (.slice A0_6 l0_6.length c0_6) := (blk_cell BK157.out 6).trans rfl; have hfz8_0 := blk_frozen BK157.out 0; have hfz8_1 := blk_frozen BK157.out 1; have hfz8_2 := blk_frozen BK157.out 2; have hfz8_3 := blk_frozen BK157.out 3; have hfz8_4 := blk_frozen BK157.out 4; have hfz8_5 := blk_frozen BK157.out 5; have hfz8_6 := blk_frozen BK157.out 6) | ((with_reducible refine gate_callee (f := 32) rfl ?_); refine goesL_ (some 8) rfl rfl Try.func32 (by kernel_rfl) rfl #[.agg #[.int .i64 a0_0, .int .i64 a0_1, .int .i64 a0_2, .int .i64 a0_3, .int .i64 a0_4, .slice A0_5 l0_5.length c0_5, .slice A0_6 l0_6.length c0_6]] rfl (by (try simp only [List.map_toArray, List.map_cons, List.map_nil]); first | done | rfl | (simp only [List.length_drop, List.length_take]; rfl)) ?_; (with_reducible refine (script_Copy.calls k a0_0 a0_1 a0_2 a0_3 a0_4 _ _ l0_5 _ _ l0_6 t159 t160 t161 t162 t163 t164 t167 _ ?side1 ?side2 ?side3 ?side4 A3.out).mono ?_); (case side1 => repeat (first | exact (Kd.C_below HR0_5.out HB.out) | (with_reducible refine Kd.C_alloc ?_ _) | (with_reducible refine Kd.C_drewN ?_ _) | (with_reducible refine Kd.C_drew ?_))); (case side2 => exact HC0_5.out); (case side3 => repeat (first | exact (Kd.C_below HR0_6.out HB.out) | (with_reducible refine Kd.C_alloc ?_ _) | (with_reducible refine Kd.C_drewN ?_ _) | (with_reducible refine Kd.C_drew ?_))); (case side4 => exact HC0_6.out); rintro e w9 ⟨v165, v168, rfl, ho0, ho1, hb⟩; refine ⟨_, rfl, ?_⟩; have n0_ := Aside0.mk (Kd.S_lower ho0 (below_size (by repeat (first | (with_reducible first | exact HB.out | apply below_alloc | apply pw_below_drewN | apply below_drew1 | refine below_set ?_ GE157.out | refine below_set ?_ GE158.out) | exact HB.out)))); have n1_ := Aside0.mk (Kd.R_lower ho1 (below_size (by repeat (first | (with_reducible first | exact HB.out | apply below_alloc | apply pw_below_drewN | apply below_drew1 | refine below_set ?_ GE157.out | refine below_set ?_ GE158.out) | exact HB.out)))); have n2_ := Aside0.mk (blk_below (g := gb157) (o := .cells #[.int .i64 a0_0, .int .i64 a0_1, .int .i64 a0_2, .int .i64 a0_3, .int .i64 a0_4, .slice A0_5 l0_5.length c0_5, .slice A0_6 l0_6.length c0_6] 49 (0, 0)) (by (with_reducible repeat (first | refine blk_drewN ?_ _ | refine blk_drew ?_ | refine blk_alloc ?_ _)); exact BK157.out) hb); have n3_ := Aside0.mk (blk_below (g := gb158) (o := .cells #[.int .i64 0, .int .i64 0, .int .i64 0, .int .i64 0, .int .i64 0, .slice none 0 0, .slice none 0 0] 49 (0, 0)) (by (with_reducible repeat (first | refine blk_drewN ?_ _ | refine blk_drew ?_ | refine blk_alloc ?_ _)); exact BK158.out) hb); have n4_ := Aside0.mk (below_step (by repeat (first | (with_reducible first | exact HB.out | apply below_alloc | apply pw_below_drewN | apply below_drew1 | refine below_set ?_ GE157.out | refine below_set ?_ GE158.out) | exact HB.out)) hb); clear BK157; clear BK158; clear HB; have HO166 := n0_; have HO169 := n1_; have BK157 := n2_; have BK158 := n3_; have HB := n4_; clear n0_ n1_ n2_ n3_ n4_; (try clear hb); (try clear hb2); (try clear hk); (try clear hi); (try clear ho0); (try clear ho1)) | ((with_reducible refine gate_dst (N := 5) rfl ?_); (try (refine gate_guard (by rfl) ?_; dsimp only)); refine box_event ?hg (N := 5) ?hd (cs := #[.int .i64 0, .int .i64 0, .int .i64 0, .int .i64 0, .int .i64 0, .slice none 0 0, .slice none 0 0]) (t := 49) ?hr ?_; (case hd => rfl); (case hg => rfl); (case hr => first | (go_simp; done) | (go_simp; rfl)); intro gb170 hg w10 hbox hb; have n0_ := Aside0.mk (Kd.S_below (by (with_reducible repeat (first | apply Kd.S_alloc | apply Kd.S_drewN | apply Kd.S_drew)); exact HO166.out) hb); have n1_ := Aside0.mk (Kd.R_below (by (with_reducible repeat (first | apply Kd.R_alloc | apply Kd.R_drewN | apply Kd.R_drew)); exact HO169.out) hb); have n2_ := Aside0.mk (blk_below (g := gb157) (o := .cells #[.int .i64 a0_0, .int .i64 a0_1, .int .i64 a0_2, .int .i64 a0_3, .int .i64 a0_4, .slice A0_5 l0_5.length c0_5, .slice A0_6 l0_6.length c0_6] 49 (0, 0)) (by (with_reducible repeat (first | refine blk_drewN ?_ _ | refine blk_drew ?_ | refine blk_alloc ?_ _)); exact BK157.out) hb); have n3_ := Aside0.mk (blk_below (g := gb158) (o := .cells #[.int .i64 0, .int .i64 0, .int .i64 0, .int .i64 0, .int .i64 0, .slice none 0 0, .slice none 0 0] 49 (0, 0)) (by (with_reducible repeat (first | refine blk_drewN ?_ _ | refine blk_drew ?_ | refine blk_alloc ?_ _)); exact BK158.out) hb); have n4_ := Aside0.mk (below_step (by repeat (first | (with_reducible first | exact HB.out | apply below_alloc | apply pw_below_drewN | apply below_drew1 | refine below_set ?_ GE157.out | refine below_set ?_ GE158.out) | exact HB.out)) hb); have n5_ := Aside0.mk (hbox); have n6_ := Aside0.mk ((by rw [hg]; exact (below_size (by repeat (first | (with_reducible first | exact HB.out | apply below_alloc | apply pw_below_drewN | apply below_drew1 | refine below_set ?_ GE157.out | refine below_set ?_ GE158.out) | exact HB.out))) : w.heap.size ≤ gb170)); have n7_ := Aside0.mk ((by rw [hg]; exact (below_size (by repeat (first | (with_reducible first | exact HB.out | apply below_alloc | apply pw_below_drewN | apply below_drew1 | refine below_set ?_ GE157.out | refine below_set ?_ GE158.out) | exact HB.out))) : w.heap.size ≤ gb170)); have n8_ := Aside0.mk ((by rw [hg]; exact Nat.ne_of_lt (blk_lt (g := gb157) (o := .cells #[.int .i64 a0_0, .int .i64 a0_1, .int .i64 a0_2, .int .i64 a0_3, .int .i64 a0_4, .slice A0_5 l0_5.length c0_5, .slice A0_6 l0_6.length c0_6] 49 (0, 0)) (by (with_reducible repeat (first | refine blk_drewN ?_ _ | refine blk_drew ?_ | refine blk_alloc ?_ _)); exact BK157.out)) : gb157 ≠ gb170)); have n9_ := Aside0.mk ((by rw [hg]; exact Nat.ne_of_gt (blk_lt (g := gb157) (o := .cells #[.int .i64 a0_0, .int .i64 a0_1, .int .i64 a0_2, .int .i64 a0_3, .int .i64 a0_4, .slice A0_5 l0_5.length c0_5, .slice A0_6 l0_6.length c0_6] 49 (0, 0)) (by (with_reducible repeat (first | refine blk_drewN ?_ _ | refine blk_drew ?_ | refine blk_alloc ?_ _)); exact BK157.out)) : gb170 ≠ gb157)); have n10_ := Aside0.mk ((by rw [hg]; exact Nat.ne_of_lt (blk_lt (g := gb158) (o := .cells #[.int .i64 0, .int .i64 0, .int .i64 0, .int .i64 0, .int .i64 0, .slice none 0 0, .slice none 0 0] 49 (0, 0)) (by (with_reducible repeat (first | refine blk_drewN ?_ _ | refine blk_drew ?_ | refine blk_alloc ?_ _)); exact BK158.out)) : gb158 ≠ gb170)); have n11_ := Aside0.mk ((by rw [hg]; exact Nat.ne_of_gt (blk_lt (g := gb158) (o := .cells #[.int .i64 0, .int .i64 0, .int .i64 0, .int .i64 0, .int .i64 0, .slice none 0 0, .slice none 0 0] 49 (0, 0)) (by (with_reducible repeat (first | refine blk_drewN ?_ _ | refine blk_drew ?_ | refine blk_alloc ?_ _)); exact BK158.out)) : gb170 ≠ gb158)); clear HO166; clear HO169; clear BK157; clear BK158; clear HB; have HO166 := n0_; have HO169 := n1_; have BK157 := n2_; have BK158 := n3_; have HB := n4_; have BK170 := n5_; have GW170 := n6_; have GE170 := n7_; have NB157_170 := n8_; have NB170_157 := n9_; have NB158_170 := n10_; have NB170_158 := n11_; clear n0_ n1_ n2_ n3_ n4_ n5_ n6_ n7_ n8_ n9_ n10_ n11_; clear hb hbox hg; have hnb11 := NB170_157.out; have hnc11 := NB157_170.out; have hnb12 := NB170_158.out; have hnc12 := NB158_170.out; have hcz13_0 : w10.cell? ⟨gb170, 0, none⟩ = some (.int .i64 0) := (blk_cell BK170.out 0).trans rfl; have hcz13_1 : w10.cell? ⟨gb170, 1, none⟩ = some (.int .i64 0) := (blk_cell BK170.out 1).trans rfl; have hcz13_2 : w10.cell? ⟨gb170, 2, none⟩ = some (.int .i64 0) := (blk_cell BK170.out 2).trans rfl; have hcz13_3 : w10.cell? ⟨gb170, 3, none⟩ = some (.int .i64 0) := (blk_cell BK170.out 3).trans rfl; have hcz13_4 : w10.cell? ⟨gb170, 4, none⟩ = some (.int .i64 0) := (blk_cell BK170.out 4).trans rfl; have hcz13_5 : w10.cell? ⟨gb170, 5, none⟩ = some (.slice none 0 0) := (blk_cell BK170.out 5).trans rfl; have hcz13_6 : w10.cell? ⟨gb170, 6, none⟩ = some (.slice none 0 0) := (blk_cell BK170.out 6).trans rfl; have hfz13_0 := blk_frozen BK170.out 0; have hfz13_1 := blk_frozen BK170.out 1; have hfz13_2 := blk_frozen BK170.out 2; have hfz13_3 := blk_frozen BK170.out 3; have hfz13_4 := blk_frozen BK170.out 4; have hfz13_5 := blk_frozen BK170.out 5; have hfz13_6 := blk_frozen BK170.out 6; obtain ⟨Ao14, co14, eo14⟩ := Kd.S_slice HO166.out; subst eo14; obtain ⟨Ao15, co15, eo15⟩ := Kd.R_slice HO169.out; subst eo15))
  (try simp only [Act.put, List.setIfInBounds_toArray, List.set_cons_zero, List.set_cons_succ])
  go_cut [16] (fun v16 wc => ∃ (kq : Nat) (x16_3 : Bool), v16 = .bool x16_3 ∧ Aside0 (script_Round.j0 kq a1 x16_3 a0_0 a0_1 a0_2 a0_3 a0_4 l0_5 l0_6 t159 t160 t161 t162 t163 t164 t167 = some (r1, r2, r3, r4, r5, r6, r7)) ∧ Aside0 (kq ≤ k) ∧ Aside0 (Kd.S (Kd.slice 37 k37) 55 wc w.heap.size (fun _ => True) (.slice Ao14 t164.length co14) t164) ∧ Aside0 (Kd.R (Kd.int .i64) 3 wc w.heap.size (fun _ => True) (.slice Ao15 t167.length co15) t167) ∧ Aside0 (wc.heap[gb157]? = some (.cells #[.int .i64 a0_0, .int .i64 a0_1, .int .i64 a0_2, .int .i64 a0_3, .int .i64 a0_4, (.slice A0_5 l0_5.length c0_5), (.slice A0_6 l0_6.length c0_6)] 49 (0, 0))) ∧ Aside0 (wc.heap[gb158]? = some (.cells #[.int .i64 0, .int .i64 0, .int .i64 0, .int .i64 0, .int .i64 0, (.slice none 0 0), (.slice none 0 0)] 49 (0, 0))) ∧ Aside0 (wc.heap[gb170]? = some (.cells #[.int .i64 t159, .int .i64 t160, .int .i64 t161, .int .i64 t162, .int .i64 t163, (.slice Ao14 t164.length co14), (.slice Ao15 t167.length co15)] 49 (0, 0))) ∧ Aside0 (Below w.heap.size w wc))
  case first =>
    have H := HC4.out
    clear HC4
    by_cases c16 : a1 < 1
    · rw [if_pos c16] at H
      have c16b0 : decide (a1 < 1) = true := decide_eq_true c16
      clear c16
      (first | rw [c16b0] | (simp only [i64_w, i32_w]; rw [c16b0]) | skip)
      have H' := Aside0.mk H
      clear H
      go_wp2
      go_meet
      case rel => exact ⟨_, (true), (by first | rfl | (simp; done) | (simp [*]; done)), H', ⟨by first | omega | exact Nat.le_refl _⟩, ⟨by (with_reducible repeat (first | apply Kd.S_alloc | apply Kd.S_drewN | apply Kd.S_drew)); exact Kd.S_mono (Kd.S_far (p := ⟨gb170, 6, none⟩) (Kd.S_far (p := ⟨gb170, 5, none⟩) (Kd.S_far (p := ⟨gb170, 4, none⟩) (Kd.S_far (p := ⟨gb170, 3, none⟩) (Kd.S_far (p := ⟨gb170, 2, none⟩) (Kd.S_far (p := ⟨gb170, 1, none⟩) (Kd.S_far (p := ⟨gb170, 0, none⟩) (Kd.S_types HO166.out BK170.out (by decide)) (fun _ hk => hk.2) (.int .i64 t159)) (fun _ hk => hk.2) (.int .i64 t160)) (fun _ hk => hk.2) (.int .i64 t161)) (fun _ hk => hk.2) (.int .i64 t162)) (fun _ hk => hk.2) (.int .i64 t163)) (fun _ hk => hk.2) (.slice Ao14 t164.length co14)) (fun _ hk => hk.2) (.slice Ao15 t167.length co15)) (fun _ hk => trivial)⟩, ⟨by (with_reducible repeat (first | apply Kd.R_alloc | apply Kd.R_drewN | apply Kd.R_drew)); exact Kd.R_mono (Kd.R_far (p := ⟨gb170, 6, none⟩) (Kd.R_far (p := ⟨gb170, 5, none⟩) (Kd.R_far (p := ⟨gb170, 4, none⟩) (Kd.R_far (p := ⟨gb170, 3, none⟩) (Kd.R_far (p := ⟨gb170, 2, none⟩) (Kd.R_far (p := ⟨gb170, 1, none⟩) (Kd.R_far (p := ⟨gb170, 0, none⟩) (Kd.R_types HO169.out BK170.out (by decide)) (fun _ hk => hk.2) (.int .i64 t159)) (fun _ hk => hk.2) (.int .i64 t160)) (fun _ hk => hk.2) (.int .i64 t161)) (fun _ hk => hk.2) (.int .i64 t162)) (fun _ hk => hk.2) (.int .i64 t163)) (fun _ hk => hk.2) (.slice Ao14 t164.length co14)) (fun _ hk => hk.2) (.slice Ao15 t167.length co15)) (fun _ hk => trivial)⟩, ⟨by (with_reducible repeat (first | refine blk_drewN ?_ _ | refine blk_drew ?_ | refine blk_alloc ?_ _)); refine blk_far ?_ NB157_170.out _; (with_reducible repeat (first | refine blk_drewN ?_ _ | refine blk_drew ?_ | refine blk_alloc ?_ _)); refine blk_far ?_ NB157_170.out _; (with_reducible repeat (first | refine blk_drewN ?_ _ | refine blk_drew ?_ | refine blk_alloc ?_ _)); refine blk_far ?_ NB157_170.out _; (with_reducible repeat (first | refine blk_drewN ?_ _ | refine blk_drew ?_ | refine blk_alloc ?_ _)); refine blk_far ?_ NB157_170.out _; (with_reducible repeat (first | refine blk_drewN ?_ _ | refine blk_drew ?_ | refine blk_alloc ?_ _)); refine blk_far ?_ NB157_170.out _; (with_reducible repeat (first | refine blk_drewN ?_ _ | refine blk_drew ?_ | refine blk_alloc ?_ _)); refine blk_far ?_ NB157_170.out _; (with_reducible repeat (first | refine blk_drewN ?_ _ | refine blk_drew ?_ | refine blk_alloc ?_ _)); refine blk_far ?_ NB157_170.out _; (with_reducible repeat (first | refine blk_drewN ?_ _ | refine blk_drew ?_ | refine blk_alloc ?_ _)); exact BK157.out⟩, ⟨by (with_reducible repeat (first | refine blk_drewN ?_ _ | refine blk_drew ?_ | refine blk_alloc ?_ _)); refine blk_far ?_ NB158_170.out _; (with_reducible repeat (first | refine blk_drewN ?_ _ | refine blk_drew ?_ | refine blk_alloc ?_ _)); refine blk_far ?_ NB158_170.out _; (with_reducible repeat (first | refine blk_drewN ?_ _ | refine blk_drew ?_ | refine blk_alloc ?_ _)); refine blk_far ?_ NB158_170.out _; (with_reducible repeat (first | refine blk_drewN ?_ _ | refine blk_drew ?_ | refine blk_alloc ?_ _)); refine blk_far ?_ NB158_170.out _; (with_reducible repeat (first | refine blk_drewN ?_ _ | refine blk_drew ?_ | refine blk_alloc ?_ _)); refine blk_far ?_ NB158_170.out _; (with_reducible repeat (first | refine blk_drewN ?_ _ | refine blk_drew ?_ | refine blk_alloc ?_ _)); refine blk_far ?_ NB158_170.out _; (with_reducible repeat (first | refine blk_drewN ?_ _ | refine blk_drew ?_ | refine blk_alloc ?_ _)); refine blk_far ?_ NB158_170.out _; (with_reducible repeat (first | refine blk_drewN ?_ _ | refine blk_drew ?_ | refine blk_alloc ?_ _)); exact BK158.out⟩, ⟨by (with_reducible repeat (first | refine blk_drewN ?_ _ | refine blk_drew ?_ | refine blk_alloc ?_ _)); refine blk_put (cs := #[.int .i64 t159, .int .i64 t160, .int .i64 t161, .int .i64 t162, .int .i64 t163, .slice Ao14 t164.length co14, .slice none 0 0]) ?_ 6 _ rfl; (with_reducible repeat (first | refine blk_drewN ?_ _ | refine blk_drew ?_ | refine blk_alloc ?_ _)); refine blk_put (cs := #[.int .i64 t159, .int .i64 t160, .int .i64 t161, .int .i64 t162, .int .i64 t163, .slice none 0 0, .slice none 0 0]) ?_ 5 _ rfl; (with_reducible repeat (first | refine blk_drewN ?_ _ | refine blk_drew ?_ | refine blk_alloc ?_ _)); refine blk_put (cs := #[.int .i64 t159, .int .i64 t160, .int .i64 t161, .int .i64 t162, .int .i64 0, .slice none 0 0, .slice none 0 0]) ?_ 4 _ rfl; (with_reducible repeat (first | refine blk_drewN ?_ _ | refine blk_drew ?_ | refine blk_alloc ?_ _)); refine blk_put (cs := #[.int .i64 t159, .int .i64 t160, .int .i64 t161, .int .i64 0, .int .i64 0, .slice none 0 0, .slice none 0 0]) ?_ 3 _ rfl; (with_reducible repeat (first | refine blk_drewN ?_ _ | refine blk_drew ?_ | refine blk_alloc ?_ _)); refine blk_put (cs := #[.int .i64 t159, .int .i64 t160, .int .i64 0, .int .i64 0, .int .i64 0, .slice none 0 0, .slice none 0 0]) ?_ 2 _ rfl; (with_reducible repeat (first | refine blk_drewN ?_ _ | refine blk_drew ?_ | refine blk_alloc ?_ _)); refine blk_put (cs := #[.int .i64 t159, .int .i64 0, .int .i64 0, .int .i64 0, .int .i64 0, .slice none 0 0, .slice none 0 0]) ?_ 1 _ rfl; (with_reducible repeat (first | refine blk_drewN ?_ _ | refine blk_drew ?_ | refine blk_alloc ?_ _)); refine blk_put (cs := #[.int .i64 0, .int .i64 0, .int .i64 0, .int .i64 0, .int .i64 0, .slice none 0 0, .slice none 0 0]) ?_ 0 _ rfl; (with_reducible repeat (first | refine blk_drewN ?_ _ | refine blk_drew ?_ | refine blk_alloc ?_ _)); exact BK170.out⟩, ⟨by repeat (first | (with_reducible first | exact HB.out | apply below_alloc | apply pw_below_drewN | apply below_drew1 | refine below_set ?_ GE157.out | refine below_set ?_ GE158.out | refine below_set ?_ GE170.out) | exact HB.out)⟩⟩
    · rw [if_neg c16] at H
      have c16b0 : decide (a1 < 1) = false := decide_eq_false c16
      clear c16
      (first | rw [c16b0] | (simp only [i64_w, i32_w]; rw [c16b0]) | skip)
      have H' := Aside0.mk H
      clear H
      have hnb17 := NB157_158.out
      have hnc17 := NB158_157.out
      have hnb18 := NB157_170.out
      have hnc18 := NB170_157.out
      have hcz19_0 : w10.cell? ⟨gb157, 0, none⟩ = some (.int .i64 a0_0) := (blk_cell BK157.out 0).trans rfl
      have hcz19_1 : w10.cell? ⟨gb157, 1, none⟩ = some (.int .i64 a0_1) := (blk_cell BK157.out 1).trans rfl
      have hcz19_2 : w10.cell? ⟨gb157, 2, none⟩ = some (.int .i64 a0_2) := (blk_cell BK157.out 2).trans rfl
      have hcz19_3 : w10.cell? ⟨gb157, 3, none⟩ = some (.int .i64 a0_3) := (blk_cell BK157.out 3).trans rfl
      have hcz19_4 : w10.cell? ⟨gb157, 4, none⟩ = some (.int .i64 a0_4) := (blk_cell BK157.out 4).trans rfl
      have hcz19_5 : w10.cell? ⟨gb157, 5, none⟩ = some (.slice A0_5 l0_5.length c0_5) := (blk_cell BK157.out 5).trans rfl
      have hcz19_6 : w10.cell? ⟨gb157, 6, none⟩ = some (.slice A0_6 l0_6.length c0_6) := (blk_cell BK157.out 6).trans rfl
      have hfz19_0 := blk_frozen BK157.out 0
      have hfz19_1 := blk_frozen BK157.out 1
      have hfz19_2 := blk_frozen BK157.out 2
      have hfz19_3 := blk_frozen BK157.out 3
      have hfz19_4 := blk_frozen BK157.out 4
      have hfz19_5 := blk_frozen BK157.out 5
      have hfz19_6 := blk_frozen BK157.out 6
      go_wp2
      go_meet
      case rel => exact ⟨_, (((l0_5.length : Int) == 0)), (by first | rfl | (simp; done) | (simp [*]; done)), H', ⟨by first | omega | exact Nat.le_refl _⟩, ⟨by (with_reducible repeat (first | apply Kd.S_alloc | apply Kd.S_drewN | apply Kd.S_drew)); exact Kd.S_mono (Kd.S_far (p := ⟨gb170, 6, none⟩) (Kd.S_far (p := ⟨gb170, 5, none⟩) (Kd.S_far (p := ⟨gb170, 4, none⟩) (Kd.S_far (p := ⟨gb170, 3, none⟩) (Kd.S_far (p := ⟨gb170, 2, none⟩) (Kd.S_far (p := ⟨gb170, 1, none⟩) (Kd.S_far (p := ⟨gb170, 0, none⟩) (Kd.S_types HO166.out BK170.out (by decide)) (fun _ hk => hk.2) (.int .i64 t159)) (fun _ hk => hk.2) (.int .i64 t160)) (fun _ hk => hk.2) (.int .i64 t161)) (fun _ hk => hk.2) (.int .i64 t162)) (fun _ hk => hk.2) (.int .i64 t163)) (fun _ hk => hk.2) (.slice Ao14 t164.length co14)) (fun _ hk => hk.2) (.slice Ao15 t167.length co15)) (fun _ hk => trivial)⟩, ⟨by (with_reducible repeat (first | apply Kd.R_alloc | apply Kd.R_drewN | apply Kd.R_drew)); exact Kd.R_mono (Kd.R_far (p := ⟨gb170, 6, none⟩) (Kd.R_far (p := ⟨gb170, 5, none⟩) (Kd.R_far (p := ⟨gb170, 4, none⟩) (Kd.R_far (p := ⟨gb170, 3, none⟩) (Kd.R_far (p := ⟨gb170, 2, none⟩) (Kd.R_far (p := ⟨gb170, 1, none⟩) (Kd.R_far (p := ⟨gb170, 0, none⟩) (Kd.R_types HO169.out BK170.out (by decide)) (fun _ hk => hk.2) (.int .i64 t159)) (fun _ hk => hk.2) (.int .i64 t160)) (fun _ hk => hk.2) (.int .i64 t161)) (fun _ hk => hk.2) (.int .i64 t162)) (fun _ hk => hk.2) (.int .i64 t163)) (fun _ hk => hk.2) (.slice Ao14 t164.length co14)) (fun _ hk => hk.2) (.slice Ao15 t167.length co15)) (fun _ hk => trivial)⟩, ⟨by (with_reducible repeat (first | refine blk_drewN ?_ _ | refine blk_drew ?_ | refine blk_alloc ?_ _)); refine blk_far ?_ NB157_170.out _; (with_reducible repeat (first | refine blk_drewN ?_ _ | refine blk_drew ?_ | refine blk_alloc ?_ _)); refine blk_far ?_ NB157_170.out _; (with_reducible repeat (first | refine blk_drewN ?_ _ | refine blk_drew ?_ | refine blk_alloc ?_ _)); refine blk_far ?_ NB157_170.out _; (with_reducible repeat (first | refine blk_drewN ?_ _ | refine blk_drew ?_ | refine blk_alloc ?_ _)); refine blk_far ?_ NB157_170.out _; (with_reducible repeat (first | refine blk_drewN ?_ _ | refine blk_drew ?_ | refine blk_alloc ?_ _)); refine blk_far ?_ NB157_170.out _; (with_reducible repeat (first | refine blk_drewN ?_ _ | refine blk_drew ?_ | refine blk_alloc ?_ _)); refine blk_far ?_ NB157_170.out _; (with_reducible repeat (first | refine blk_drewN ?_ _ | refine blk_drew ?_ | refine blk_alloc ?_ _)); refine blk_far ?_ NB157_170.out _; (with_reducible repeat (first | refine blk_drewN ?_ _ | refine blk_drew ?_ | refine blk_alloc ?_ _)); exact BK157.out⟩, ⟨by (with_reducible repeat (first | refine blk_drewN ?_ _ | refine blk_drew ?_ | refine blk_alloc ?_ _)); refine blk_far ?_ NB158_170.out _; (with_reducible repeat (first | refine blk_drewN ?_ _ | refine blk_drew ?_ | refine blk_alloc ?_ _)); refine blk_far ?_ NB158_170.out _; (with_reducible repeat (first | refine blk_drewN ?_ _ | refine blk_drew ?_ | refine blk_alloc ?_ _)); refine blk_far ?_ NB158_170.out _; (with_reducible repeat (first | refine blk_drewN ?_ _ | refine blk_drew ?_ | refine blk_alloc ?_ _)); refine blk_far ?_ NB158_170.out _; (with_reducible repeat (first | refine blk_drewN ?_ _ | refine blk_drew ?_ | refine blk_alloc ?_ _)); refine blk_far ?_ NB158_170.out _; (with_reducible repeat (first | refine blk_drewN ?_ _ | refine blk_drew ?_ | refine blk_alloc ?_ _)); refine blk_far ?_ NB158_170.out _; (with_reducible repeat (first | refine blk_drewN ?_ _ | refine blk_drew ?_ | refine blk_alloc ?_ _)); refine blk_far ?_ NB158_170.out _; (with_reducible repeat (first | refine blk_drewN ?_ _ | refine blk_drew ?_ | refine blk_alloc ?_ _)); exact BK158.out⟩, ⟨by (with_reducible repeat (first | refine blk_drewN ?_ _ | refine blk_drew ?_ | refine blk_alloc ?_ _)); refine blk_put (cs := #[.int .i64 t159, .int .i64 t160, .int .i64 t161, .int .i64 t162, .int .i64 t163, .slice Ao14 t164.length co14, .slice none 0 0]) ?_ 6 _ rfl; (with_reducible repeat (first | refine blk_drewN ?_ _ | refine blk_drew ?_ | refine blk_alloc ?_ _)); refine blk_put (cs := #[.int .i64 t159, .int .i64 t160, .int .i64 t161, .int .i64 t162, .int .i64 t163, .slice none 0 0, .slice none 0 0]) ?_ 5 _ rfl; (with_reducible repeat (first | refine blk_drewN ?_ _ | refine blk_drew ?_ | refine blk_alloc ?_ _)); refine blk_put (cs := #[.int .i64 t159, .int .i64 t160, .int .i64 t161, .int .i64 t162, .int .i64 0, .slice none 0 0, .slice none 0 0]) ?_ 4 _ rfl; (with_reducible repeat (first | refine blk_drewN ?_ _ | refine blk_drew ?_ | refine blk_alloc ?_ _)); refine blk_put (cs := #[.int .i64 t159, .int .i64 t160, .int .i64 t161, .int .i64 0, .int .i64 0, .slice none 0 0, .slice none 0 0]) ?_ 3 _ rfl; (with_reducible repeat (first | refine blk_drewN ?_ _ | refine blk_drew ?_ | refine blk_alloc ?_ _)); refine blk_put (cs := #[.int .i64 t159, .int .i64 t160, .int .i64 0, .int .i64 0, .int .i64 0, .slice none 0 0, .slice none 0 0]) ?_ 2 _ rfl; (with_reducible repeat (first | refine blk_drewN ?_ _ | refine blk_drew ?_ | refine blk_alloc ?_ _)); refine blk_put (cs := #[.int .i64 t159, .int .i64 0, .int .i64 0, .int .i64 0, .int .i64 0, .slice none 0 0, .slice none 0 0]) ?_ 1 _ rfl; (with_reducible repeat (first | refine blk_drewN ?_ _ | refine blk_drew ?_ | refine blk_alloc ?_ _)); refine blk_put (cs := #[.int .i64 0, .int .i64 0, .int .i64 0, .int .i64 0, .int .i64 0, .slice none 0 0, .slice none 0 0]) ?_ 0 _ rfl; (with_reducible repeat (first | refine blk_drewN ?_ _ | refine blk_drew ?_ | refine blk_alloc ?_ _)); exact BK170.out⟩, ⟨by repeat (first | (with_reducible first | exact HB.out | apply below_alloc | apply pw_below_drewN | apply below_drew1 | refine below_set ?_ GE157.out | refine below_set ?_ GE158.out | refine below_set ?_ GE170.out) | exact HB.out)⟩⟩
  case rest =>
    clear HC4
    try clear c1
    try clear p2
    try clear c3
    try clear c7
    try clear c11
    try clear c12
    try clear c16
    try clear c16b0
    try clear c17
    try clear c18
    try clear hcz13_0
    try clear hcz13_1
    try clear hcz13_2
    try clear hcz13_3
    try clear hcz13_4
    try clear hcz13_5
    try clear hcz13_6
    try clear hcz19_0
    try clear hcz19_1
    try clear hcz19_2
    try clear hcz19_3
    try clear hcz19_4
    try clear hcz19_5
    try clear hcz19_6
    try clear hcz8_0
    try clear hcz8_1
    try clear hcz8_2
    try clear hcz8_3
    try clear hcz8_4
    try clear hcz8_5
    try clear hcz8_6
    try clear hfz13_0
    try clear hfz13_1
    try clear hfz13_2
    try clear hfz13_3
    try clear hfz13_4
    try clear hfz13_5
    try clear hfz13_6
    try clear hfz19_0
    try clear hfz19_1
    try clear hfz19_2
    try clear hfz19_3
    try clear hfz19_4
    try clear hfz19_5
    try clear hfz19_6
    try clear hfz8_0
    try clear hfz8_1
    try clear hfz8_2
    try clear hfz8_3
    try clear hfz8_4
    try clear hfz8_5
    try clear hfz8_6
    obtain ⟨kq, x16_3, rfl, HA, HJ3, HO_171005, HO_171006, BK157, BK158, BK170, HB⟩ := hcut
    cases kq with
    | zero => exact absurd HA.out (by simp [script_Round.j0])
    | succ kj3 =>
      have H := HA.out
      clear HA
      simp only [script_Round.j0] at H
      by_cases c20 : x16_3 = true
      · subst c20
        have H1 : (some (t159, t160, t161, t162, t163, t164, t167)) = some (r1, r2, r3, r4, r5, r6, r7) := by rw [if_pos rfl] at H; exact H
        clear H
        have H := H1
        clear H1
        simp only [Option.some.injEq, Prod.mk.injEq] at H
        obtain ⟨rfl, rfl, rfl, rfl, rfl, rfl, rfl⟩ := H
        have hnb21 := NB170_157.out
        have hnc21 := NB157_170.out
        have hnb22 := NB170_158.out
        have hnc22 := NB158_170.out
        have hcz23_0 : wc.cell? ⟨gb170, 0, none⟩ = some (.int .i64 t159) := (blk_cell BK170.out 0).trans rfl
        have hcz23_1 : wc.cell? ⟨gb170, 1, none⟩ = some (.int .i64 t160) := (blk_cell BK170.out 1).trans rfl
        have hcz23_2 : wc.cell? ⟨gb170, 2, none⟩ = some (.int .i64 t161) := (blk_cell BK170.out 2).trans rfl
        have hcz23_3 : wc.cell? ⟨gb170, 3, none⟩ = some (.int .i64 t162) := (blk_cell BK170.out 3).trans rfl
        have hcz23_4 : wc.cell? ⟨gb170, 4, none⟩ = some (.int .i64 t163) := (blk_cell BK170.out 4).trans rfl
        have hcz23_5 : wc.cell? ⟨gb170, 5, none⟩ = some (.slice Ao14 t164.length co14) := (blk_cell BK170.out 5).trans rfl
        have hcz23_6 : wc.cell? ⟨gb170, 6, none⟩ = some (.slice Ao15 t167.length co15) := (blk_cell BK170.out 6).trans rfl
        have hfz23_0 := blk_frozen BK170.out 0
        have hfz23_1 := blk_frozen BK170.out 1
        have hfz23_2 := blk_frozen BK170.out 2
        have hfz23_3 := blk_frozen BK170.out 3
        have hfz23_4 := blk_frozen BK170.out 4
        have hfz23_5 := blk_frozen BK170.out 5
        have hfz23_6 := blk_frozen BK170.out 6
        have hnb24 := NB158_157.out
        have hnc24 := NB157_158.out
        have hcz25_0 : wc.cell? ⟨gb158, 0, none⟩ = some (.int .i64 0) := (blk_cell BK158.out 0).trans rfl
        have hcz25_1 : wc.cell? ⟨gb158, 1, none⟩ = some (.int .i64 0) := (blk_cell BK158.out 1).trans rfl
        have hcz25_2 : wc.cell? ⟨gb158, 2, none⟩ = some (.int .i64 0) := (blk_cell BK158.out 2).trans rfl
        have hcz25_3 : wc.cell? ⟨gb158, 3, none⟩ = some (.int .i64 0) := (blk_cell BK158.out 3).trans rfl
        have hcz25_4 : wc.cell? ⟨gb158, 4, none⟩ = some (.int .i64 0) := (blk_cell BK158.out 4).trans rfl
        have hcz25_5 : wc.cell? ⟨gb158, 5, none⟩ = some (.slice none 0 0) := (blk_cell BK158.out 5).trans rfl
        have hcz25_6 : wc.cell? ⟨gb158, 6, none⟩ = some (.slice none 0 0) := (blk_cell BK158.out 6).trans rfl
        have hfz25_0 := blk_frozen BK158.out 0
        have hfz25_1 := blk_frozen BK158.out 1
        have hfz25_2 := blk_frozen BK158.out 2
        have hfz25_3 := blk_frozen BK158.out 3
        have hfz25_4 := blk_frozen BK158.out 4
        have hfz25_5 := blk_frozen BK158.out 5
        have hfz25_6 := blk_frozen BK158.out 6
        go_wp2
        refine bodyPost_ret (results_cell_row rfl _ _ gb158 49 #[.int .i64 t159, .int .i64 t160, .int .i64 t161, .int .i64 t162, .int .i64 t163, .slice Ao14 t164.length co14, .slice Ao15 t167.length co15] (0, 0) _ rfl (by (with_reducible repeat (first | refine blk_drewN ?_ _ | refine blk_drew ?_ | refine blk_alloc ?_ _)); refine blk_put (cs := #[.int .i64 t159, .int .i64 t160, .int .i64 t161, .int .i64 t162, .int .i64 t163, .slice Ao14 t164.length co14, .slice none 0 0]) ?_ 6 _ rfl; (with_reducible repeat (first | refine blk_drewN ?_ _ | refine blk_drew ?_ | refine blk_alloc ?_ _)); refine blk_put (cs := #[.int .i64 t159, .int .i64 t160, .int .i64 t161, .int .i64 t162, .int .i64 t163, .slice none 0 0, .slice none 0 0]) ?_ 5 _ rfl; (with_reducible repeat (first | refine blk_drewN ?_ _ | refine blk_drew ?_ | refine blk_alloc ?_ _)); refine blk_put (cs := #[.int .i64 t159, .int .i64 t160, .int .i64 t161, .int .i64 t162, .int .i64 0, .slice none 0 0, .slice none 0 0]) ?_ 4 _ rfl; (with_reducible repeat (first | refine blk_drewN ?_ _ | refine blk_drew ?_ | refine blk_alloc ?_ _)); refine blk_put (cs := #[.int .i64 t159, .int .i64 t160, .int .i64 t161, .int .i64 0, .int .i64 0, .slice none 0 0, .slice none 0 0]) ?_ 3 _ rfl; (with_reducible repeat (first | refine blk_drewN ?_ _ | refine blk_drew ?_ | refine blk_alloc ?_ _)); refine blk_put (cs := #[.int .i64 t159, .int .i64 t160, .int .i64 0, .int .i64 0, .int .i64 0, .slice none 0 0, .slice none 0 0]) ?_ 2 _ rfl; (with_reducible repeat (first | refine blk_drewN ?_ _ | refine blk_drew ?_ | refine blk_alloc ?_ _)); refine blk_put (cs := #[.int .i64 t159, .int .i64 0, .int .i64 0, .int .i64 0, .int .i64 0, .slice none 0 0, .slice none 0 0]) ?_ 1 _ rfl; (with_reducible repeat (first | refine blk_drewN ?_ _ | refine blk_drew ?_ | refine blk_alloc ?_ _)); refine blk_put (cs := #[.int .i64 0, .int .i64 0, .int .i64 0, .int .i64 0, .int .i64 0, .slice none 0 0, .slice none 0 0]) ?_ 0 _ rfl; (with_reducible repeat (first | refine blk_drewN ?_ _ | refine blk_drew ?_ | refine blk_alloc ?_ _)); exact BK158.out) Try.underlying49 rfl (by kernel_rfl)) rfl ?_
        exact ⟨_, _, by first | rfl | (simp [errW_none, errW_some] <;> rfl) | (simp [*, errW_none, errW_some] <;> rfl), by (with_reducible repeat (first | apply Kd.S_alloc | apply Kd.S_drewN | apply Kd.S_drew)); exact Kd.S_mono (Kd.S_far (p := ⟨gb158, 6, none⟩) (Kd.S_far (p := ⟨gb158, 5, none⟩) (Kd.S_far (p := ⟨gb158, 4, none⟩) (Kd.S_far (p := ⟨gb158, 3, none⟩) (Kd.S_far (p := ⟨gb158, 2, none⟩) (Kd.S_far (p := ⟨gb158, 1, none⟩) (Kd.S_far (p := ⟨gb158, 0, none⟩) (Kd.S_types HO_171005.out BK158.out (by decide)) (fun _ hk => hk.2) (.int .i64 t159)) (fun _ hk => hk.2) (.int .i64 t160)) (fun _ hk => hk.2) (.int .i64 t161)) (fun _ hk => hk.2) (.int .i64 t162)) (fun _ hk => hk.2) (.int .i64 t163)) (fun _ hk => hk.2) (.slice Ao14 t164.length co14)) (fun _ hk => hk.2) (.slice Ao15 t167.length co15)) (fun _ hk => trivial), by (with_reducible repeat (first | apply Kd.R_alloc | apply Kd.R_drewN | apply Kd.R_drew)); exact Kd.R_mono (Kd.R_far (p := ⟨gb158, 6, none⟩) (Kd.R_far (p := ⟨gb158, 5, none⟩) (Kd.R_far (p := ⟨gb158, 4, none⟩) (Kd.R_far (p := ⟨gb158, 3, none⟩) (Kd.R_far (p := ⟨gb158, 2, none⟩) (Kd.R_far (p := ⟨gb158, 1, none⟩) (Kd.R_far (p := ⟨gb158, 0, none⟩) (Kd.R_types HO_171006.out BK158.out (by decide)) (fun _ hk => hk.2) (.int .i64 t159)) (fun _ hk => hk.2) (.int .i64 t160)) (fun _ hk => hk.2) (.int .i64 t161)) (fun _ hk => hk.2) (.int .i64 t162)) (fun _ hk => hk.2) (.int .i64 t163)) (fun _ hk => hk.2) (.slice Ao14 t164.length co14)) (fun _ hk => hk.2) (.slice Ao15 t167.length co15)) (fun _ hk => trivial), by repeat (first | (with_reducible first | exact HB.out | apply below_alloc | apply pw_below_drewN | apply below_drew1 | refine below_set ?_ GE157.out | refine below_set ?_ GE158.out | refine below_set ?_ GE170.out) | exact HB.out)⟩
      · replace c20 := Bool.eq_false_iff.mpr c20
        subst c20
        have H1 : (script_Round.l0 kj3 a1 0 a0_0 a0_1 a0_2 a0_3 a0_4 l0_5 l0_6 t159 t160 t161 t162 t163 t164 t167) = some (r1, r2, r3, r4, r5, r6, r7) := by rw [if_neg (show ¬ (false = true) by decide)] at H; exact H
        clear H
        have H := H1
        clear H1
        have H' := Aside0.mk H
        clear H
        go_wp2
        go_loopg [19] kj3 (fun kq v19 w' => ∃ (x19_2 : Int) (x159000_2 : Int) (x159001_2 : Int) (x159002_2 : Int) (x159003_2 : Int) (x159004_2 : Int) (x171006_2 : List Int) (u171006 : Value), v19 = .int .i64 x19_2 ∧ Aside0 (script_Round.l0 kq a1 x19_2 a0_0 a0_1 a0_2 a0_3 a0_4 l0_5 l0_6 t159 t160 t161 t162 t163 t164 x171006_2 = some (r1, r2, r3, r4, r5, r6, r7)) ∧ Aside0 (kq ≤ kj3) ∧ Aside0 (Kd.S (Kd.slice 37 k37) 55 w' w.heap.size (fun _ => True) (.slice Ao14 t164.length co14) t164) ∧ Aside0 (Kd.R (Kd.int .i64) 3 w' w.heap.size (fun _ => True) u171006 x171006_2) ∧ Aside0 (w'.heap[gb157]? = some (.cells #[.int .i64 a0_0, .int .i64 a0_1, .int .i64 a0_2, .int .i64 a0_3, .int .i64 a0_4, (.slice A0_5 l0_5.length c0_5), (.slice A0_6 l0_6.length c0_6)] 49 (0, 0))) ∧ Aside0 (w'.heap[gb158]? = some (.cells #[.int .i64 x159000_2, .int .i64 x159001_2, .int .i64 x159002_2, .int .i64 x159003_2, .int .i64 x159004_2, (.slice none 0 0), (.slice none 0 0)] 49 (0, 0))) ∧ Aside0 (w'.heap[gb170]? = some (.cells #[.int .i64 t159, .int .i64 t160, .int .i64 t161, .int .i64 t162, .int .i64 t163, (.slice Ao14 t164.length co14), u171006] 49 (0, 0))) ∧ Aside0 (Below w.heap.size w w'))
        case atStart => exact ⟨(0), (0), (0), (0), (0), (0), (t167), (.slice Ao15 t167.length co15), (by first | rfl | (simp; done) | (simp [*]; done)), H', ⟨Nat.le_refl _⟩, ⟨by (with_reducible repeat (first | apply Kd.S_alloc | apply Kd.S_drewN | apply Kd.S_drew)); exact HO_171005.out⟩, ⟨by (with_reducible repeat (first | apply Kd.R_alloc | apply Kd.R_drewN | apply Kd.R_drew)); exact HO_171006.out⟩, ⟨by (with_reducible repeat (first | refine blk_drewN ?_ _ | refine blk_drew ?_ | refine blk_alloc ?_ _)); exact BK157.out⟩, ⟨by (with_reducible repeat (first | refine blk_drewN ?_ _ | refine blk_drew ?_ | refine blk_alloc ?_ _)); exact BK158.out⟩, ⟨by (with_reducible repeat (first | refine blk_drewN ?_ _ | refine blk_drew ?_ | refine blk_alloc ?_ _)); exact BK170.out⟩, ⟨by repeat (first | (with_reducible first | exact HB.out | apply below_alloc | apply pw_below_drewN | apply below_drew1 | refine below_set ?_ GE157.out | refine below_set ?_ GE158.out | refine below_set ?_ GE170.out) | exact HB.out)⟩⟩
        case round =>
          clear H'
          try clear c1
          try clear c2
          try clear p2
          try clear c3
          try clear c7
          try clear c11
          try clear c12
          try clear c16
          try clear c16b0
          try clear c17
          try clear c18
          try clear c20
          try clear c21
          try clear c22
          try clear c24
          try clear hcz13_0
          try clear hcz13_1
          try clear hcz13_2
          try clear hcz13_3
          try clear hcz13_4
          try clear hcz13_5
          try clear hcz13_6
          try clear hcz19_0
          try clear hcz19_1
          try clear hcz19_2
          try clear hcz19_3
          try clear hcz19_4
          try clear hcz19_5
          try clear hcz19_6
          try clear hcz23_0
          try clear hcz23_1
          try clear hcz23_2
          try clear hcz23_3
          try clear hcz23_4
          try clear hcz23_5
          try clear hcz23_6
          try clear hcz25_0
          try clear hcz25_1
          try clear hcz25_2
          try clear hcz25_3
          try clear hcz25_4
          try clear hcz25_5
          try clear hcz25_6
          try clear hcz8_0
          try clear hcz8_1
          try clear hcz8_2
          try clear hcz8_3
          try clear hcz8_4
          try clear hcz8_5
          try clear hcz8_6
          try clear hfz13_0
          try clear hfz13_1
          try clear hfz13_2
          try clear hfz13_3
          try clear hfz13_4
          try clear hfz13_5
          try clear hfz13_6
          try clear hfz19_0
          try clear hfz19_1
          try clear hfz19_2
          try clear hfz19_3
          try clear hfz19_4
          try clear hfz19_5
          try clear hfz19_6
          try clear hfz23_0
          try clear hfz23_1
          try clear hfz23_2
          try clear hfz23_3
          try clear hfz23_4
          try clear hfz23_5
          try clear hfz23_6
          try clear hfz25_0
          try clear hfz25_1
          try clear hfz25_2
          try clear hfz25_3
          try clear hfz25_4
          try clear hfz25_5
          try clear hfz25_6
          try clear hfz8_0
          try clear hfz8_1
          try clear hfz8_2
          try clear hfz8_3
          try clear hfz8_4
          try clear hfz8_5
          try clear hfz8_6
          try clear p2
          obtain ⟨x19_2, x159000_2, x159001_2, x159002_2, x159003_2, x159004_2, x171006_2, u171006, rfl, HA, HK2, HO_171005, HO_171006, BK157, BK158, BK170, HB⟩ := hrel
          cases gk with
          | zero => exact absurd HA.out (by simp [script_Round.l0])
          | succ k2 =>
            have H := HA.out
            clear HA
            simp only [script_Round.l0] at H
            by_cases c26 : x19_2 < a1
            · rw [if_pos c26] at H
              have c26b0 : decide (x19_2 < a1) = true := decide_eq_true c26
              clear c26
              have H' := Aside0.mk H
              clear H
              have hnb27 := NB157_158.out
              have hnc27 := NB158_157.out
              have hnb28 := NB157_170.out
              have hnc28 := NB170_157.out
              have hcz29_0 : wr.cell? ⟨gb157, 0, none⟩ = some (.int .i64 a0_0) := (blk_cell BK157.out 0).trans rfl
              have hcz29_1 : wr.cell? ⟨gb157, 1, none⟩ = some (.int .i64 a0_1) := (blk_cell BK157.out 1).trans rfl
              have hcz29_2 : wr.cell? ⟨gb157, 2, none⟩ = some (.int .i64 a0_2) := (blk_cell BK157.out 2).trans rfl
              have hcz29_3 : wr.cell? ⟨gb157, 3, none⟩ = some (.int .i64 a0_3) := (blk_cell BK157.out 3).trans rfl
              have hcz29_4 : wr.cell? ⟨gb157, 4, none⟩ = some (.int .i64 a0_4) := (blk_cell BK157.out 4).trans rfl
              have hcz29_5 : wr.cell? ⟨gb157, 5, none⟩ = some (.slice A0_5 l0_5.length c0_5) := (blk_cell BK157.out 5).trans rfl
              have hcz29_6 : wr.cell? ⟨gb157, 6, none⟩ = some (.slice A0_6 l0_6.length c0_6) := (blk_cell BK157.out 6).trans rfl
              have hfz29_0 := blk_frozen BK157.out 0
              have hfz29_1 := blk_frozen BK157.out 1
              have hfz29_2 := blk_frozen BK157.out 2
              have hfz29_3 := blk_frozen BK157.out 3
              have hfz29_4 := blk_frozen BK157.out 4
              have hfz29_5 := blk_frozen BK157.out 5
              have hfz29_6 := blk_frozen BK157.out 6
              go_wp2
              go_loopg [24] k2 (fun kq v24 w' => ∃ (x24_3 : Int) (x159000_3 : Int) (x159001_3 : Int) (x159002_3 : Int) (x159003_3 : Int) (x159004_3 : Int) (x171006_3 : List Int) (u171006 : Value), v24 = .int .i64 x24_3 ∧ Aside0 (script_Round.l1 kq a1 x19_2 (l0_5.length : Int) x24_3 a0_0 a0_1 a0_2 a0_3 a0_4 l0_5 l0_6 t159 t160 t161 t162 t163 t164 x171006_3 = some (r1, r2, r3, r4, r5, r6, r7)) ∧ Aside0 (kq ≤ k2) ∧ Aside0 (Kd.S (Kd.slice 37 k37) 55 w' w.heap.size (fun _ => True) (.slice Ao14 t164.length co14) t164) ∧ Aside0 (Kd.R (Kd.int .i64) 3 w' w.heap.size (fun _ => True) u171006 x171006_3) ∧ Aside0 (w'.heap[gb157]? = some (.cells #[.int .i64 a0_0, .int .i64 a0_1, .int .i64 a0_2, .int .i64 a0_3, .int .i64 a0_4, (.slice A0_5 l0_5.length c0_5), (.slice A0_6 l0_6.length c0_6)] 49 (0, 0))) ∧ Aside0 (w'.heap[gb158]? = some (.cells #[.int .i64 x159000_3, .int .i64 x159001_3, .int .i64 x159002_3, .int .i64 x159003_3, .int .i64 x159004_3, (.slice none 0 0), (.slice none 0 0)] 49 (0, 0))) ∧ Aside0 (w'.heap[gb170]? = some (.cells #[.int .i64 t159, .int .i64 t160, .int .i64 t161, .int .i64 t162, .int .i64 t163, (.slice Ao14 t164.length co14), u171006] 49 (0, 0))) ∧ Aside0 (Below w.heap.size w w'))
              case atStart => exact ⟨(0), (x159000_2), (x159001_2), (x159002_2), (x159003_2), (x159004_2), (x171006_2), (u171006), (by first | rfl | (simp; done) | (simp [*]; done)), H', ⟨Nat.le_refl _⟩, ⟨by (with_reducible repeat (first | apply Kd.S_alloc | apply Kd.S_drewN | apply Kd.S_drew)); exact HO_171005.out⟩, ⟨by (with_reducible repeat (first | apply Kd.R_alloc | apply Kd.R_drewN | apply Kd.R_drew)); exact HO_171006.out⟩, ⟨by (with_reducible repeat (first | refine blk_drewN ?_ _ | refine blk_drew ?_ | refine blk_alloc ?_ _)); exact BK157.out⟩, ⟨by (with_reducible repeat (first | refine blk_drewN ?_ _ | refine blk_drew ?_ | refine blk_alloc ?_ _)); exact BK158.out⟩, ⟨by (with_reducible repeat (first | refine blk_drewN ?_ _ | refine blk_drew ?_ | refine blk_alloc ?_ _)); exact BK170.out⟩, ⟨by repeat (first | (with_reducible first | exact HB.out | apply below_alloc | apply pw_below_drewN | apply below_drew1 | refine below_set ?_ GE157.out | refine below_set ?_ GE158.out | refine below_set ?_ GE170.out) | exact HB.out)⟩⟩
              case round =>
                clear H'
                try clear c1
                try clear c2
                try clear p2
                try clear c3
                try clear c7
                try clear c11
                try clear c12
                try clear c16
                try clear c16b0
                try clear c17
                try clear c18
                try clear c20
                try clear c21
                try clear c22
                try clear c24
                try clear c26
                try clear c26b0
                try clear c27
                try clear c28
                try clear hcz13_0
                try clear hcz13_1
                try clear hcz13_2
                try clear hcz13_3
                try clear hcz13_4
                try clear hcz13_5
                try clear hcz13_6
                try clear hcz19_0
                try clear hcz19_1
                try clear hcz19_2
                try clear hcz19_3
                try clear hcz19_4
                try clear hcz19_5
                try clear hcz19_6
                try clear hcz23_0
                try clear hcz23_1
                try clear hcz23_2
                try clear hcz23_3
                try clear hcz23_4
                try clear hcz23_5
                try clear hcz23_6
                try clear hcz25_0
                try clear hcz25_1
                try clear hcz25_2
                try clear hcz25_3
                try clear hcz25_4
                try clear hcz25_5
                try clear hcz25_6
                try clear hcz29_0
                try clear hcz29_1
                try clear hcz29_2
                try clear hcz29_3
                try clear hcz29_4
                try clear hcz29_5
                try clear hcz29_6
                try clear hcz8_0
                try clear hcz8_1
                try clear hcz8_2
                try clear hcz8_3
                try clear hcz8_4
                try clear hcz8_5
                try clear hcz8_6
                try clear hfz13_0
                try clear hfz13_1
                try clear hfz13_2
                try clear hfz13_3
                try clear hfz13_4
                try clear hfz13_5
                try clear hfz13_6
                try clear hfz19_0
                try clear hfz19_1
                try clear hfz19_2
                try clear hfz19_3
                try clear hfz19_4
                try clear hfz19_5
                try clear hfz19_6
                try clear hfz23_0
                try clear hfz23_1
                try clear hfz23_2
                try clear hfz23_3
                try clear hfz23_4
                try clear hfz23_5
                try clear hfz23_6
                try clear hfz25_0
                try clear hfz25_1
                try clear hfz25_2
                try clear hfz25_3
                try clear hfz25_4
                try clear hfz25_5
                try clear hfz25_6
                try clear hfz29_0
                try clear hfz29_1
                try clear hfz29_2
                try clear hfz29_3
                try clear hfz29_4
                try clear hfz29_5
                try clear hfz29_6
                try clear hfz8_0
                try clear hfz8_1
                try clear hfz8_2
                try clear hfz8_3
                try clear hfz8_4
                try clear hfz8_5
                try clear hfz8_6
                try clear p2
                obtain ⟨x24_3, x159000_3, x159001_3, x159002_3, x159003_3, x159004_3, x171006_3, u171006, rfl, HA, HK3, HO_171005, HO_171006, BK157, BK158, BK170, HB⟩ := hrel
                cases gk with
                | zero => exact absurd HA.out (by simp [script_Round.l1])
                | succ k3 =>
                  have H := HA.out
                  clear HA
                  simp only [script_Round.l1] at H
                  by_cases c30 : x24_3 < (l0_5.length : Int)
                  · rw [if_pos c30] at H
                    have c30b0 : decide (x24_3 < (l0_5.length : Int)) = true := decide_eq_true c30
                    clear c30
                    by_cases c31 : (x171006_3.length : Int) ≥ 262144
                    · rw [if_pos c31] at H
                      have c31b0 : decide (262144 ≤ (x171006_3.length : Int)) = true := decide_eq_true c31
                      have c31b1 : decide (262144 ≤ x171006_3.length) = true := decide_eq_true (by omega)
                      clear c31
                      simp only [Option.some.injEq, Prod.mk.injEq] at H
                      obtain ⟨rfl, rfl, rfl, rfl, rfl, rfl, rfl⟩ := H
                      have hnb32 := NB170_157.out
                      have hnc32 := NB157_170.out
                      have hnb33 := NB170_158.out
                      have hnc33 := NB158_170.out
                      have hcz34_0 : wr.cell? ⟨gb170, 0, none⟩ = some (.int .i64 t159) := (blk_cell BK170.out 0).trans rfl
                      have hcz34_1 : wr.cell? ⟨gb170, 1, none⟩ = some (.int .i64 t160) := (blk_cell BK170.out 1).trans rfl
                      have hcz34_2 : wr.cell? ⟨gb170, 2, none⟩ = some (.int .i64 t161) := (blk_cell BK170.out 2).trans rfl
                      have hcz34_3 : wr.cell? ⟨gb170, 3, none⟩ = some (.int .i64 t162) := (blk_cell BK170.out 3).trans rfl
                      have hcz34_4 : wr.cell? ⟨gb170, 4, none⟩ = some (.int .i64 t163) := (blk_cell BK170.out 4).trans rfl
                      have hcz34_5 : wr.cell? ⟨gb170, 5, none⟩ = some (.slice Ao14 t164.length co14) := (blk_cell BK170.out 5).trans rfl
                      have hcz34_6 : wr.cell? ⟨gb170, 6, none⟩ = some (u171006) := (blk_cell BK170.out 6).trans rfl
                      have hfz34_0 := blk_frozen BK170.out 0
                      have hfz34_1 := blk_frozen BK170.out 1
                      have hfz34_2 := blk_frozen BK170.out 2
                      have hfz34_3 := blk_frozen BK170.out 3
                      have hfz34_4 := blk_frozen BK170.out 4
                      have hfz34_5 := blk_frozen BK170.out 5
                      have hfz34_6 := blk_frozen BK170.out 6
                      obtain ⟨Ao35, co35, eo35⟩ := Kd.R_slice HO_171006.out
                      subst eo35
                      have hnb36 := NB158_157.out
                      have hnc36 := NB157_158.out
                      have hcz37_0 : wr.cell? ⟨gb158, 0, none⟩ = some (.int .i64 x159000_3) := (blk_cell BK158.out 0).trans rfl
                      have hcz37_1 : wr.cell? ⟨gb158, 1, none⟩ = some (.int .i64 x159001_3) := (blk_cell BK158.out 1).trans rfl
                      have hcz37_2 : wr.cell? ⟨gb158, 2, none⟩ = some (.int .i64 x159002_3) := (blk_cell BK158.out 2).trans rfl
                      have hcz37_3 : wr.cell? ⟨gb158, 3, none⟩ = some (.int .i64 x159003_3) := (blk_cell BK158.out 3).trans rfl
                      have hcz37_4 : wr.cell? ⟨gb158, 4, none⟩ = some (.int .i64 x159004_3) := (blk_cell BK158.out 4).trans rfl
                      have hcz37_5 : wr.cell? ⟨gb158, 5, none⟩ = some (.slice none 0 0) := (blk_cell BK158.out 5).trans rfl
                      have hcz37_6 : wr.cell? ⟨gb158, 6, none⟩ = some (.slice none 0 0) := (blk_cell BK158.out 6).trans rfl
                      have hfz37_0 := blk_frozen BK158.out 0
                      have hfz37_1 := blk_frozen BK158.out 1
                      have hfz37_2 := blk_frozen BK158.out 2
                      have hfz37_3 := blk_frozen BK158.out 3
                      have hfz37_4 := blk_frozen BK158.out 4
                      have hfz37_5 := blk_frozen BK158.out 5
                      have hfz37_6 := blk_frozen BK158.out 6
                      go_wp2
                      refine bodyPost_ret (results_cell_row rfl _ _ gb158 49 #[.int .i64 t159, .int .i64 t160, .int .i64 t161, .int .i64 t162, .int .i64 t163, .slice Ao14 t164.length co14, .slice Ao35 x171006_3.length co35] (0, 0) _ rfl (by (with_reducible repeat (first | refine blk_drewN ?_ _ | refine blk_drew ?_ | refine blk_alloc ?_ _)); refine blk_put (cs := #[.int .i64 t159, .int .i64 t160, .int .i64 t161, .int .i64 t162, .int .i64 t163, .slice Ao14 t164.length co14, .slice none 0 0]) ?_ 6 _ rfl; (with_reducible repeat (first | refine blk_drewN ?_ _ | refine blk_drew ?_ | refine blk_alloc ?_ _)); refine blk_put (cs := #[.int .i64 t159, .int .i64 t160, .int .i64 t161, .int .i64 t162, .int .i64 t163, .slice none 0 0, .slice none 0 0]) ?_ 5 _ rfl; (with_reducible repeat (first | refine blk_drewN ?_ _ | refine blk_drew ?_ | refine blk_alloc ?_ _)); refine blk_put (cs := #[.int .i64 t159, .int .i64 t160, .int .i64 t161, .int .i64 t162, .int .i64 x159004_3, .slice none 0 0, .slice none 0 0]) ?_ 4 _ rfl; (with_reducible repeat (first | refine blk_drewN ?_ _ | refine blk_drew ?_ | refine blk_alloc ?_ _)); refine blk_put (cs := #[.int .i64 t159, .int .i64 t160, .int .i64 t161, .int .i64 x159003_3, .int .i64 x159004_3, .slice none 0 0, .slice none 0 0]) ?_ 3 _ rfl; (with_reducible repeat (first | refine blk_drewN ?_ _ | refine blk_drew ?_ | refine blk_alloc ?_ _)); refine blk_put (cs := #[.int .i64 t159, .int .i64 t160, .int .i64 x159002_3, .int .i64 x159003_3, .int .i64 x159004_3, .slice none 0 0, .slice none 0 0]) ?_ 2 _ rfl; (with_reducible repeat (first | refine blk_drewN ?_ _ | refine blk_drew ?_ | refine blk_alloc ?_ _)); refine blk_put (cs := #[.int .i64 t159, .int .i64 x159001_3, .int .i64 x159002_3, .int .i64 x159003_3, .int .i64 x159004_3, .slice none 0 0, .slice none 0 0]) ?_ 1 _ rfl; (with_reducible repeat (first | refine blk_drewN ?_ _ | refine blk_drew ?_ | refine blk_alloc ?_ _)); refine blk_put (cs := #[.int .i64 x159000_3, .int .i64 x159001_3, .int .i64 x159002_3, .int .i64 x159003_3, .int .i64 x159004_3, .slice none 0 0, .slice none 0 0]) ?_ 0 _ rfl; (with_reducible repeat (first | refine blk_drewN ?_ _ | refine blk_drew ?_ | refine blk_alloc ?_ _)); exact BK158.out) Try.underlying49 rfl (by kernel_rfl)) rfl ?_
                      exact ⟨_, _, by first | rfl | (simp [errW_none, errW_some] <;> rfl) | (simp [*, errW_none, errW_some] <;> rfl), by (with_reducible repeat (first | apply Kd.S_alloc | apply Kd.S_drewN | apply Kd.S_drew)); exact Kd.S_mono (Kd.S_far (p := ⟨gb158, 6, none⟩) (Kd.S_far (p := ⟨gb158, 5, none⟩) (Kd.S_far (p := ⟨gb158, 4, none⟩) (Kd.S_far (p := ⟨gb158, 3, none⟩) (Kd.S_far (p := ⟨gb158, 2, none⟩) (Kd.S_far (p := ⟨gb158, 1, none⟩) (Kd.S_far (p := ⟨gb158, 0, none⟩) (Kd.S_types HO_171005.out BK158.out (by decide)) (fun _ hk => hk.2) (.int .i64 t159)) (fun _ hk => hk.2) (.int .i64 t160)) (fun _ hk => hk.2) (.int .i64 t161)) (fun _ hk => hk.2) (.int .i64 t162)) (fun _ hk => hk.2) (.int .i64 t163)) (fun _ hk => hk.2) (.slice Ao14 t164.length co14)) (fun _ hk => hk.2) (.slice Ao35 x171006_3.length co35)) (fun _ hk => trivial), by (with_reducible repeat (first | apply Kd.R_alloc | apply Kd.R_drewN | apply Kd.R_drew)); exact Kd.R_mono (Kd.R_far (p := ⟨gb158, 6, none⟩) (Kd.R_far (p := ⟨gb158, 5, none⟩) (Kd.R_far (p := ⟨gb158, 4, none⟩) (Kd.R_far (p := ⟨gb158, 3, none⟩) (Kd.R_far (p := ⟨gb158, 2, none⟩) (Kd.R_far (p := ⟨gb158, 1, none⟩) (Kd.R_far (p := ⟨gb158, 0, none⟩) (Kd.R_types HO_171006.out BK158.out (by decide)) (fun _ hk => hk.2) (.int .i64 t159)) (fun _ hk => hk.2) (.int .i64 t160)) (fun _ hk => hk.2) (.int .i64 t161)) (fun _ hk => hk.2) (.int .i64 t162)) (fun _ hk => hk.2) (.int .i64 t163)) (fun _ hk => hk.2) (.slice Ao14 t164.length co14)) (fun _ hk => hk.2) (.slice Ao35 x171006_3.length co35)) (fun _ hk => trivial), by repeat (first | (with_reducible first | exact HB.out | apply below_alloc | apply pw_below_drewN | apply below_drew1 | refine below_set ?_ GE157.out | refine below_set ?_ GE158.out | refine below_set ?_ GE170.out) | exact HB.out)⟩
                    · rw [if_neg c31] at H
                      have c31b0 : decide (262144 ≤ (x171006_3.length : Int)) = false := decide_eq_false c31
                      have c31b1 : decide (262144 ≤ x171006_3.length) = false := decide_eq_false (by omega)
                      clear c31
                      by_cases c38 : x171006_3.length < 17592186044416
                      · rw [if_pos c38] at H
                        have LMc38 := Aside0.mk c38
                        clear c38
                        obtain ⟨y171, hy171⟩ : ∃ y_ : List Int, y_ = (x171006_3 ++ [x24_3]) := ⟨_, rfl⟩
                        replace H : (script_Round.l1 k3 a1 x19_2 (l0_5.length : Int) (wrap64 (x24_3 + 1)) a0_0 a0_1 a0_2 a0_3 a0_4 l0_5 l0_6 t159 t160 t161 t162 t163 t164 y171) = some (r1, r2, r3, r4, r5, r6, r7) := by first | (rw [hy171]; with_reducible exact H) | (have H2_ := (Option.bind_some _ _).symm.trans H; rw [hy171]; with_reducible exact H2_) | (have H2_ := (Option.bind_some _ _).symm.trans H; with_reducible exact H2_) | with_reducible exact H | (rw [hy171]; exact H) | exact H
                        have Ny171 := Aside0.mk hy171
                        clear hy171
                        have H' := Aside0.mk H
                        clear H
                        have hnb39 := NB170_157.out
                        have hnc39 := NB157_170.out
                        have hnb40 := NB170_158.out
                        have hnc40 := NB158_170.out
                        have hcz41_0 : wr.cell? ⟨gb170, 0, none⟩ = some (.int .i64 t159) := (blk_cell BK170.out 0).trans rfl
                        have hcz41_1 : wr.cell? ⟨gb170, 1, none⟩ = some (.int .i64 t160) := (blk_cell BK170.out 1).trans rfl
                        have hcz41_2 : wr.cell? ⟨gb170, 2, none⟩ = some (.int .i64 t161) := (blk_cell BK170.out 2).trans rfl
                        have hcz41_3 : wr.cell? ⟨gb170, 3, none⟩ = some (.int .i64 t162) := (blk_cell BK170.out 3).trans rfl
                        have hcz41_4 : wr.cell? ⟨gb170, 4, none⟩ = some (.int .i64 t163) := (blk_cell BK170.out 4).trans rfl
                        have hcz41_5 : wr.cell? ⟨gb170, 5, none⟩ = some (.slice Ao14 t164.length co14) := (blk_cell BK170.out 5).trans rfl
                        have hcz41_6 : wr.cell? ⟨gb170, 6, none⟩ = some (u171006) := (blk_cell BK170.out 6).trans rfl
                        have hfz41_0 := blk_frozen BK170.out 0
                        have hfz41_1 := blk_frozen BK170.out 1
                        have hfz41_2 := blk_frozen BK170.out 2
                        have hfz41_3 := blk_frozen BK170.out 3
                        have hfz41_4 := blk_frozen BK170.out 4
                        have hfz41_5 := blk_frozen BK170.out 5
                        have hfz41_6 := blk_frozen BK170.out 6
                        obtain ⟨Ao42, co42, eo42⟩ := Kd.R_slice HO_171006.out
                        subst eo42
                        go_wp2_with (first | ((with_reducible refine gate_builtin (b := .append) (xs := #[.tmp 33, .tmp 35]) rfl ?_); (try (refine gate_guard (by rfl) ?_; dsimp only)); at_builtin; refine Kd.R_append (Kd.int .i64) (w0 := w) w.heap.size rfl (.tmp 33) (.tmp 35) 40 3 (.int .i64 0) 8 rfl Try.underlying40 info3 rfl (by decide) (by omega) (.slice Ao42 x171006_3.length co42) x171006_3 x24_3 [.int .i64 x24_3] (fun _ => True) (fun _ => False) rfl rfl ?aP (fun _ hk => hk.elim) ?aF ?aO ?aB ?aS ?aL ?_; (case aP => exact rfl); (case aB => exact (by repeat (first | (with_reducible first | exact HB.out | apply below_alloc | apply pw_below_drewN | apply below_drew1 | refine below_set ?_ GE157.out | refine below_set ?_ GE158.out | refine below_set ?_ GE170.out) | exact HB.out))); (case aF => exact (fun _ _ => trivial)); (case aO => exact (by (with_reducible repeat (first | apply Kd.R_alloc | apply Kd.R_drewN | apply Kd.R_drew)); exact HO_171006.out)); (case aS => exact (below_size (by repeat (first | (with_reducible first | exact HB.out | apply below_alloc | apply pw_below_drewN | apply below_drew1 | refine below_set ?_ GE157.out | refine below_set ?_ GE158.out | refine below_set ?_ GE170.out) | exact HB.out)))); (case aL => have := LMc38.out; omega); intro v172 w43 ho hb hg hat; rw [← Ny171.out] at ho; have n0_ := Aside0.mk (Kd.S_over' (by (with_reducible repeat (first | apply Kd.S_alloc | apply Kd.S_drewN | apply Kd.S_drew)); exact HO_171005.out) (Kd.R_typed (by (with_reducible repeat (first | apply Kd.R_alloc | apply Kd.R_drewN | apply Kd.R_drew)); exact HO_171006.out)) (by decide) hg); have n1_ := Aside0.mk (blk_grown (g := gb157) (o := .cells #[.int .i64 a0_0, .int .i64 a0_1, .int .i64 a0_2, .int .i64 a0_3, .int .i64 a0_4, .slice A0_5 l0_5.length c0_5, .slice A0_6 l0_6.length c0_6] 49 (0, 0)) (by (with_reducible repeat (first | refine blk_drewN ?_ _ | refine blk_drew ?_ | refine blk_alloc ?_ _)); exact BK157.out) hg (Kd.R_ne HO_171006.out BK157.out (by decide))); have n2_ := Aside0.mk (blk_grown (g := gb158) (o := .cells #[.int .i64 x159000_3, .int .i64 x159001_3, .int .i64 x159002_3, .int .i64 x159003_3, .int .i64 x159004_3, .slice none 0 0, .slice none 0 0] 49 (0, 0)) (by (with_reducible repeat (first | refine blk_drewN ?_ _ | refine blk_drew ?_ | refine blk_alloc ?_ _)); exact BK158.out) hg (Kd.R_ne HO_171006.out BK158.out (by decide))); have n3_ := Aside0.mk (blk_grown (g := gb170) (o := .cells #[.int .i64 t159, .int .i64 t160, .int .i64 t161, .int .i64 t162, .int .i64 t163, .slice Ao14 t164.length co14, .slice Ao42 x171006_3.length co42] 49 (0, 0)) (by (with_reducible repeat (first | refine blk_drewN ?_ _ | refine blk_drew ?_ | refine blk_alloc ?_ _)); exact BK170.out) hg (Kd.R_ne HO_171006.out BK170.out (by decide))); have n4_ := Aside0.mk (hb); have n5_ := Aside0.mk (ho); clear HO_171005; clear BK157; clear BK158; clear BK170; clear HB; clear HO_171006; have HO_171005 := n0_; have BK157 := n1_; have BK158 := n2_; have BK170 := n3_; have HB := n4_; have HO173 := n5_; clear n0_ n1_ n2_ n3_ n4_ n5_; clear ho hb hg hat; obtain ⟨Ao44, co44, eo44⟩ := Kd.R_slice HO173.out; subst eo44; have hcz45_0 : w43.cell? ⟨gb170, 0, none⟩ = some (.int .i64 t159) := (blk_cell BK170.out 0).trans rfl; have hcz45_1 : w43.cell? ⟨gb170, 1, none⟩ = some (.int .i64 t160) := (blk_cell BK170.out 1).trans rfl; have hcz45_2 : w43.cell? ⟨gb170, 2, none⟩ = some (.int .i64 t161) := (blk_cell BK170.out 2).trans rfl; have hcz45_3 : w43.cell? ⟨gb170, 3, none⟩ = some (.int .i64 t162) := (blk_cell BK170.out 3).trans rfl; have hcz45_4 : w43.cell? ⟨gb170, 4, none⟩ = some (.int .i64 t163) := (blk_cell BK170.out 4).trans rfl; have hcz45_5 : w43.cell? ⟨gb170, 5, none⟩ = some (.slice Ao14 t164.length co14) := (blk_cell BK170.out 5).trans rfl; have hcz45_6 : w43.cell? ⟨gb170, 6, none⟩ = some (.slice Ao42 x171006_3.length co42) := (blk_cell BK170.out 6).trans rfl; have hfz45_0 := blk_frozen BK170.out 0; have hfz45_1 := blk_frozen BK170.out 1; have hfz45_2 := blk_frozen BK170.out 2; have hfz45_3 := blk_frozen BK170.out 3; have hfz45_4 := blk_frozen BK170.out 4; have hfz45_5 := blk_frozen BK170.out 5; have hfz45_6 := blk_frozen BK170.out 6))
                        go_roundg k3
                        case measure => have := HJ3.out; have := HK2.out; have := HK3.out; omega
                        case rel => exact ⟨(wrap64 (x24_3 + 1)), (x159000_3), (x159001_3), (x159002_3), (x159003_3), (x159004_3), (y171), (.slice Ao44 y171.length co44), (by first | rfl | (simp; done) | (simp [*]; done)), H', ⟨by have := HJ3.out; have := HK2.out; have := HK3.out; omega⟩, ⟨by (with_reducible repeat (first | apply Kd.S_alloc | apply Kd.S_drewN | apply Kd.S_drew)); exact Kd.S_mono (Kd.S_far (p := ⟨gb170, 6, none⟩) (Kd.S_types HO_171005.out BK170.out (by decide)) (fun _ hk => hk.2) (.slice Ao44 y171.length co44)) (fun _ hk => trivial)⟩, ⟨by (with_reducible repeat (first | apply Kd.R_alloc | apply Kd.R_drewN | apply Kd.R_drew)); exact Kd.R_mono (Kd.R_far (p := ⟨gb170, 6, none⟩) (Kd.R_types HO173.out BK170.out (by decide)) (fun _ hk => hk.2) (.slice Ao44 y171.length co44)) (fun _ hk => trivial)⟩, ⟨by (with_reducible repeat (first | refine blk_drewN ?_ _ | refine blk_drew ?_ | refine blk_alloc ?_ _)); refine blk_far ?_ NB157_170.out _; (with_reducible repeat (first | refine blk_drewN ?_ _ | refine blk_drew ?_ | refine blk_alloc ?_ _)); exact BK157.out⟩, ⟨by (with_reducible repeat (first | refine blk_drewN ?_ _ | refine blk_drew ?_ | refine blk_alloc ?_ _)); refine blk_far ?_ NB158_170.out _; (with_reducible repeat (first | refine blk_drewN ?_ _ | refine blk_drew ?_ | refine blk_alloc ?_ _)); exact BK158.out⟩, ⟨by (with_reducible repeat (first | refine blk_drewN ?_ _ | refine blk_drew ?_ | refine blk_alloc ?_ _)); refine blk_put (cs := #[.int .i64 t159, .int .i64 t160, .int .i64 t161, .int .i64 t162, .int .i64 t163, .slice Ao14 t164.length co14, .slice Ao42 x171006_3.length co42]) ?_ 6 _ rfl; (with_reducible repeat (first | refine blk_drewN ?_ _ | refine blk_drew ?_ | refine blk_alloc ?_ _)); exact BK170.out⟩, ⟨by repeat (first | (with_reducible first | exact HB.out | apply below_alloc | apply pw_below_drewN | apply below_drew1 | refine below_set ?_ GE157.out | refine below_set ?_ GE158.out | refine below_set ?_ GE170.out) | exact HB.out)⟩⟩
                      · rw [if_neg c38] at H
                        exact absurd H (by simp)
                  · rw [if_neg c30] at H
                    have c30b0 : decide (x24_3 < (l0_5.length : Int)) = false := decide_eq_false c30
                    clear c30
                    have H' := Aside0.mk H
                    clear H
                    go_wp2
                    go_roundg k3
                    case measure => have := HJ3.out; have := HK2.out; have := HK3.out; omega
                    case rel => exact ⟨(wrap64 (x19_2 + 1)), (x159000_3), (x159001_3), (x159002_3), (x159003_3), (x159004_3), (x171006_3), (u171006), (by first | rfl | (simp; done) | (simp [*]; done)), H', ⟨by have := HJ3.out; have := HK2.out; have := HK3.out; omega⟩, ⟨by (with_reducible repeat (first | apply Kd.S_alloc | apply Kd.S_drewN | apply Kd.S_drew)); exact HO_171005.out⟩, ⟨by (with_reducible repeat (first | apply Kd.R_alloc | apply Kd.R_drewN | apply Kd.R_drew)); exact HO_171006.out⟩, ⟨by (with_reducible repeat (first | refine blk_drewN ?_ _ | refine blk_drew ?_ | refine blk_alloc ?_ _)); exact BK157.out⟩, ⟨by (with_reducible repeat (first | refine blk_drewN ?_ _ | refine blk_drew ?_ | refine blk_alloc ?_ _)); exact BK158.out⟩, ⟨by (with_reducible repeat (first | refine blk_drewN ?_ _ | refine blk_drew ?_ | refine blk_alloc ?_ _)); exact BK170.out⟩, ⟨by repeat (first | (with_reducible first | exact HB.out | apply below_alloc | apply pw_below_drewN | apply below_drew1 | refine below_set ?_ GE157.out | refine below_set ?_ GE158.out | refine below_set ?_ GE170.out) | exact HB.out)⟩⟩
            · rw [if_neg c26] at H
              have c26b0 : decide (x19_2 < a1) = false := decide_eq_false c26
              clear c26
              simp only [Option.some.injEq, Prod.mk.injEq] at H
              obtain ⟨rfl, rfl, rfl, rfl, rfl, rfl, rfl⟩ := H
              have hnb46 := NB170_157.out
              have hnc46 := NB157_170.out
              have hnb47 := NB170_158.out
              have hnc47 := NB158_170.out
              have hcz48_0 : wr.cell? ⟨gb170, 0, none⟩ = some (.int .i64 t159) := (blk_cell BK170.out 0).trans rfl
              have hcz48_1 : wr.cell? ⟨gb170, 1, none⟩ = some (.int .i64 t160) := (blk_cell BK170.out 1).trans rfl
              have hcz48_2 : wr.cell? ⟨gb170, 2, none⟩ = some (.int .i64 t161) := (blk_cell BK170.out 2).trans rfl
              have hcz48_3 : wr.cell? ⟨gb170, 3, none⟩ = some (.int .i64 t162) := (blk_cell BK170.out 3).trans rfl
              have hcz48_4 : wr.cell? ⟨gb170, 4, none⟩ = some (.int .i64 t163) := (blk_cell BK170.out 4).trans rfl
              have hcz48_5 : wr.cell? ⟨gb170, 5, none⟩ = some (.slice Ao14 t164.length co14) := (blk_cell BK170.out 5).trans rfl
              have hcz48_6 : wr.cell? ⟨gb170, 6, none⟩ = some (u171006) := (blk_cell BK170.out 6).trans rfl
              have hfz48_0 := blk_frozen BK170.out 0
              have hfz48_1 := blk_frozen BK170.out 1
              have hfz48_2 := blk_frozen BK170.out 2
              have hfz48_3 := blk_frozen BK170.out 3
              have hfz48_4 := blk_frozen BK170.out 4
              have hfz48_5 := blk_frozen BK170.out 5
              have hfz48_6 := blk_frozen BK170.out 6
              have hnb49 := NB158_157.out
              have hnc49 := NB157_158.out
              have hcz50_0 : wr.cell? ⟨gb158, 0, none⟩ = some (.int .i64 x159000_2) := (blk_cell BK158.out 0).trans rfl
              have hcz50_1 : wr.cell? ⟨gb158, 1, none⟩ = some (.int .i64 x159001_2) := (blk_cell BK158.out 1).trans rfl
              have hcz50_2 : wr.cell? ⟨gb158, 2, none⟩ = some (.int .i64 x159002_2) := (blk_cell BK158.out 2).trans rfl
              have hcz50_3 : wr.cell? ⟨gb158, 3, none⟩ = some (.int .i64 x159003_2) := (blk_cell BK158.out 3).trans rfl
              have hcz50_4 : wr.cell? ⟨gb158, 4, none⟩ = some (.int .i64 x159004_2) := (blk_cell BK158.out 4).trans rfl
              have hcz50_5 : wr.cell? ⟨gb158, 5, none⟩ = some (.slice none 0 0) := (blk_cell BK158.out 5).trans rfl
              have hcz50_6 : wr.cell? ⟨gb158, 6, none⟩ = some (.slice none 0 0) := (blk_cell BK158.out 6).trans rfl
              have hfz50_0 := blk_frozen BK158.out 0
              have hfz50_1 := blk_frozen BK158.out 1
              have hfz50_2 := blk_frozen BK158.out 2
              have hfz50_3 := blk_frozen BK158.out 3
              have hfz50_4 := blk_frozen BK158.out 4
              have hfz50_5 := blk_frozen BK158.out 5
              have hfz50_6 := blk_frozen BK158.out 6
              obtain ⟨Ao51, co51, eo51⟩ := Kd.R_slice HO_171006.out
              subst eo51
              go_wp2
              refine bodyPost_ret (results_cell_row rfl _ _ gb158 49 #[.int .i64 t159, .int .i64 t160, .int .i64 t161, .int .i64 t162, .int .i64 t163, .slice Ao14 t164.length co14, .slice Ao51 x171006_2.length co51] (0, 0) _ rfl (by (with_reducible repeat (first | refine blk_drewN ?_ _ | refine blk_drew ?_ | refine blk_alloc ?_ _)); refine blk_put (cs := #[.int .i64 t159, .int .i64 t160, .int .i64 t161, .int .i64 t162, .int .i64 t163, .slice Ao14 t164.length co14, .slice none 0 0]) ?_ 6 _ rfl; (with_reducible repeat (first | refine blk_drewN ?_ _ | refine blk_drew ?_ | refine blk_alloc ?_ _)); refine blk_put (cs := #[.int .i64 t159, .int .i64 t160, .int .i64 t161, .int .i64 t162, .int .i64 t163, .slice none 0 0, .slice none 0 0]) ?_ 5 _ rfl; (with_reducible repeat (first | refine blk_drewN ?_ _ | refine blk_drew ?_ | refine blk_alloc ?_ _)); refine blk_put (cs := #[.int .i64 t159, .int .i64 t160, .int .i64 t161, .int .i64 t162, .int .i64 x159004_2, .slice none 0 0, .slice none 0 0]) ?_ 4 _ rfl; (with_reducible repeat (first | refine blk_drewN ?_ _ | refine blk_drew ?_ | refine blk_alloc ?_ _)); refine blk_put (cs := #[.int .i64 t159, .int .i64 t160, .int .i64 t161, .int .i64 x159003_2, .int .i64 x159004_2, .slice none 0 0, .slice none 0 0]) ?_ 3 _ rfl; (with_reducible repeat (first | refine blk_drewN ?_ _ | refine blk_drew ?_ | refine blk_alloc ?_ _)); refine blk_put (cs := #[.int .i64 t159, .int .i64 t160, .int .i64 x159002_2, .int .i64 x159003_2, .int .i64 x159004_2, .slice none 0 0, .slice none 0 0]) ?_ 2 _ rfl; (with_reducible repeat (first | refine blk_drewN ?_ _ | refine blk_drew ?_ | refine blk_alloc ?_ _)); refine blk_put (cs := #[.int .i64 t159, .int .i64 x159001_2, .int .i64 x159002_2, .int .i64 x159003_2, .int .i64 x159004_2, .slice none 0 0, .slice none 0 0]) ?_ 1 _ rfl; (with_reducible repeat (first | refine blk_drewN ?_ _ | refine blk_drew ?_ | refine blk_alloc ?_ _)); refine blk_put (cs := #[.int .i64 x159000_2, .int .i64 x159001_2, .int .i64 x159002_2, .int .i64 x159003_2, .int .i64 x159004_2, .slice none 0 0, .slice none 0 0]) ?_ 0 _ rfl; (with_reducible repeat (first | refine blk_drewN ?_ _ | refine blk_drew ?_ | refine blk_alloc ?_ _)); exact BK158.out) Try.underlying49 rfl (by kernel_rfl)) rfl ?_
              exact ⟨_, _, by first | rfl | (simp [errW_none, errW_some] <;> rfl) | (simp [*, errW_none, errW_some] <;> rfl), by (with_reducible repeat (first | apply Kd.S_alloc | apply Kd.S_drewN | apply Kd.S_drew)); exact Kd.S_mono (Kd.S_far (p := ⟨gb158, 6, none⟩) (Kd.S_far (p := ⟨gb158, 5, none⟩) (Kd.S_far (p := ⟨gb158, 4, none⟩) (Kd.S_far (p := ⟨gb158, 3, none⟩) (Kd.S_far (p := ⟨gb158, 2, none⟩) (Kd.S_far (p := ⟨gb158, 1, none⟩) (Kd.S_far (p := ⟨gb158, 0, none⟩) (Kd.S_types HO_171005.out BK158.out (by decide)) (fun _ hk => hk.2) (.int .i64 t159)) (fun _ hk => hk.2) (.int .i64 t160)) (fun _ hk => hk.2) (.int .i64 t161)) (fun _ hk => hk.2) (.int .i64 t162)) (fun _ hk => hk.2) (.int .i64 t163)) (fun _ hk => hk.2) (.slice Ao14 t164.length co14)) (fun _ hk => hk.2) (.slice Ao51 x171006_2.length co51)) (fun _ hk => trivial), by (with_reducible repeat (first | apply Kd.R_alloc | apply Kd.R_drewN | apply Kd.R_drew)); exact Kd.R_mono (Kd.R_far (p := ⟨gb158, 6, none⟩) (Kd.R_far (p := ⟨gb158, 5, none⟩) (Kd.R_far (p := ⟨gb158, 4, none⟩) (Kd.R_far (p := ⟨gb158, 3, none⟩) (Kd.R_far (p := ⟨gb158, 2, none⟩) (Kd.R_far (p := ⟨gb158, 1, none⟩) (Kd.R_far (p := ⟨gb158, 0, none⟩) (Kd.R_types HO_171006.out BK158.out (by decide)) (fun _ hk => hk.2) (.int .i64 t159)) (fun _ hk => hk.2) (.int .i64 t160)) (fun _ hk => hk.2) (.int .i64 t161)) (fun _ hk => hk.2) (.int .i64 t162)) (fun _ hk => hk.2) (.int .i64 t163)) (fun _ hk => hk.2) (.slice Ao14 t164.length co14)) (fun _ hk => hk.2) (.slice Ao51 x171006_2.length co51)) (fun _ hk => trivial), by repeat (first | (with_reducible first | exact HB.out | apply below_alloc | apply pw_below_drewN | apply below_drew1 | refine below_set ?_ GE157.out | refine below_set ?_ GE158.out | refine below_set ?_ GE170.out) | exact HB.out)⟩

/-! ### script_Longest: function 34 -/
def script_Longest.l0 : Nat → Int → Int → Int → List Int → Int → Int → Option (Int)
  | 0, _, _, _, _, _, _ => none
  | k + 1, x1, x5, x6, x10, x11, x12 => if x12 < x11 then (if 0 ≤ x12 then (if x12 < (x10.length : Int) then (if (rd x10 x12) = x1 then (script_Longest.l0 k x1 (mx x5 0) 0 x10 x11 (wrap64 (x12 + 1))) else (script_Longest.l0 k x1 (mx x5 (wrap64 (x6 + 1))) (wrap64 (x6 + 1)) x10 x11 (wrap64 (x12 + 1)))) else (none)) else (none)) else (some x5)
def script_Longest.f (k : Nat) (a0_0 : Int) (a0_1 : Int) (a0_2 : Int) (a0_3 : Int) (a0_4 : Int) (l0_5 : List (List (S37))) (l0_6 : List Int) (a1 : Int) : Option (Int) := script_Longest.l0 k a1 0 0 l0_6 (l0_6.length : Int) 0
theorem script_Longest.mono_l : ∀ k, (∀ y0 y1 y2 y3 y4 y5, LeO (script_Longest.l0 k y0 y1 y2 y3 y4 y5) (script_Longest.l0 (k + 1) y0 y1 y2 y3 y4 y5))
  | 0 => fun _ _ _ _ _ _ r h => by simp [script_Longest.l0] at h
  | k + 1 => by
    have ih0 := script_Longest.mono_l k
    · intro y0 y1 y2 y3 y4 y5
      unfold script_Longest.l0
      repeat' first
      | (with_reducible exact ih0 _ _ _ _ _ _)
      | (with_reducible exact LeO.refl _)
      | (with_reducible exact LeO.none _)
      | (with_reducible refine LeO.ite ?_ ?_)
      | (with_reducible refine LeO.bind ?_ (fun _ => ?_))
      | exact ih0 _ _ _ _ _ _
      | exact LeO.none _
      | refine LeO.ite ?_ ?_
      | refine LeO.bind ?_ (fun _ => ?_)
theorem script_Longest.mono : ∀ a0 a1 a2 a3 a4 a5 a6 a7 k, LeO (script_Longest.f k a0 a1 a2 a3 a4 a5 a6 a7) (script_Longest.f (k + 1) a0 a1 a2 a3 a4 a5 a6 a7) := by
  intro a0 a1 a2 a3 a4 a5 a6 a7 k
  have ih0 := script_Longest.mono_l k
  unfold script_Longest.f
  repeat' first
      | (with_reducible exact ih0 _ _ _ _ _ _)
      | (with_reducible exact LeO.refl _)
      | (with_reducible exact LeO.none _)
      | (with_reducible refine LeO.ite ?_ ?_)
      | (with_reducible refine LeO.bind ?_ (fun _ => ?_))
      | exact ih0 _ _ _ _ _ _
      | exact LeO.none _
      | refine LeO.ite ?_ ?_
      | refine LeO.bind ?_ (fun _ => ?_)
set_option maxHeartbeats 8000000 in
set_option maxRecDepth 100000 in
theorem script_Longest.calls (k : Nat) (a0_0 : Int) (a0_1 : Int) (a0_2 : Int) (a0_3 : Int) (a0_4 : Int) (A0_5 : Option Addr) (c0_5 : Nat) (l0_5 : List (List (S37))) (A0_6 : Option Addr) (c0_6 : Nat) (l0_6 : List Int) (a1 : Int) (r : Int) (w : World) (hr0_5 : Kd.C (Kd.slice 37 k37) w A0_5 l0_5.length l0_5) (hc0_5 : l0_5.length ≤ c0_5) (hr0_6 : Kd.C (Kd.int .i64) w A0_6 l0_6.length l0_6) (hc0_6 : l0_6.length ≤ c0_6) (h : script_Longest.f k a0_0 a0_1 a0_2 a0_3 a0_4 l0_5 l0_6 a1 = some r) :
    Calls Try.prog 34 #[.agg #[.int .i64 a0_0, .int .i64 a0_1, .int .i64 a0_2, .int .i64 a0_3, .int .i64 a0_4, .slice A0_5 l0_5.length c0_5, .slice A0_6 l0_6.length c0_6], .int .i64 a1] w fun e w' => e = .returned (.int .i64 r) ∧ Below w.heap.size w w' := by
  have hu49 := Try.underlying49
  have HR0_5 := Aside0.mk hr0_5
  have HC0_5 := Aside0.mk hc0_5
  clear hr0_5 hc0_5
  have HR0_6 := Aside0.mk hr0_6
  have HC0_6 := Aside0.mk hc0_6
  clear hr0_6 hc0_6
  have HB := Aside0.mk (Below.refl w.heap.size w)
  have H : (script_Longest.l0 k a1 0 0 l0_6 (l0_6.length : Int) 0) = some r := h
  clear h
  have H' := Aside0.mk H
  clear H
  go_enter Try.func34, Try.ntmps34
  go_wp2_with (first | ((with_reducible refine gate_dst (N := 2) rfl ?_); refine box_event ?hg (N := 2) ?hd (cs := #[.int .i64 a0_0, .int .i64 a0_1, .int .i64 a0_2, .int .i64 a0_3, .int .i64 a0_4, .slice A0_5 l0_5.length c0_5, .slice A0_6 l0_6.length c0_6]) (t := 49) ?hr ?_; (case hd => rfl); (case hg => rfl); (case hr => first | (go_simp; done) | (go_simp; rfl)); intro gb174 hg w3 hbox hb; have n0_ := Aside0.mk (below_step (by repeat (first | (with_reducible first | exact HB.out | apply below_alloc | apply pw_below_drewN | apply below_drew1) | exact HB.out)) hb); have n1_ := Aside0.mk (hbox); have n2_ := Aside0.mk ((by rw [hg]; exact (below_size (by repeat (first | (with_reducible first | exact HB.out | apply below_alloc | apply pw_below_drewN | apply below_drew1) | exact HB.out))) : w.heap.size ≤ gb174)); have n3_ := Aside0.mk ((by rw [hg]; exact (below_size (by repeat (first | (with_reducible first | exact HB.out | apply below_alloc | apply pw_below_drewN | apply below_drew1) | exact HB.out))) : w.heap.size ≤ gb174)); clear HB; have HB := n0_; have BK174 := n1_; have GW174 := n2_; have GE174 := n3_; clear n0_ n1_ n2_ n3_; clear hb hbox hg; have hcz4_0 : w3.cell? ⟨gb174, 0, none⟩ = some (.int .i64 a0_0) := (blk_cell BK174.out 0).trans rfl; have hcz4_1 : w3.cell? ⟨gb174, 1, none⟩ = some (.int .i64 a0_1) := (blk_cell BK174.out 1).trans rfl; have hcz4_2 : w3.cell? ⟨gb174, 2, none⟩ = some (.int .i64 a0_2) := (blk_cell BK174.out 2).trans rfl; have hcz4_3 : w3.cell? ⟨gb174, 3, none⟩ = some (.int .i64 a0_3) := (blk_cell BK174.out 3).trans rfl; have hcz4_4 : w3.cell? ⟨gb174, 4, none⟩ = some (.int .i64 a0_4) := (blk_cell BK174.out 4).trans rfl; have hcz4_5 : w3.cell? ⟨gb174, 5, none⟩ = some (.slice A0_5 l0_5.length c0_5) := (blk_cell BK174.out 5).trans rfl; have hcz4_6 : w3.cell? ⟨gb174, 6, none⟩ = some (.slice A0_6 l0_6.length c0_6) := (blk_cell BK174.out 6).trans rfl; have hfz4_0 := blk_frozen BK174.out 0; have hfz4_1 := blk_frozen BK174.out 1; have hfz4_2 := blk_frozen BK174.out 2; have hfz4_3 := blk_frozen BK174.out 3; have hfz4_4 := blk_frozen BK174.out 4; have hfz4_5 := blk_frozen BK174.out 5; have hfz4_6 := blk_frozen BK174.out 6))
  go_loopg [5, 6, 12] k (fun kq v5 v6 v12 w' => ∃ (x5_1 : Int) (x6_1 : Int) (x12_1 : Int), v5 = .int .i64 x5_1 ∧ v6 = .int .i64 x6_1 ∧ v12 = .int .i64 x12_1 ∧ Aside0 (script_Longest.l0 kq a1 x5_1 x6_1 l0_6 (l0_6.length : Int) x12_1 = some r) ∧ Aside0 (kq ≤ k) ∧ Aside0 (w'.heap[gb174]? = some (.cells #[.int .i64 a0_0, .int .i64 a0_1, .int .i64 a0_2, .int .i64 a0_3, .int .i64 a0_4, (.slice A0_5 l0_5.length c0_5), (.slice A0_6 l0_6.length c0_6)] 49 (0, 0))) ∧ Aside0 (Below w.heap.size w w'))
  case atStart => exact ⟨(0), (0), (0), (by first | rfl | (simp; done) | (simp [*]; done)), (by first | rfl | (simp; done) | (simp [*]; done)), (by first | rfl | (simp; done) | (simp [*]; done)), H', ⟨Nat.le_refl _⟩, ⟨by (with_reducible repeat (first | refine blk_drewN ?_ _ | refine blk_drew ?_ | refine blk_alloc ?_ _)); exact BK174.out⟩, ⟨by repeat (first | (with_reducible first | exact HB.out | apply below_alloc | apply pw_below_drewN | apply below_drew1 | refine below_set ?_ GE174.out) | exact HB.out)⟩⟩
  case round =>
    clear H'
    try clear p2
    try clear c3
    try clear hcz4_0
    try clear hcz4_1
    try clear hcz4_2
    try clear hcz4_3
    try clear hcz4_4
    try clear hcz4_5
    try clear hcz4_6
    try clear hfz4_0
    try clear hfz4_1
    try clear hfz4_2
    try clear hfz4_3
    try clear hfz4_4
    try clear hfz4_5
    try clear hfz4_6
    obtain ⟨x5_1, x6_1, x12_1, rfl, rfl, rfl, HA, HK1, BK174, HB⟩ := hrel
    cases gk with
    | zero => exact absurd HA.out (by simp [script_Longest.l0])
    | succ k1 =>
      have H := HA.out
      clear HA
      simp only [script_Longest.l0] at H
      by_cases c5 : x12_1 < (l0_6.length : Int)
      · rw [if_pos c5] at H
        have c5b0 : decide (x12_1 < (l0_6.length : Int)) = true := decide_eq_true c5
        clear c5
        by_cases c6 : 0 ≤ x12_1
        · rw [if_pos c6] at H
          have c6b0 : decide (0 ≤ x12_1) = true := decide_eq_true c6
          clear c6
          by_cases c7 : x12_1 < (l0_6.length : Int)
          · rw [if_pos c7] at H
            have c7b0 : decide (x12_1 < (l0_6.length : Int)) = true := decide_eq_true c7
            clear c7
            by_cases c8 : (rd l0_6 x12_1) = a1
            · rw [if_pos c8] at H
              have c8b0 : ((rd l0_6 x12_1) == a1) = true := beq_iff_eq.mpr c8
              have c8b1 : ((rd l0_6 x12_1) != a1) = false := bne_eq_false_iff_eq.mpr c8
              clear c8
              obtain ⟨ji9, hji9⟩ : ∃ j_ : Int, (mx x5_1 0) = j_ := ⟨_, rfl⟩
              replace H : (script_Longest.l0 k1 a1 ji9 0 l0_6 (l0_6.length : Int) (wrap64 (x12_1 + 1))) = some r := by first | (rw [hji9] at H; exact H) | (simp only [hji9] at H ⊢; exact H)
              have hji9_ : (if x5_1 < 0 then 0 else x5_1) = ji9 := hji9
              have H' := Aside0.mk H
              clear H
              have p175 : 0 ≤ (x12_1 : Int) := of_decide_eq_true (by first | (with_reducible assumption) | assumption)
              have q175 : x12_1 < (l0_6.length : Int) := of_decide_eq_true (by first | (with_reducible assumption) | assumption)
              obtain ⟨ad175, e175, hx175_0⟩ := Kd.at_int HR0_6.out x12_1 p175 q175
              cases e175
              replace hx175_0 := (HB.out.cell (World.block_lt_of_cell? w _ hx175_0)).trans hx175_0
              replace p175 := eq_true p175
              replace q175 := eq_true q175
              go_wp2
              go_roundg k1
              case measure => have := HK1.out; omega
              case rel => exact ⟨(ji9), (0), (wrap64 (x12_1 + 1)), (by first | rfl | (simp; done) | (simp only [← hji9] <;> (first | rfl | simp)) | (simp [*]; done)), (by first | rfl | (simp; done) | (simp [*]; done)), (by first | rfl | (simp; done) | (simp [*]; done)), H', ⟨by have := HK1.out; omega⟩, ⟨by (with_reducible repeat (first | refine blk_drewN ?_ _ | refine blk_drew ?_ | refine blk_alloc ?_ _)); exact BK174.out⟩, ⟨by repeat (first | (with_reducible first | exact HB.out | apply below_alloc | apply pw_below_drewN | apply below_drew1 | refine below_set ?_ GE174.out) | exact HB.out)⟩⟩
            · rw [if_neg c8] at H
              have c8b0 : ((rd l0_6 x12_1) == a1) = false := beq_eq_false_iff_ne.mpr c8
              have c8b1 : ((rd l0_6 x12_1) != a1) = true := bne_iff_ne.mpr c8
              obtain ⟨ji10, hji10⟩ : ∃ j_ : Int, (mx x5_1 (wrap64 (x6_1 + 1))) = j_ := ⟨_, rfl⟩
              replace H : (script_Longest.l0 k1 a1 ji10 (wrap64 (x6_1 + 1)) l0_6 (l0_6.length : Int) (wrap64 (x12_1 + 1))) = some r := by first | (rw [hji10] at H; exact H) | (simp only [hji10] at H ⊢; exact H)
              have hji10_ : (if x5_1 < (wrap64 (x6_1 + 1)) then (wrap64 (x6_1 + 1)) else x5_1) = ji10 := hji10
              have H' := Aside0.mk H
              clear H
              have p175 : 0 ≤ (x12_1 : Int) := of_decide_eq_true (by first | (with_reducible assumption) | assumption)
              have q175 : x12_1 < (l0_6.length : Int) := of_decide_eq_true (by first | (with_reducible assumption) | assumption)
              obtain ⟨ad175, e175, hx175_0⟩ := Kd.at_int HR0_6.out x12_1 p175 q175
              cases e175
              replace hx175_0 := (HB.out.cell (World.block_lt_of_cell? w _ hx175_0)).trans hx175_0
              replace p175 := eq_true p175
              replace q175 := eq_true q175
              go_wp2
              go_roundg k1
              case measure => have := HK1.out; omega
              case rel => exact ⟨(ji10), (wrap64 (x6_1 + 1)), (wrap64 (x12_1 + 1)), (by first | rfl | (simp; done) | (simp only [← hji10] <;> (first | rfl | simp)) | (simp [*]; done)), (by first | rfl | (simp; done) | (simp [*]; done)), (by first | rfl | (simp; done) | (simp [*]; done)), H', ⟨by have := HK1.out; omega⟩, ⟨by (with_reducible repeat (first | refine blk_drewN ?_ _ | refine blk_drew ?_ | refine blk_alloc ?_ _)); exact BK174.out⟩, ⟨by repeat (first | (with_reducible first | exact HB.out | apply below_alloc | apply pw_below_drewN | apply below_drew1 | refine below_set ?_ GE174.out) | exact HB.out)⟩⟩
          · rw [if_neg c7] at H
            exact absurd H (by simp)
        · rw [if_neg c6] at H
          exact absurd H (by simp)
      · rw [if_neg c5] at H
        have c5b0 : decide (x12_1 < (l0_6.length : Int)) = false := decide_eq_false c5
        clear c5
        obtain rfl := Option.some.inj H
        go_wp2
        go_ret
        exact ⟨by first | rfl | (simp [errW_none, errW_some] <;> rfl) | (simp [*, errW_none, errW_some] <;> rfl), by repeat (first | (with_reducible first | exact HB.out | apply below_alloc | apply pw_below_drewN | apply below_drew1 | refine below_set ?_ GE174.out) | exact HB.out)⟩

-- NOT PRINTED: function 27 (revenantlaw22_awake)

end Go.Proofs.Ytcphmelmieedfaa.PScriptTurns
