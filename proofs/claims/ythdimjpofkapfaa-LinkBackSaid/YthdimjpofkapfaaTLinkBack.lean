import Derived.Test.YthdimjpofkapfaaPLinkExactx0
import Derived.Test.YthdimjpofkapfaaPLinkExactx1
import Derived.Test.YthdimjpofkapfaaPLinkExactx2
import Derived.Test.YthdimjpofkapfaaPLinkExactx3
import Derived.Test.YthdimjpofkapfaaPLinkExactx4
import Derived.Test.YthdimjpofkapfaaPLinkExactx5
import Derived.Test.YthdimjpofkapfaaQLinkExactx6
import Derived.Test.YthdimjpofkapfaaQLinkExactx7
import Derived.Test.YthdimjpofkapfaaQLinkExactx8
namespace Go.Proofs.Ythdimjpofkapfaa.PLinkExact
open Go.RowKit Go.Proofs.YthdimjpofkapfaaW.PrintWords Go.Proofs.YthdimjpofkapfaaW.PrintLast Go.Proofs.YthdimjpofkapfaaW.PrintMore
attribute [local go_sem] max2_int min2_int max_two min_two max_three min_three max_four min_four   -- for this text's walks alone
set_option linter.unusedVariables false
set_option linter.unusedSimpArgs false

attribute [local go_sem high] eqA33
/-! ### revenantlaw02_LinkBack: function 4 -/
mutual
def revenantlaw02_LinkBack.j0 : Nat → Bool → Bool → Int → Int → Bool → Int → Int → Option (Bool)
  | 0, _, _, _, _, _, _, _ => none
  | k + 1, x20, x190000, x190001, x190002, x191000, x191001, x191002 => if x20 = true then (some false) else ((link_Link_Is.f x190000 x190001 x190002).bind fun t198 => (if t198 = true then ((link_Link_Is.f x191000 x191001 x191002).bind fun t199 => (revenantlaw02_LinkBack.j1 k (!t199) x190000 x190001 x190002 x191000 x191001 x191002)) else (revenantlaw02_LinkBack.j1 k true x190000 x190001 x190002 x191000 x191001 x191002)))
def revenantlaw02_LinkBack.j1 : Nat → Bool → Bool → Int → Int → Bool → Int → Int → Option (Bool)
  | 0, _, _, _, _, _, _, _ => none
  | k + 1, x28, x190000, x190001, x190002, x191000, x191001, x191002 => if x28 = true then (some true) else ((link_Link_Word.f k x190000 x190001 x190002).bind fun t200 => ((link_Of.f k t200).bind fun bt201 => (if (bt201.1 == x190000 && (bt201.2.1 == x190001 && (bt201.2.2 == x190002))) = true then ((link_Link_Word.f k x190000 x190001 x190002).bind fun t204 => ((link_Link_Word.f k x191000 x191001 x191002).bind fun t205 => (some ((t204 == t205) == (x190000 == x191000 && (x190001 == x191001 && (x190002 == x191002))))))) else (some false))))
end
def revenantlaw02_LinkBack.f (k : Nat) (a0_0 : Bool) (a0_1 : Int) (a0_2 : Int) (a1_0 : Bool) (a1_1 : Int) (a1_2 : Int) (a2 : Int) : Option (Bool) := (revenantlaw02_awake.f k).bind fun t191 => (if t191 = true then ((link_Of.f k a2).bind fun bt192 => ((link_Link_Is.f bt192.1 bt192.2.1 bt192.2.2).bind fun t196 => (if t196 = true then ((link_Link_Word.f k bt192.1 bt192.2.1 bt192.2.2).bind fun t197 => (revenantlaw02_LinkBack.j0 k (t197 != a2) a0_0 a0_1 a0_2 a1_0 a1_1 a1_2)) else (revenantlaw02_LinkBack.j0 k true a0_0 a0_1 a0_2 a1_0 a1_1 a1_2)))) else (some false))
theorem revenantlaw02_LinkBack.mono_l : ∀ k, (∀ y0 y1 y2 y3 y4 y5 y6, LeO (revenantlaw02_LinkBack.j0 k y0 y1 y2 y3 y4 y5 y6) (revenantlaw02_LinkBack.j0 (k + 1) y0 y1 y2 y3 y4 y5 y6)) ∧ (∀ y0 y1 y2 y3 y4 y5 y6, LeO (revenantlaw02_LinkBack.j1 k y0 y1 y2 y3 y4 y5 y6) (revenantlaw02_LinkBack.j1 (k + 1) y0 y1 y2 y3 y4 y5 y6))
  | 0 => ⟨fun _ _ _ _ _ _ _ r h => by simp [revenantlaw02_LinkBack.j0] at h, fun _ _ _ _ _ _ _ r h => by simp [revenantlaw02_LinkBack.j1] at h⟩
  | k + 1 => by
    obtain ⟨ih0, ih1⟩ := revenantlaw02_LinkBack.mono_l k
    refine ⟨?_, ?_⟩
    · intro y0 y1 y2 y3 y4 y5 y6
      unfold revenantlaw02_LinkBack.j0
      repeat' first
      | (with_reducible exact ih0 _ _ _ _ _ _ _)
      | (with_reducible exact ih1 _ _ _ _ _ _ _)
      | (with_reducible exact link_Link_Word.mono _ _ _ _)
      | (with_reducible exact link_Of.mono _ _)
      | (with_reducible exact revenantlaw02_awake.mono _)
      | (with_reducible exact LeO.refl _)
      | (with_reducible exact LeO.none _)
      | (with_reducible refine LeO.ite ?_ ?_)
      | (with_reducible refine LeO.bind ?_ (fun _ => ?_))
      | exact ih0 _ _ _ _ _ _ _
      | exact ih1 _ _ _ _ _ _ _
      | exact link_Link_Word.mono _ _ _ _
      | exact link_Of.mono _ _
      | exact revenantlaw02_awake.mono _
      | exact LeO.none _
      | refine LeO.ite ?_ ?_
      | refine LeO.bind ?_ (fun _ => ?_)
    · intro y0 y1 y2 y3 y4 y5 y6
      unfold revenantlaw02_LinkBack.j1
      repeat' first
      | (with_reducible exact ih0 _ _ _ _ _ _ _)
      | (with_reducible exact ih1 _ _ _ _ _ _ _)
      | (with_reducible exact link_Link_Word.mono _ _ _ _)
      | (with_reducible exact link_Of.mono _ _)
      | (with_reducible exact revenantlaw02_awake.mono _)
      | (with_reducible exact LeO.refl _)
      | (with_reducible exact LeO.none _)
      | (with_reducible refine LeO.ite ?_ ?_)
      | (with_reducible refine LeO.bind ?_ (fun _ => ?_))
      | exact ih0 _ _ _ _ _ _ _
      | exact ih1 _ _ _ _ _ _ _
      | exact link_Link_Word.mono _ _ _ _
      | exact link_Of.mono _ _
      | exact revenantlaw02_awake.mono _
      | exact LeO.none _
      | refine LeO.ite ?_ ?_
      | refine LeO.bind ?_ (fun _ => ?_)
theorem revenantlaw02_LinkBack.mono : ∀ a0 a1 a2 a3 a4 a5 a6 k, LeO (revenantlaw02_LinkBack.f k a0 a1 a2 a3 a4 a5 a6) (revenantlaw02_LinkBack.f (k + 1) a0 a1 a2 a3 a4 a5 a6) := by
  intro a0 a1 a2 a3 a4 a5 a6 k
  obtain ⟨ih0, ih1⟩ := revenantlaw02_LinkBack.mono_l k
  unfold revenantlaw02_LinkBack.f
  repeat' first
      | (with_reducible exact ih0 _ _ _ _ _ _ _)
      | (with_reducible exact ih1 _ _ _ _ _ _ _)
      | (with_reducible exact link_Link_Word.mono _ _ _ _)
      | (with_reducible exact link_Of.mono _ _)
      | (with_reducible exact revenantlaw02_awake.mono _)
      | (with_reducible exact LeO.refl _)
      | (with_reducible exact LeO.none _)
      | (with_reducible refine LeO.ite ?_ ?_)
      | (with_reducible refine LeO.bind ?_ (fun _ => ?_))
      | exact ih0 _ _ _ _ _ _ _
      | exact ih1 _ _ _ _ _ _ _
      | exact link_Link_Word.mono _ _ _ _
      | exact link_Of.mono _ _
      | exact revenantlaw02_awake.mono _
      | exact LeO.none _
      | refine LeO.ite ?_ ?_
      | refine LeO.bind ?_ (fun _ => ?_)
def revenantlaw02_LinkBack.T8 : Bool × List (List Nat × List Nat) := (true, [([], []), ([0], [0]), ([1, 1], [1]), ([], []), ([2, 3], [2, 3]), ([4, 2], [4]), ([5], [5]), ([6, 5, 5], [5, 6]), ([5], [5]), ([8, 7, 5], [5, 8]), ([7, 9, 5], [5, 7, 9]), ([5], [5]), ([5], [5]), ([11, 12, 5], [5, 11, 12]), ([10, 13, 5], [5, 10, 13]), ([5, 14], [5, 14]), ([15, 9, 0, 1, 2, 3, 4, 5, 6, 7, 8, 9, 10, 11, 12, 13, 14, 15], [15])])
def revenantlaw02_LinkBack.B8 : List Nat := [0, 1, 3, 0, 15, 31, 63, 127, 63, 511, 1023, 63, 63, 6207, 16383, 32767, 65535]
theorem revenantlaw02_LinkBack.tab8 : rtab .any (opsOf Try.f4 8) = revenantlaw02_LinkBack.T8 := by kernel_rfl
theorem revenantlaw02_LinkBack.bits8 : waitsOk revenantlaw02_LinkBack.T8.2 revenantlaw02_LinkBack.B8 = true := by kernel_rfl
theorem revenantlaw02_LinkBack.j0_no {k : Nat} {y1 : Bool} {y2 : Int} {y3 : Int} {y4 : Bool} {y5 : Int} {y6 : Int} {r : Bool} (h : revenantlaw02_LinkBack.j0 k true y1 y2 y3 y4 y5 y6 = some r) : r = false := by
  cases k with
  | zero => exact absurd h (by simp [revenantlaw02_LinkBack.j0])
  | succ k => exact (Option.some.inj (by simpa only [revenantlaw02_LinkBack.j0, if_true] using h)).symm
set_option maxHeartbeats 8000000 in
set_option maxRecDepth 100000 in
theorem revenantlaw02_LinkBack.callsT (k : Nat) (a0_0 : Bool) (a0_1 : Int) (a0_2 : Int) (a1_0 : Bool) (a1_1 : Int) (a1_2 : Int) (a2 : Int) (r : Bool) (w : World) (hr0 : r = true) (h : revenantlaw02_LinkBack.f k a0_0 a0_1 a0_2 a1_0 a1_1 a1_2 a2 = some r) :
    Calls Try.prog 4 #[.agg #[.bool a0_0, .int .i64 a0_1, .int .i64 a0_2], .agg #[.bool a1_0, .int .i64 a1_1, .int .i64 a1_2], .int .u64 a2] w fun e w' => e = .returned (.bool r) ∧ Below w.heap.size w w' := by
  have hu33 := Try.underlying33
  have HB := Aside0.mk (Below.refl w.heap.size w)
  have HR := Aside0.mk hr0
  clear hr0
  have H : ((revenantlaw02_awake.f k).bind fun t191 => (if t191 = true then ((link_Of.f k a2).bind fun bt192 => ((link_Link_Is.f bt192.1 bt192.2.1 bt192.2.2).bind fun t196 => (if t196 = true then ((link_Link_Word.f k bt192.1 bt192.2.1 bt192.2.2).bind fun t197 => (revenantlaw02_LinkBack.j0 k (t197 != a2) a0_0 a0_1 a0_2 a1_0 a1_1 a1_2)) else (revenantlaw02_LinkBack.j0 k true a0_0 a0_1 a0_2 a1_0 a1_1 a1_2)))) else (some false))) = some r := h
  clear h
  replace H := Option.bind_eq_some_iff.mp H
  obtain ⟨t191, A40, H⟩ := H
  replace H : (if t191 = true then ((link_Of.f k a2).bind fun bt192 => ((link_Link_Is.f bt192.1 bt192.2.1 bt192.2.2).bind fun t196 => (if t196 = true then ((link_Link_Word.f k bt192.1 bt192.2.1 bt192.2.2).bind fun t197 => (revenantlaw02_LinkBack.j0 k (t197 != a2) a0_0 a0_1 a0_2 a1_0 a1_1 a1_2)) else (revenantlaw02_LinkBack.j0 k true a0_0 a0_1 a0_2 a1_0 a1_1 a1_2)))) else (some false)) = some r := H
  have A4 := Aside0.mk A40
  clear A40
  by_cases c5 : t191 = true
  · subst c5
    have H1 : ((link_Of.f k a2).bind fun bt192 => ((link_Link_Is.f bt192.1 bt192.2.1 bt192.2.2).bind fun t196 => (if t196 = true then ((link_Link_Word.f k bt192.1 bt192.2.1 bt192.2.2).bind fun t197 => (revenantlaw02_LinkBack.j0 k (t197 != a2) a0_0 a0_1 a0_2 a1_0 a1_1 a1_2)) else (revenantlaw02_LinkBack.j0 k true a0_0 a0_1 a0_2 a1_0 a1_1 a1_2)))) = some r := by rw [if_pos rfl] at H; exact H
    clear H
    have H := H1
    clear H1
    replace H := Option.bind_eq_some_iff.mp H
    obtain ⟨⟨t192, t193, t194⟩, A60, H⟩ := H
    replace H : ((link_Link_Is.f t192 t193 t194).bind fun t196 => (if t196 = true then ((link_Link_Word.f k t192 t193 t194).bind fun t197 => (revenantlaw02_LinkBack.j0 k (t197 != a2) a0_0 a0_1 a0_2 a1_0 a1_1 a1_2)) else (revenantlaw02_LinkBack.j0 k true a0_0 a0_1 a0_2 a1_0 a1_1 a1_2))) = some r := H
    have A6 := Aside0.mk A60
    clear A60
    have HC7 := Aside0.mk H
    clear H
    go_enter Try.func4, Try.ntmps4
    go_upto_region 4 with (first | ((with_reducible refine gate_dst (N := 3) rfl ?_); refine box_event ?hg (N := 3) ?hd (cs := #[.bool a0_0, .int .i64 a0_1, .int .i64 a0_2]) (t := 33) ?hr ?_; (case hd => rfl); (case hg => rfl); (case hr => first | (go_simp; done) | (go_simp; rfl)); intro gb189 hg w8 hbox hb; have n0_ := Aside0.mk (below_step (by repeat (first | (with_reducible first | exact HB.out | apply below_alloc | apply pw_below_drewN | apply below_drew1) | exact HB.out)) hb); have n1_ := Aside0.mk (hbox); have n2_ := Aside0.mk ((by rw [hg]; exact (below_size (by repeat (first | (with_reducible first | exact HB.out | apply below_alloc | apply pw_below_drewN | apply below_drew1) | exact HB.out))) : w.heap.size ≤ gb189)); have n3_ := Aside0.mk ((by rw [hg]; exact (below_size (by repeat (first | (with_reducible first | exact HB.out | apply below_alloc | apply pw_below_drewN | apply below_drew1) | exact HB.out))) : w.heap.size ≤ gb189)); clear HB; have HB := n0_; have BK189 := n1_; have GW189 := n2_; have GE189 := n3_; clear n0_ n1_ n2_ n3_; clear hb hbox hg) | ((with_reducible refine gate_dst (N := 4) rfl ?_); refine box_event ?hg (N := 4) ?hd (cs := #[.bool a1_0, .int .i64 a1_1, .int .i64 a1_2]) (t := 33) ?hr ?_; (case hd => rfl); (case hg => rfl); (case hr => first | (go_simp; done) | (go_simp; rfl)); intro gb190 hg w9 hbox hb; have n0_ := Aside0.mk (blk_below (g := gb189) (o := .cells #[.bool a0_0, .int .i64 a0_1, .int .i64 a0_2] 33 (0, 0)) (by (with_reducible repeat (first | refine blk_drewN ?_ _ | refine blk_drew ?_ | refine blk_alloc ?_ _)); exact BK189.out) hb); have n1_ := Aside0.mk (below_step (by repeat (first | (with_reducible first | exact HB.out | apply below_alloc | apply pw_below_drewN | apply below_drew1 | refine below_set ?_ GE189.out) | exact HB.out)) hb); have n2_ := Aside0.mk (hbox); have n3_ := Aside0.mk ((by rw [hg]; exact (below_size (by repeat (first | (with_reducible first | exact HB.out | apply below_alloc | apply pw_below_drewN | apply below_drew1 | refine below_set ?_ GE189.out) | exact HB.out))) : w.heap.size ≤ gb190)); have n4_ := Aside0.mk ((by rw [hg]; exact (below_size (by repeat (first | (with_reducible first | exact HB.out | apply below_alloc | apply pw_below_drewN | apply below_drew1 | refine below_set ?_ GE189.out) | exact HB.out))) : w.heap.size ≤ gb190)); have n5_ := Aside0.mk ((by rw [hg]; exact Nat.ne_of_lt (blk_lt (g := gb189) (o := .cells #[.bool a0_0, .int .i64 a0_1, .int .i64 a0_2] 33 (0, 0)) (by (with_reducible repeat (first | refine blk_drewN ?_ _ | refine blk_drew ?_ | refine blk_alloc ?_ _)); exact BK189.out)) : gb189 ≠ gb190)); have n6_ := Aside0.mk ((by rw [hg]; exact Nat.ne_of_gt (blk_lt (g := gb189) (o := .cells #[.bool a0_0, .int .i64 a0_1, .int .i64 a0_2] 33 (0, 0)) (by (with_reducible repeat (first | refine blk_drewN ?_ _ | refine blk_drew ?_ | refine blk_alloc ?_ _)); exact BK189.out)) : gb190 ≠ gb189)); clear BK189; clear HB; have BK189 := n0_; have HB := n1_; have BK190 := n2_; have GW190 := n3_; have GE190 := n4_; have NB189_190 := n5_; have NB190_189 := n6_; clear n0_ n1_ n2_ n3_ n4_ n5_ n6_; clear hb hbox hg) | ((with_reducible refine gate_callee (f := 14) rfl ?_); refine goesL_ (some 8) rfl rfl Try.func14 (by kernel_rfl) rfl #[] rfl (by (try simp only [List.map_toArray, List.map_cons, List.map_nil]); first | done | rfl | (simp only [List.length_drop, List.length_take]; rfl)) ?_; (with_reducible refine (revenantlaw02_awake.calls k  true _ A4.out).mono ?_); rintro e w10 ⟨rfl, hb⟩; refine ⟨_, rfl, ?_⟩; have n0_ := Aside0.mk (blk_below (g := gb189) (o := .cells #[.bool a0_0, .int .i64 a0_1, .int .i64 a0_2] 33 (0, 0)) (by (with_reducible repeat (first | refine blk_drewN ?_ _ | refine blk_drew ?_ | refine blk_alloc ?_ _)); exact BK189.out) hb); have n1_ := Aside0.mk (blk_below (g := gb190) (o := .cells #[.bool a1_0, .int .i64 a1_1, .int .i64 a1_2] 33 (0, 0)) (by (with_reducible repeat (first | refine blk_drewN ?_ _ | refine blk_drew ?_ | refine blk_alloc ?_ _)); exact BK190.out) hb); have n2_ := Aside0.mk (below_step (by repeat (first | (with_reducible first | exact HB.out | apply below_alloc | apply pw_below_drewN | apply below_drew1 | refine below_set ?_ GE189.out | refine below_set ?_ GE190.out) | exact HB.out)) hb); clear BK189; clear BK190; clear HB; have BK189 := n0_; have BK190 := n1_; have HB := n2_; clear n0_ n1_ n2_; (try clear hb); (try clear hb2); (try clear hk); (try clear hi)) | ((with_reducible refine gate_callee (f := 19) rfl ?_); refine goesL_ (some 11) rfl rfl Try.func19 (by kernel_rfl) rfl #[.int .u64 a2] rfl (by (try simp only [List.map_toArray, List.map_cons, List.map_nil]); first | done | rfl | (simp only [List.length_drop, List.length_take]; rfl)) ?_; (with_reducible refine (link_Of.calls k a2 t192 t193 t194 _ A6.out).mono ?_); rintro e w11 ⟨rfl, hb⟩; refine ⟨_, rfl, ?_⟩; have n0_ := Aside0.mk (blk_below (g := gb189) (o := .cells #[.bool a0_0, .int .i64 a0_1, .int .i64 a0_2] 33 (0, 0)) (by (with_reducible repeat (first | refine blk_drewN ?_ _ | refine blk_drew ?_ | refine blk_alloc ?_ _)); exact BK189.out) hb); have n1_ := Aside0.mk (blk_below (g := gb190) (o := .cells #[.bool a1_0, .int .i64 a1_1, .int .i64 a1_2] 33 (0, 0)) (by (with_reducible repeat (first | refine blk_drewN ?_ _ | refine blk_drew ?_ | refine blk_alloc ?_ _)); exact BK190.out) hb); have n2_ := Aside0.mk (below_step (by repeat (first | (with_reducible first | exact HB.out | apply below_alloc | apply pw_below_drewN | apply below_drew1 | refine below_set ?_ GE189.out | refine below_set ?_ GE190.out) | exact HB.out)) hb); clear BK189; clear BK190; clear HB; have BK189 := n0_; have BK190 := n1_; have HB := n2_; clear n0_ n1_ n2_; (try clear hb); (try clear hb2); (try clear hk); (try clear hi)) | ((with_reducible refine gate_dst (N := 7) rfl ?_); refine box_event ?hg (N := 7) ?hd (cs := #[.bool false, .int .i64 0, .int .i64 0]) (t := 33) ?hr ?_; (case hd => rfl); (case hg => rfl); (case hr => first | (go_simp; done) | (go_simp; rfl)); intro gb195 hg w12 hbox hb; have n0_ := Aside0.mk (blk_below (g := gb189) (o := .cells #[.bool a0_0, .int .i64 a0_1, .int .i64 a0_2] 33 (0, 0)) (by (with_reducible repeat (first | refine blk_drewN ?_ _ | refine blk_drew ?_ | refine blk_alloc ?_ _)); exact BK189.out) hb); have n1_ := Aside0.mk (blk_below (g := gb190) (o := .cells #[.bool a1_0, .int .i64 a1_1, .int .i64 a1_2] 33 (0, 0)) (by (with_reducible repeat (first | refine blk_drewN ?_ _ | refine blk_drew ?_ | refine blk_alloc ?_ _)); exact BK190.out) hb); have n2_ := Aside0.mk (below_step (by repeat (first | (with_reducible first | exact HB.out | apply below_alloc | apply pw_below_drewN | apply below_drew1 | refine below_set ?_ GE189.out | refine below_set ?_ GE190.out) | exact HB.out)) hb); have n3_ := Aside0.mk (hbox); have n4_ := Aside0.mk ((by rw [hg]; exact (below_size (by repeat (first | (with_reducible first | exact HB.out | apply below_alloc | apply pw_below_drewN | apply below_drew1 | refine below_set ?_ GE189.out | refine below_set ?_ GE190.out) | exact HB.out))) : w.heap.size ≤ gb195)); have n5_ := Aside0.mk ((by rw [hg]; exact (below_size (by repeat (first | (with_reducible first | exact HB.out | apply below_alloc | apply pw_below_drewN | apply below_drew1 | refine below_set ?_ GE189.out | refine below_set ?_ GE190.out) | exact HB.out))) : w.heap.size ≤ gb195)); have n6_ := Aside0.mk ((by rw [hg]; exact Nat.ne_of_lt (blk_lt (g := gb189) (o := .cells #[.bool a0_0, .int .i64 a0_1, .int .i64 a0_2] 33 (0, 0)) (by (with_reducible repeat (first | refine blk_drewN ?_ _ | refine blk_drew ?_ | refine blk_alloc ?_ _)); exact BK189.out)) : gb189 ≠ gb195)); have n7_ := Aside0.mk ((by rw [hg]; exact Nat.ne_of_gt (blk_lt (g := gb189) (o := .cells #[.bool a0_0, .int .i64 a0_1, .int .i64 a0_2] 33 (0, 0)) (by (with_reducible repeat (first | refine blk_drewN ?_ _ | refine blk_drew ?_ | refine blk_alloc ?_ _)); exact BK189.out)) : gb195 ≠ gb189)); have n8_ := Aside0.mk ((by rw [hg]; exact Nat.ne_of_lt (blk_lt (g := gb190) (o := .cells #[.bool a1_0, .int .i64 a1_1, .int .i64 a1_2] 33 (0, 0)) (by (with_reducible repeat (first | refine blk_drewN ?_ _ | refine blk_drew ?_ | refine blk_alloc ?_ _)); exact BK190.out)) : gb190 ≠ gb195)); have n9_ := Aside0.mk ((by rw [hg]; exact Nat.ne_of_gt (blk_lt (g := gb190) (o := .cells #[.bool a1_0, .int .i64 a1_1, .int .i64 a1_2] 33 (0, 0)) (by (with_reducible repeat (first | refine blk_drewN ?_ _ | refine blk_drew ?_ | refine blk_alloc ?_ _)); exact BK190.out)) : gb195 ≠ gb190)); clear BK189; clear BK190; clear HB; have BK189 := n0_; have BK190 := n1_; have HB := n2_; have BK195 := n3_; have GW195 := n4_; have GE195 := n5_; have NB189_195 := n6_; have NB195_189 := n7_; have NB190_195 := n8_; have NB195_190 := n9_; clear n0_ n1_ n2_ n3_ n4_ n5_ n6_ n7_ n8_ n9_; clear hb hbox hg; have hnb13 := NB195_189.out; have hnc13 := NB189_195.out; have hnb14 := NB195_190.out; have hnc14 := NB190_195.out; have hcz15_0 : w12.cell? ⟨gb195, 0, none⟩ = some (.bool false) := (blk_cell BK195.out 0).trans rfl; have hcz15_1 : w12.cell? ⟨gb195, 1, none⟩ = some (.int .i64 0) := (blk_cell BK195.out 1).trans rfl; have hcz15_2 : w12.cell? ⟨gb195, 2, none⟩ = some (.int .i64 0) := (blk_cell BK195.out 2).trans rfl; have hfz15_0 := blk_frozen BK195.out 0; have hfz15_1 := blk_frozen BK195.out 1; have hfz15_2 := blk_frozen BK195.out 2))
    (try simp only [Act.put, List.setIfInBounds_toArray, List.set_cons_zero, List.set_cons_succ])
    go_cut [20] (fun v20 wc => ∃ (kq : Nat) (x20_6 : Bool), v20 = .bool x20_6 ∧ Aside0 (revenantlaw02_LinkBack.j0 kq x20_6 a0_0 a0_1 a0_2 a1_0 a1_1 a1_2 = some r) ∧ Aside0 (kq ≤ k) ∧ Aside0 (wc.heap[gb189]? = some (.cells #[.bool a0_0, .int .i64 a0_1, .int .i64 a0_2] 33 (0, 0))) ∧ Aside0 (wc.heap[gb190]? = some (.cells #[.bool a1_0, .int .i64 a1_1, .int .i64 a1_2] 33 (0, 0))) ∧ Aside0 (wc.heap[gb195]? = some (.cells #[.bool t192, .int .i64 t193, .int .i64 t194] 33 (0, 0))) ∧ Aside0 (Below w.heap.size w wc))
    case first =>
      have H := HC7.out
      clear HC7
      replace H := Option.bind_eq_some_iff.mp H
      obtain ⟨t196, A160, H⟩ := H
      replace H : (if t196 = true then ((link_Link_Word.f k t192 t193 t194).bind fun t197 => (revenantlaw02_LinkBack.j0 k (t197 != a2) a0_0 a0_1 a0_2 a1_0 a1_1 a1_2)) else (revenantlaw02_LinkBack.j0 k true a0_0 a0_1 a0_2 a1_0 a1_1 a1_2)) = some r := H
      have A16 := Aside0.mk A160
      clear A160
      by_cases c17 : t196 = true
      · subst c17
        have H1 : ((link_Link_Word.f k t192 t193 t194).bind fun t197 => (revenantlaw02_LinkBack.j0 k (t197 != a2) a0_0 a0_1 a0_2 a1_0 a1_1 a1_2)) = some r := by rw [if_pos rfl] at H; exact H
        clear H
        have H := H1
        clear H1
        replace H := Option.bind_eq_some_iff.mp H
        obtain ⟨t197, A180, H⟩ := H
        replace H : (revenantlaw02_LinkBack.j0 k (t197 != a2) a0_0 a0_1 a0_2 a1_0 a1_1 a1_2) = some r := H
        have A18 := Aside0.mk A180
        clear A180
        have H' := Aside0.mk H
        clear H
        have hnb19 := NB195_189.out
        have hnc19 := NB189_195.out
        have hnb20 := NB195_190.out
        have hnc20 := NB190_195.out
        have hcz21_0 : w12.cell? ⟨gb195, 0, none⟩ = some (.bool false) := (blk_cell BK195.out 0).trans rfl
        have hcz21_1 : w12.cell? ⟨gb195, 1, none⟩ = some (.int .i64 0) := (blk_cell BK195.out 1).trans rfl
        have hcz21_2 : w12.cell? ⟨gb195, 2, none⟩ = some (.int .i64 0) := (blk_cell BK195.out 2).trans rfl
        have hfz21_0 := blk_frozen BK195.out 0
        have hfz21_1 := blk_frozen BK195.out 1
        have hfz21_2 := blk_frozen BK195.out 2
        go_wp2_with (first | ((with_reducible refine gate_callee (f := 20) rfl ?_); refine goesL_ (some 13) rfl rfl Try.func20 (by kernel_rfl) rfl #[.agg #[.bool t192, .int .i64 t193, .int .i64 t194]] rfl (by (try simp only [List.map_toArray, List.map_cons, List.map_nil]); first | done | rfl | (simp only [List.length_drop, List.length_take]; rfl)) ?_; (with_reducible refine (link_Link_Is.calls t192 t193 t194 true _ A16.out).mono ?_); rintro e w22 ⟨rfl, hb⟩; refine ⟨_, rfl, ?_⟩; have n0_ := Aside0.mk (blk_below (g := gb189) (o := .cells #[.bool a0_0, .int .i64 a0_1, .int .i64 a0_2] 33 (0, 0)) (by (with_reducible repeat (first | refine blk_drewN ?_ _ | refine blk_drew ?_ | refine blk_alloc ?_ _)); refine blk_far ?_ NB189_195.out _; (with_reducible repeat (first | refine blk_drewN ?_ _ | refine blk_drew ?_ | refine blk_alloc ?_ _)); refine blk_far ?_ NB189_195.out _; (with_reducible repeat (first | refine blk_drewN ?_ _ | refine blk_drew ?_ | refine blk_alloc ?_ _)); refine blk_far ?_ NB189_195.out _; (with_reducible repeat (first | refine blk_drewN ?_ _ | refine blk_drew ?_ | refine blk_alloc ?_ _)); exact BK189.out) hb); have n1_ := Aside0.mk (blk_below (g := gb190) (o := .cells #[.bool a1_0, .int .i64 a1_1, .int .i64 a1_2] 33 (0, 0)) (by (with_reducible repeat (first | refine blk_drewN ?_ _ | refine blk_drew ?_ | refine blk_alloc ?_ _)); refine blk_far ?_ NB190_195.out _; (with_reducible repeat (first | refine blk_drewN ?_ _ | refine blk_drew ?_ | refine blk_alloc ?_ _)); refine blk_far ?_ NB190_195.out _; (with_reducible repeat (first | refine blk_drewN ?_ _ | refine blk_drew ?_ | refine blk_alloc ?_ _)); refine blk_far ?_ NB190_195.out _; (with_reducible repeat (first | refine blk_drewN ?_ _ | refine blk_drew ?_ | refine blk_alloc ?_ _)); exact BK190.out) hb); have n2_ := Aside0.mk (blk_below (g := gb195) (o := .cells #[.bool t192, .int .i64 t193, .int .i64 t194] 33 (0, 0)) (by (with_reducible repeat (first | refine blk_drewN ?_ _ | refine blk_drew ?_ | refine blk_alloc ?_ _)); refine blk_put (cs := #[.bool t192, .int .i64 t193, .int .i64 0]) ?_ 2 _ rfl; (with_reducible repeat (first | refine blk_drewN ?_ _ | refine blk_drew ?_ | refine blk_alloc ?_ _)); refine blk_put (cs := #[.bool t192, .int .i64 0, .int .i64 0]) ?_ 1 _ rfl; (with_reducible repeat (first | refine blk_drewN ?_ _ | refine blk_drew ?_ | refine blk_alloc ?_ _)); refine blk_put (cs := #[.bool false, .int .i64 0, .int .i64 0]) ?_ 0 _ rfl; (with_reducible repeat (first | refine blk_drewN ?_ _ | refine blk_drew ?_ | refine blk_alloc ?_ _)); exact BK195.out) hb); have n3_ := Aside0.mk (below_step (by repeat (first | (with_reducible first | exact HB.out | apply below_alloc | apply pw_below_drewN | apply below_drew1 | refine below_set ?_ GE189.out | refine below_set ?_ GE190.out | refine below_set ?_ GE195.out) | exact HB.out)) hb); clear BK189; clear BK190; clear BK195; clear HB; have BK189 := n0_; have BK190 := n1_; have BK195 := n2_; have HB := n3_; clear n0_ n1_ n2_ n3_; (try clear hb); (try clear hb2); (try clear hk); (try clear hi); have hcz23_0 : w22.cell? ⟨gb195, 0, none⟩ = some (.bool t192) := (blk_cell BK195.out 0).trans rfl; have hcz23_1 : w22.cell? ⟨gb195, 1, none⟩ = some (.int .i64 t193) := (blk_cell BK195.out 1).trans rfl; have hcz23_2 : w22.cell? ⟨gb195, 2, none⟩ = some (.int .i64 t194) := (blk_cell BK195.out 2).trans rfl; have hfz23_0 := blk_frozen BK195.out 0; have hfz23_1 := blk_frozen BK195.out 1; have hfz23_2 := blk_frozen BK195.out 2) | (go_at_call 21; (with_reducible refine (link_Link_Word.calls k t192 t193 t194 t197 _ A18.out).mono ?_); rintro e w24 ⟨rfl, hb⟩; have n0_ := Aside0.mk (blk_below (g := gb189) (o := .cells #[.bool a0_0, .int .i64 a0_1, .int .i64 a0_2] 33 (0, 0)) (by (with_reducible repeat (first | refine blk_drewN ?_ _ | refine blk_drew ?_ | refine blk_alloc ?_ _)); exact BK189.out) hb); have n1_ := Aside0.mk (blk_below (g := gb190) (o := .cells #[.bool a1_0, .int .i64 a1_1, .int .i64 a1_2] 33 (0, 0)) (by (with_reducible repeat (first | refine blk_drewN ?_ _ | refine blk_drew ?_ | refine blk_alloc ?_ _)); exact BK190.out) hb); have n2_ := Aside0.mk (blk_below (g := gb195) (o := .cells #[.bool t192, .int .i64 t193, .int .i64 t194] 33 (0, 0)) (by (with_reducible repeat (first | refine blk_drewN ?_ _ | refine blk_drew ?_ | refine blk_alloc ?_ _)); exact BK195.out) hb); have n3_ := Aside0.mk (below_step (by repeat (first | (with_reducible first | exact HB.out | apply below_alloc | apply pw_below_drewN | apply below_drew1 | refine below_set ?_ GE189.out | refine below_set ?_ GE190.out | refine below_set ?_ GE195.out) | exact HB.out)) hb); clear BK189; clear BK190; clear BK195; clear HB; have BK189 := n0_; have BK190 := n1_; have BK195 := n2_; have HB := n3_; clear n0_ n1_ n2_ n3_; (try clear hb); (try clear hb2); (try clear hk); (try clear hi)))
        go_meet
        case rel => exact ⟨_, ((t197 != a2)), (by first | rfl | (simp; done) | (simp [*]; done)), H', ⟨by first | omega | exact Nat.le_refl _⟩, ⟨by (with_reducible repeat (first | refine blk_drewN ?_ _ | refine blk_drew ?_ | refine blk_alloc ?_ _)); exact BK189.out⟩, ⟨by (with_reducible repeat (first | refine blk_drewN ?_ _ | refine blk_drew ?_ | refine blk_alloc ?_ _)); exact BK190.out⟩, ⟨by (with_reducible repeat (first | refine blk_drewN ?_ _ | refine blk_drew ?_ | refine blk_alloc ?_ _)); exact BK195.out⟩, ⟨by repeat (first | (with_reducible first | exact HB.out | apply below_alloc | apply pw_below_drewN | apply below_drew1 | refine below_set ?_ GE189.out | refine below_set ?_ GE190.out | refine below_set ?_ GE195.out) | exact HB.out)⟩⟩
      · replace c17 := Bool.eq_false_iff.mpr c17
        subst c17
        have H1 : (revenantlaw02_LinkBack.j0 k true a0_0 a0_1 a0_2 a1_0 a1_1 a1_2) = some r := by rw [if_neg (show ¬ (false = true) by decide)] at H; exact H
        clear H
        have H := H1
        clear H1
        exact absurd ((revenantlaw02_LinkBack.j0_no H).symm.trans HR.out) (by decide)
    case rest =>
      clear HC7
      try clear c1
      try clear c2
      try clear p2
      try clear c4
      try clear c5
      try clear c13
      try clear c14
      try clear c17
      try clear c19
      try clear c20
      try clear c25
      try clear c26
      try clear hcz15_0
      try clear hcz15_1
      try clear hcz15_2
      try clear hcz21_0
      try clear hcz21_1
      try clear hcz21_2
      try clear hcz23_0
      try clear hcz23_1
      try clear hcz23_2
      try clear hcz27_0
      try clear hcz27_1
      try clear hcz27_2
      try clear hfz15_0
      try clear hfz15_1
      try clear hfz15_2
      try clear hfz21_0
      try clear hfz21_1
      try clear hfz21_2
      try clear hfz23_0
      try clear hfz23_1
      try clear hfz23_2
      try clear hfz27_0
      try clear hfz27_1
      try clear hfz27_2
      obtain ⟨kq, x20_6, rfl, HA, HJ6, BK189, BK190, BK195, HB⟩ := hcut
      cases kq with
      | zero => exact absurd HA.out (by simp [revenantlaw02_LinkBack.j0])
      | succ kj6 =>
        have H := HA.out
        clear HA
        simp only [revenantlaw02_LinkBack.j0] at H
        by_cases c29 : x20_6 = true
        · subst c29
          have H1 : (some false) = some r := by rw [if_pos rfl] at H; exact H
          clear H
          have H := H1
          clear H1
          exact absurd ((Option.some.inj H).trans HR.out) (by decide)
        · replace c29 := Bool.eq_false_iff.mpr c29
          subst c29
          have H1 : ((link_Link_Is.f a0_0 a0_1 a0_2).bind fun t198 => (if t198 = true then ((link_Link_Is.f a1_0 a1_1 a1_2).bind fun t199 => (revenantlaw02_LinkBack.j1 kj6 (!t199) a0_0 a0_1 a0_2 a1_0 a1_1 a1_2)) else (revenantlaw02_LinkBack.j1 kj6 true a0_0 a0_1 a0_2 a1_0 a1_1 a1_2))) = some r := by rw [if_neg (show ¬ (false = true) by decide)] at H; exact H
          clear H
          have H := H1
          clear H1
          have HC30 := Aside0.mk H
          clear H
          go_upto_region 6 with (fail)
          go_cut [28] (fun v28 wc => ∃ (kq : Nat) (x28_29 : Bool), v28 = .bool x28_29 ∧ Aside0 (revenantlaw02_LinkBack.j1 kq x28_29 a0_0 a0_1 a0_2 a1_0 a1_1 a1_2 = some r) ∧ Aside0 (kq ≤ kj6) ∧ Aside0 (wc.heap[gb189]? = some (.cells #[.bool a0_0, .int .i64 a0_1, .int .i64 a0_2] 33 (0, 0))) ∧ Aside0 (wc.heap[gb190]? = some (.cells #[.bool a1_0, .int .i64 a1_1, .int .i64 a1_2] 33 (0, 0))) ∧ Aside0 (wc.heap[gb195]? = some (.cells #[.bool t192, .int .i64 t193, .int .i64 t194] 33 (0, 0))) ∧ Aside0 (Below w.heap.size w wc))
          case first =>
            have H := HC30.out
            clear HC30
            replace H := Option.bind_eq_some_iff.mp H
            obtain ⟨t198, A310, H⟩ := H
            replace H : (if t198 = true then ((link_Link_Is.f a1_0 a1_1 a1_2).bind fun t199 => (revenantlaw02_LinkBack.j1 kj6 (!t199) a0_0 a0_1 a0_2 a1_0 a1_1 a1_2)) else (revenantlaw02_LinkBack.j1 kj6 true a0_0 a0_1 a0_2 a1_0 a1_1 a1_2)) = some r := H
            have A31 := Aside0.mk A310
            clear A310
            by_cases c32 : t198 = true
            · subst c32
              have H1 : ((link_Link_Is.f a1_0 a1_1 a1_2).bind fun t199 => (revenantlaw02_LinkBack.j1 kj6 (!t199) a0_0 a0_1 a0_2 a1_0 a1_1 a1_2)) = some r := by rw [if_pos rfl] at H; exact H
              clear H
              have H := H1
              clear H1
              replace H := Option.bind_eq_some_iff.mp H
              obtain ⟨t199, A330, H⟩ := H
              replace H : (revenantlaw02_LinkBack.j1 kj6 (!t199) a0_0 a0_1 a0_2 a1_0 a1_1 a1_2) = some r := H
              have A33 := Aside0.mk A330
              clear A330
              have H' := Aside0.mk H
              clear H
              have hnb34 := NB189_190.out
              have hnc34 := NB190_189.out
              have hnb35 := NB189_195.out
              have hnc35 := NB195_189.out
              have hcz36_0 : wc.cell? ⟨gb189, 0, none⟩ = some (.bool a0_0) := (blk_cell BK189.out 0).trans rfl
              have hcz36_1 : wc.cell? ⟨gb189, 1, none⟩ = some (.int .i64 a0_1) := (blk_cell BK189.out 1).trans rfl
              have hcz36_2 : wc.cell? ⟨gb189, 2, none⟩ = some (.int .i64 a0_2) := (blk_cell BK189.out 2).trans rfl
              have hfz36_0 := blk_frozen BK189.out 0
              have hfz36_1 := blk_frozen BK189.out 1
              have hfz36_2 := blk_frozen BK189.out 2
              go_wp2_with (first | ((with_reducible refine gate_callee (f := 20) rfl ?_); refine goesL_ (some 22) rfl rfl Try.func20 (by kernel_rfl) rfl #[.agg #[.bool a0_0, .int .i64 a0_1, .int .i64 a0_2]] rfl (by (try simp only [List.map_toArray, List.map_cons, List.map_nil]); first | done | rfl | (simp only [List.length_drop, List.length_take]; rfl)) ?_; (with_reducible refine (link_Link_Is.calls a0_0 a0_1 a0_2 true _ A31.out).mono ?_); rintro e w37 ⟨rfl, hb⟩; refine ⟨_, rfl, ?_⟩; have n0_ := Aside0.mk (blk_below (g := gb189) (o := .cells #[.bool a0_0, .int .i64 a0_1, .int .i64 a0_2] 33 (0, 0)) (by (with_reducible repeat (first | refine blk_drewN ?_ _ | refine blk_drew ?_ | refine blk_alloc ?_ _)); exact BK189.out) hb); have n1_ := Aside0.mk (blk_below (g := gb190) (o := .cells #[.bool a1_0, .int .i64 a1_1, .int .i64 a1_2] 33 (0, 0)) (by (with_reducible repeat (first | refine blk_drewN ?_ _ | refine blk_drew ?_ | refine blk_alloc ?_ _)); exact BK190.out) hb); have n2_ := Aside0.mk (blk_below (g := gb195) (o := .cells #[.bool t192, .int .i64 t193, .int .i64 t194] 33 (0, 0)) (by (with_reducible repeat (first | refine blk_drewN ?_ _ | refine blk_drew ?_ | refine blk_alloc ?_ _)); exact BK195.out) hb); have n3_ := Aside0.mk (below_step (by repeat (first | (with_reducible first | exact HB.out | apply below_alloc | apply pw_below_drewN | apply below_drew1 | refine below_set ?_ GE189.out | refine below_set ?_ GE190.out | refine below_set ?_ GE195.out) | exact HB.out)) hb); clear BK189; clear BK190; clear BK195; clear HB; have BK189 := n0_; have BK190 := n1_; have BK195 := n2_; have HB := n3_; clear n0_ n1_ n2_ n3_; (try clear hb); (try clear hb2); (try clear hk); (try clear hi); have hnb38 := NB190_195.out; have hnc38 := NB195_190.out; have hcz39_0 : w37.cell? ⟨gb190, 0, none⟩ = some (.bool a1_0) := (blk_cell BK190.out 0).trans rfl; have hcz39_1 : w37.cell? ⟨gb190, 1, none⟩ = some (.int .i64 a1_1) := (blk_cell BK190.out 1).trans rfl; have hcz39_2 : w37.cell? ⟨gb190, 2, none⟩ = some (.int .i64 a1_2) := (blk_cell BK190.out 2).trans rfl; have hfz39_0 := blk_frozen BK190.out 0; have hfz39_1 := blk_frozen BK190.out 1; have hfz39_2 := blk_frozen BK190.out 2) | (go_at_call 20; (with_reducible refine (link_Link_Is.calls a1_0 a1_1 a1_2 t199 _ A33.out).mono ?_); rintro e w40 ⟨rfl, hb⟩; have n0_ := Aside0.mk (blk_below (g := gb189) (o := .cells #[.bool a0_0, .int .i64 a0_1, .int .i64 a0_2] 33 (0, 0)) (by (with_reducible repeat (first | refine blk_drewN ?_ _ | refine blk_drew ?_ | refine blk_alloc ?_ _)); exact BK189.out) hb); have n1_ := Aside0.mk (blk_below (g := gb190) (o := .cells #[.bool a1_0, .int .i64 a1_1, .int .i64 a1_2] 33 (0, 0)) (by (with_reducible repeat (first | refine blk_drewN ?_ _ | refine blk_drew ?_ | refine blk_alloc ?_ _)); exact BK190.out) hb); have n2_ := Aside0.mk (blk_below (g := gb195) (o := .cells #[.bool t192, .int .i64 t193, .int .i64 t194] 33 (0, 0)) (by (with_reducible repeat (first | refine blk_drewN ?_ _ | refine blk_drew ?_ | refine blk_alloc ?_ _)); exact BK195.out) hb); have n3_ := Aside0.mk (below_step (by repeat (first | (with_reducible first | exact HB.out | apply below_alloc | apply pw_below_drewN | apply below_drew1 | refine below_set ?_ GE189.out | refine below_set ?_ GE190.out | refine below_set ?_ GE195.out) | exact HB.out)) hb); clear BK189; clear BK190; clear BK195; clear HB; have BK189 := n0_; have BK190 := n1_; have BK195 := n2_; have HB := n3_; clear n0_ n1_ n2_ n3_; (try clear hb); (try clear hb2); (try clear hk); (try clear hi)))
              go_meet
              case rel => exact ⟨_, (!t199), (by first | rfl | (simp; done) | (simp [*]; done)), H', ⟨by have := HJ6.out; first | omega | exact Nat.le_refl _⟩, ⟨by (with_reducible repeat (first | refine blk_drewN ?_ _ | refine blk_drew ?_ | refine blk_alloc ?_ _)); exact BK189.out⟩, ⟨by (with_reducible repeat (first | refine blk_drewN ?_ _ | refine blk_drew ?_ | refine blk_alloc ?_ _)); exact BK190.out⟩, ⟨by (with_reducible repeat (first | refine blk_drewN ?_ _ | refine blk_drew ?_ | refine blk_alloc ?_ _)); exact BK195.out⟩, ⟨by repeat (first | (with_reducible first | exact HB.out | apply below_alloc | apply pw_below_drewN | apply below_drew1 | refine below_set ?_ GE189.out | refine below_set ?_ GE190.out | refine below_set ?_ GE195.out) | exact HB.out)⟩⟩
            · replace c32 := Bool.eq_false_iff.mpr c32
              subst c32
              have H1 : (revenantlaw02_LinkBack.j1 kj6 true a0_0 a0_1 a0_2 a1_0 a1_1 a1_2) = some r := by rw [if_neg (show ¬ (false = true) by decide)] at H; exact H
              clear H
              have H := H1
              clear H1
              have H' := Aside0.mk H
              clear H
              have hnb41 := NB189_190.out
              have hnc41 := NB190_189.out
              have hnb42 := NB189_195.out
              have hnc42 := NB195_189.out
              have hcz43_0 : wc.cell? ⟨gb189, 0, none⟩ = some (.bool a0_0) := (blk_cell BK189.out 0).trans rfl
              have hcz43_1 : wc.cell? ⟨gb189, 1, none⟩ = some (.int .i64 a0_1) := (blk_cell BK189.out 1).trans rfl
              have hcz43_2 : wc.cell? ⟨gb189, 2, none⟩ = some (.int .i64 a0_2) := (blk_cell BK189.out 2).trans rfl
              have hfz43_0 := blk_frozen BK189.out 0
              have hfz43_1 := blk_frozen BK189.out 1
              have hfz43_2 := blk_frozen BK189.out 2
              go_wp2_with (first | ((with_reducible refine gate_callee (f := 20) rfl ?_); refine goesL_ (some 22) rfl rfl Try.func20 (by kernel_rfl) rfl #[.agg #[.bool a0_0, .int .i64 a0_1, .int .i64 a0_2]] rfl (by (try simp only [List.map_toArray, List.map_cons, List.map_nil]); first | done | rfl | (simp only [List.length_drop, List.length_take]; rfl)) ?_; (with_reducible refine (link_Link_Is.calls a0_0 a0_1 a0_2 false _ A31.out).mono ?_); rintro e w44 ⟨rfl, hb⟩; refine ⟨_, rfl, ?_⟩; have n0_ := Aside0.mk (blk_below (g := gb189) (o := .cells #[.bool a0_0, .int .i64 a0_1, .int .i64 a0_2] 33 (0, 0)) (by (with_reducible repeat (first | refine blk_drewN ?_ _ | refine blk_drew ?_ | refine blk_alloc ?_ _)); exact BK189.out) hb); have n1_ := Aside0.mk (blk_below (g := gb190) (o := .cells #[.bool a1_0, .int .i64 a1_1, .int .i64 a1_2] 33 (0, 0)) (by (with_reducible repeat (first | refine blk_drewN ?_ _ | refine blk_drew ?_ | refine blk_alloc ?_ _)); exact BK190.out) hb); have n2_ := Aside0.mk (blk_below (g := gb195) (o := .cells #[.bool t192, .int .i64 t193, .int .i64 t194] 33 (0, 0)) (by (with_reducible repeat (first | refine blk_drewN ?_ _ | refine blk_drew ?_ | refine blk_alloc ?_ _)); exact BK195.out) hb); have n3_ := Aside0.mk (below_step (by repeat (first | (with_reducible first | exact HB.out | apply below_alloc | apply pw_below_drewN | apply below_drew1 | refine below_set ?_ GE189.out | refine below_set ?_ GE190.out | refine below_set ?_ GE195.out) | exact HB.out)) hb); clear BK189; clear BK190; clear BK195; clear HB; have BK189 := n0_; have BK190 := n1_; have BK195 := n2_; have HB := n3_; clear n0_ n1_ n2_ n3_; (try clear hb); (try clear hb2); (try clear hk); (try clear hi)))
              go_meet
              case rel => exact ⟨_, (true), (by first | rfl | (simp; done) | (simp [*]; done)), H', ⟨by have := HJ6.out; first | omega | exact Nat.le_refl _⟩, ⟨by (with_reducible repeat (first | refine blk_drewN ?_ _ | refine blk_drew ?_ | refine blk_alloc ?_ _)); exact BK189.out⟩, ⟨by (with_reducible repeat (first | refine blk_drewN ?_ _ | refine blk_drew ?_ | refine blk_alloc ?_ _)); exact BK190.out⟩, ⟨by (with_reducible repeat (first | refine blk_drewN ?_ _ | refine blk_drew ?_ | refine blk_alloc ?_ _)); exact BK195.out⟩, ⟨by repeat (first | (with_reducible first | exact HB.out | apply below_alloc | apply pw_below_drewN | apply below_drew1 | refine below_set ?_ GE189.out | refine below_set ?_ GE190.out | refine below_set ?_ GE195.out) | exact HB.out)⟩⟩
          case rest =>
            clear HC30
            try clear c1
            try clear c2
            try clear p2
            try clear c3
            try clear c4
            try clear c5
            try clear c13
            try clear c14
            try clear c17
            try clear c19
            try clear c20
            try clear c25
            try clear c26
            try clear c29
            try clear c32
            try clear c34
            try clear c35
            try clear c38
            try clear c41
            try clear c42
            try clear hcz15_0
            try clear hcz15_1
            try clear hcz15_2
            try clear hcz21_0
            try clear hcz21_1
            try clear hcz21_2
            try clear hcz23_0
            try clear hcz23_1
            try clear hcz23_2
            try clear hcz27_0
            try clear hcz27_1
            try clear hcz27_2
            try clear hcz36_0
            try clear hcz36_1
            try clear hcz36_2
            try clear hcz39_0
            try clear hcz39_1
            try clear hcz39_2
            try clear hcz43_0
            try clear hcz43_1
            try clear hcz43_2
            try clear hfz15_0
            try clear hfz15_1
            try clear hfz15_2
            try clear hfz21_0
            try clear hfz21_1
            try clear hfz21_2
            try clear hfz23_0
            try clear hfz23_1
            try clear hfz23_2
            try clear hfz27_0
            try clear hfz27_1
            try clear hfz27_2
            try clear hfz36_0
            try clear hfz36_1
            try clear hfz36_2
            try clear hfz39_0
            try clear hfz39_1
            try clear hfz39_2
            try clear hfz43_0
            try clear hfz43_1
            try clear hfz43_2
            try clear p2
            obtain ⟨kq, x28_29, rfl, HA, HJ29, BK189, BK190, BK195, HB⟩ := hcut
            cases kq with
            | zero => exact absurd HA.out (by simp [revenantlaw02_LinkBack.j1])
            | succ kj29 =>
              have H := HA.out
              clear HA
              simp only [revenantlaw02_LinkBack.j1] at H
              by_cases c45 : x28_29 = true
              · subst c45
                have H1 : (some true) = some r := by rw [if_pos rfl] at H; exact H
                clear H
                have H := H1
                clear H1
                obtain rfl := Option.some.inj H
                go_wp2
                go_ret
                exact ⟨by first | rfl | (simp [errW_none, errW_some] <;> rfl) | (simp [*, errW_none, errW_some] <;> rfl), by repeat (first | (with_reducible first | exact HB.out | apply below_alloc | apply pw_below_drewN | apply below_drew1 | refine below_set ?_ GE189.out | refine below_set ?_ GE190.out | refine below_set ?_ GE195.out) | exact HB.out)⟩
              · replace c45 := Bool.eq_false_iff.mpr c45
                subst c45
                have H1 : ((link_Link_Word.f kj29 a0_0 a0_1 a0_2).bind fun t200 => ((link_Of.f kj29 t200).bind fun bt201 => (if (bt201.1 == a0_0 && (bt201.2.1 == a0_1 && (bt201.2.2 == a0_2))) = true then ((link_Link_Word.f kj29 a0_0 a0_1 a0_2).bind fun t204 => ((link_Link_Word.f kj29 a1_0 a1_1 a1_2).bind fun t205 => (some ((t204 == t205) == (a0_0 == a1_0 && (a0_1 == a1_1 && (a0_2 == a1_2))))))) else (some false)))) = some r := by rw [if_neg (show ¬ (false = true) by decide)] at H; exact H
                clear H
                have H := H1
                clear H1
                replace H := Option.bind_eq_some_iff.mp H
                obtain ⟨t200, A460, H⟩ := H
                replace H : ((link_Of.f kj29 t200).bind fun bt201 => (if (bt201.1 == a0_0 && (bt201.2.1 == a0_1 && (bt201.2.2 == a0_2))) = true then ((link_Link_Word.f kj29 a0_0 a0_1 a0_2).bind fun t204 => ((link_Link_Word.f kj29 a1_0 a1_1 a1_2).bind fun t205 => (some ((t204 == t205) == (a0_0 == a1_0 && (a0_1 == a1_1 && (a0_2 == a1_2))))))) else (some false))) = some r := H
                have A46 := Aside0.mk A460
                clear A460
                replace H := Option.bind_eq_some_iff.mp H
                obtain ⟨⟨t201, t202, t203⟩, A470, H⟩ := H
                replace H : (if (t201 == a0_0 && (t202 == a0_1 && (t203 == a0_2))) = true then ((link_Link_Word.f kj29 a0_0 a0_1 a0_2).bind fun t204 => ((link_Link_Word.f kj29 a1_0 a1_1 a1_2).bind fun t205 => (some ((t204 == t205) == (a0_0 == a1_0 && (a0_1 == a1_1 && (a0_2 == a1_2))))))) else (some false)) = some r := H
                have A47 := Aside0.mk A470
                clear A470
                by_cases c48 : (t201 == a0_0 && (t202 == a0_1 && (t203 == a0_2))) = true
                · rw [if_pos c48] at H
                  have c48b0 : (t201 == a0_0 && (t202 == a0_1 && (t203 == a0_2))) = true := c48
                  (try (have c48b1 : decide (t201 = a0_0 && (t202 == a0_1 && (t203 == a0_2))) = true := by simpa using c48))
                  (try (have c48b2 : (t201 == a0_0 && (t202 == a0_1 && (t203 == a0_2))) = true := by simpa using c48))
                  clear c48
                  replace H := Option.bind_eq_some_iff.mp H
                  obtain ⟨t204, A490, H⟩ := H
                  replace H : ((link_Link_Word.f kj29 a1_0 a1_1 a1_2).bind fun t205 => (some ((t204 == t205) == (a0_0 == a1_0 && (a0_1 == a1_1 && (a0_2 == a1_2)))))) = some r := H
                  have A49 := Aside0.mk A490
                  clear A490
                  replace H := Option.bind_eq_some_iff.mp H
                  obtain ⟨t205, A500, H⟩ := H
                  replace H : (some ((t204 == t205) == (a0_0 == a1_0 && (a0_1 == a1_1 && (a0_2 == a1_2))))) = some r := H
                  have A50 := Aside0.mk A500
                  clear A500
                  obtain rfl := Option.some.inj H
                  try go_wp2
                  have n0_ := Aside0.mk (blk_drew BK189.out)
                  have n1_ := Aside0.mk (blk_drew BK190.out)
                  have n2_ := Aside0.mk (blk_drew BK195.out)
                  have n3_ := Aside0.mk (below_drew1 HB.out)
                  clear BK189
                  clear BK190
                  clear BK195
                  clear HB
                  have BK189 := n0_
                  have BK190 := n1_
                  have BK195 := n2_
                  have HB := n3_
                  clear n0_ n1_ n2_ n3_
                  refine start_ (n := 17) (S := fun w' => w'.cell? ⟨gb189, 0, none⟩ = some (.bool a0_0) ∧ w'.cell? ⟨gb189, 1, none⟩ = some (.int .i64 a0_1) ∧ w'.cell? ⟨gb189, 2, none⟩ = some (.int .i64 a0_2) ∧ w'.cell? ⟨gb190, 0, none⟩ = some (.bool a1_0) ∧ w'.cell? ⟨gb190, 1, none⟩ = some (.int .i64 a1_1) ∧ w'.cell? ⟨gb190, 2, none⟩ = some (.int .i64 a1_2)) (ds := []) #[false, false, false, false, false, false, false, false, false, false, false, false, false, false, false, false, false] (by kernel_rfl) rfl rfl ⟨(blk_cell BK189.out 0).trans rfl, (blk_cell BK189.out 1).trans rfl, (blk_cell BK189.out 2).trans rfl, (blk_cell BK190.out 0).trans rfl, (blk_cell BK190.out 1).trans rfl, (blk_cell BK190.out 2).trans rfl⟩ (fun hHeld => ?_); refine with_tabW revenantlaw02_LinkBack.tab8 revenantlaw02_LinkBack.bits8 (fun HT_ HW_ => ?_)
                  generalize wc.drew = w51 at BK189 BK190 BK195 HB hHeld ⊢
                  refine take_ (i := 0) (N := some 29) (v := ?_) (a' := ?_) #[true, false, false, false, false, false, false, false, false, false, false, false, false, false, false, false, false] rfl rfl (take_ofW HT_.out HW_.out (by kernel_rfl)) (fun _ _ _ h => h) (Or.inl ⟨by rfl, ?_⟩) hHeld ?_ ?_
                  rotate_left
                  · rintro w' ⟨s0, s1, s2, s3, s4, s5⟩
                    go_simp
                    with_reducible rfl
                  rotate_left
                  · simp only [Act.put, List.setIfInBounds_toArray, List.set_cons_zero, List.set_cons_succ, i64_w, i32_w]
                    rfl
                  refine take_ (i := 3) (N := some 32) (v := ?_) (a' := ?_) #[true, false, false, true, false, false, false, false, false, false, false, false, false, false, false, false, false] rfl rfl (take_ofW HT_.out HW_.out (by kernel_rfl)) (fun _ _ _ h => h) (Or.inl ⟨by rfl, ?_⟩) hHeld ?_ ?_
                  rotate_left
                  · rintro w' ⟨s0, s1, s2, s3, s4, s5⟩
                    go_simp
                    with_reducible rfl
                  rotate_left
                  · simp only [Act.put, List.setIfInBounds_toArray, List.set_cons_zero, List.set_cons_succ, i64_w, i32_w]
                    rfl
                  refine one_ (i := 1) (N := some 30) #[true, true, false, true, false, false, false, false, false, false, false, false, false, false, false, false, false] rfl rfl (one_of HT_.out (by kernel_rfl)) (by decide) (fun K hK => ?_)
                  refine goes_ Try.func21 (by kernel_rfl) rfl #[.agg #[.bool a0_0, .int .i64 a0_1, .int .i64 a0_2]] (by rfl) rfl rfl (by (try simp only [List.map_toArray, List.map_cons, List.map_nil]); first | done | rfl | (simp only [List.length_drop, List.length_take]; rfl)) ?_
                  with_reducible refine (link_Link_Word.calls kj29 a0_0 a0_1 a0_2 t200 _ A46.out).mono ?_
                  rintro e w52 ⟨rfl, hb⟩
                  refine ⟨_, rfl, ?_⟩
                  have n0_ := Aside0.mk (blk_below (g := gb189) (o := .cells #[.bool a0_0, .int .i64 a0_1, .int .i64 a0_2] 33 (0, 0)) (by (with_reducible repeat (first | refine blk_drewN ?_ _ | refine blk_drew ?_ | refine blk_alloc ?_ _)); exact BK189.out) hb)
                  have n1_ := Aside0.mk (blk_below (g := gb190) (o := .cells #[.bool a1_0, .int .i64 a1_1, .int .i64 a1_2] 33 (0, 0)) (by (with_reducible repeat (first | refine blk_drewN ?_ _ | refine blk_drew ?_ | refine blk_alloc ?_ _)); exact BK190.out) hb)
                  have n2_ := Aside0.mk (blk_below (g := gb195) (o := .cells #[.bool t192, .int .i64 t193, .int .i64 t194] 33 (0, 0)) (by (with_reducible repeat (first | refine blk_drewN ?_ _ | refine blk_drew ?_ | refine blk_alloc ?_ _)); exact BK195.out) hb)
                  have n3_ := Aside0.mk (below_step (by repeat (first | (with_reducible first | exact HB.out | apply below_alloc | apply pw_below_drewN | apply below_drew1 | refine below_set ?_ GE189.out | refine below_set ?_ GE190.out | refine below_set ?_ GE195.out) | exact HB.out)) hb)
                  clear BK189
                  clear BK190
                  clear BK195
                  clear HB
                  have BK189 := n0_
                  have BK190 := n1_
                  have BK195 := n2_
                  have HB := n3_
                  clear n0_ n1_ n2_ n3_
                  (try clear hb)
                  (try clear hb2)
                  (try clear hk)
                  (try clear hi)
                  refine hK.out _ _ ⟨(blk_cell BK189.out 0).trans rfl, (blk_cell BK189.out 1).trans rfl, (blk_cell BK189.out 2).trans rfl, (blk_cell BK190.out 0).trans rfl, (blk_cell BK190.out 1).trans rfl, (blk_cell BK190.out 2).trans rfl⟩ (fun hHeld => ?_)
                  clear hK K
                  refine norm_ (a' := ?_) ?_ ?_
                  rotate_left
                  · show Act.put _ (some 30) _ = _
                    simp only [Act.put, List.setIfInBounds_toArray, List.set_cons_zero, List.set_cons_succ, i64_w, i32_w]
                    rfl
                  refine one_ (i := 2) (N := some 31) #[true, true, true, true, false, false, false, false, false, false, false, false, false, false, false, false, false] rfl rfl (one_of HT_.out (by kernel_rfl)) (by decide) (fun K hK => ?_)
                  refine goes_ Try.func19 (by kernel_rfl) rfl #[.int .u64 t200] (by rfl) rfl rfl (by (try simp only [List.map_toArray, List.map_cons, List.map_nil]); first | done | rfl | (simp only [List.length_drop, List.length_take]; rfl)) ?_
                  with_reducible refine (link_Of.calls kj29 t200 t201 t202 t203 _ A47.out).mono ?_
                  rintro e w53 ⟨rfl, hb⟩
                  refine ⟨_, rfl, ?_⟩
                  have n0_ := Aside0.mk (blk_below (g := gb189) (o := .cells #[.bool a0_0, .int .i64 a0_1, .int .i64 a0_2] 33 (0, 0)) (by (with_reducible repeat (first | refine blk_drewN ?_ _ | refine blk_drew ?_ | refine blk_alloc ?_ _)); exact BK189.out) hb)
                  have n1_ := Aside0.mk (blk_below (g := gb190) (o := .cells #[.bool a1_0, .int .i64 a1_1, .int .i64 a1_2] 33 (0, 0)) (by (with_reducible repeat (first | refine blk_drewN ?_ _ | refine blk_drew ?_ | refine blk_alloc ?_ _)); exact BK190.out) hb)
                  have n2_ := Aside0.mk (blk_below (g := gb195) (o := .cells #[.bool t192, .int .i64 t193, .int .i64 t194] 33 (0, 0)) (by (with_reducible repeat (first | refine blk_drewN ?_ _ | refine blk_drew ?_ | refine blk_alloc ?_ _)); exact BK195.out) hb)
                  have n3_ := Aside0.mk (below_step (by repeat (first | (with_reducible first | exact HB.out | apply below_alloc | apply pw_below_drewN | apply below_drew1 | refine below_set ?_ GE189.out | refine below_set ?_ GE190.out | refine below_set ?_ GE195.out) | exact HB.out)) hb)
                  clear BK189
                  clear BK190
                  clear BK195
                  clear HB
                  have BK189 := n0_
                  have BK190 := n1_
                  have BK195 := n2_
                  have HB := n3_
                  clear n0_ n1_ n2_ n3_
                  (try clear hb)
                  (try clear hb2)
                  (try clear hk)
                  (try clear hi)
                  refine hK.out _ _ ⟨(blk_cell BK189.out 0).trans rfl, (blk_cell BK189.out 1).trans rfl, (blk_cell BK189.out 2).trans rfl, (blk_cell BK190.out 0).trans rfl, (blk_cell BK190.out 1).trans rfl, (blk_cell BK190.out 2).trans rfl⟩ (fun hHeld => ?_)
                  clear hK K
                  refine norm_ (a' := ?_) ?_ ?_
                  rotate_left
                  · show Act.put _ (some 31) _ = _
                    simp only [Act.put, List.setIfInBounds_toArray, List.set_cons_zero, List.set_cons_succ, i64_w, i32_w]
                    rfl
                  refine pure_ (i := 4) (N := some 33) (v := ?_) (a' := ?_) #[true, true, true, true, true, false, false, false, false, false, false, false, false, false, false, false, false] rfl rfl (any_of HT_.out (by kernel_rfl)) (fun _ _ _ h => h) (Or.inl ⟨by rfl, ?_⟩) ?_ ?_
                  rotate_left
                  · intro w'
                    go_simp
                    with_reducible rfl
                  rotate_left
                  · simp only [Act.put, List.setIfInBounds_toArray, List.set_cons_zero, List.set_cons_succ, i64_w, i32_w]
                    rfl
                  refine pure_ (i := 5) (N := some 34) (v := ?_) (a' := ?_) #[true, true, true, true, true, true, false, false, false, false, false, false, false, false, false, false, false] rfl rfl (any_of HT_.out (by kernel_rfl)) (fun _ _ _ h => h) (Or.inl ⟨by rfl, ?_⟩) ?_ ?_
                  rotate_left
                  · intro w'
                    go_simp
                    with_reducible rfl
                  rotate_left
                  · simp only [Act.put, List.setIfInBounds_toArray, List.set_cons_zero, List.set_cons_succ, i64_w, i32_w]
                    rfl
                  refine take_ (i := 6) (N := some 35) (v := ?_) (a' := ?_) #[true, true, true, true, true, true, true, false, false, false, false, false, false, false, false, false, false] rfl rfl (take_ofW HT_.out HW_.out (by kernel_rfl)) (fun _ _ _ h => h) (Or.inl ⟨by rfl, ?_⟩) hHeld ?_ ?_
                  rotate_left
                  · rintro w' ⟨s0, s1, s2, s3, s4, s5⟩
                    go_simp
                    with_reducible rfl
                  rotate_left
                  · simp only [Act.put, List.setIfInBounds_toArray, List.set_cons_zero, List.set_cons_succ, i64_w, i32_w]
                    rfl
                  refine take_ (i := 8) (N := some 37) (v := ?_) (a' := ?_) #[true, true, true, true, true, true, true, false, true, false, false, false, false, false, false, false, false] rfl rfl (take_ofW HT_.out HW_.out (by kernel_rfl)) (fun _ _ _ h => h) (Or.inl ⟨by rfl, ?_⟩) hHeld ?_ ?_
                  rotate_left
                  · rintro w' ⟨s0, s1, s2, s3, s4, s5⟩
                    go_simp
                    with_reducible rfl
                  rotate_left
                  · simp only [Act.put, List.setIfInBounds_toArray, List.set_cons_zero, List.set_cons_succ, i64_w, i32_w]
                    rfl
                  refine take_ (i := 11) (N := some 40) (v := ?_) (a' := ?_) #[true, true, true, true, true, true, true, false, true, false, false, true, false, false, false, false, false] rfl rfl (take_ofW HT_.out HW_.out (by kernel_rfl)) (fun _ _ _ h => h) (Or.inl ⟨by rfl, ?_⟩) hHeld ?_ ?_
                  rotate_left
                  · rintro w' ⟨s0, s1, s2, s3, s4, s5⟩
                    go_simp
                    with_reducible rfl
                  rotate_left
                  · simp only [Act.put, List.setIfInBounds_toArray, List.set_cons_zero, List.set_cons_succ, i64_w, i32_w]
                    rfl
                  refine take_ (i := 12) (N := some 41) (v := ?_) (a' := ?_) #[true, true, true, true, true, true, true, false, true, false, false, true, true, false, false, false, false] rfl rfl (take_ofW HT_.out HW_.out (by kernel_rfl)) (fun _ _ _ h => h) (Or.inl ⟨by rfl, ?_⟩) hHeld ?_ ?_
                  rotate_left
                  · rintro w' ⟨s0, s1, s2, s3, s4, s5⟩
                    go_simp
                    with_reducible rfl
                  rotate_left
                  · simp only [Act.put, List.setIfInBounds_toArray, List.set_cons_zero, List.set_cons_succ, i64_w, i32_w]
                    rfl
                  refine pure_ (i := 13) (N := some 42) (v := ?_) (a' := ?_) #[true, true, true, true, true, true, true, false, true, false, false, true, true, true, false, false, false] rfl rfl (any_of HT_.out (by kernel_rfl)) (fun _ _ _ h => h) (Or.inl ⟨by rfl, ?_⟩) ?_ ?_
                  rotate_left
                  · intro w'
                    go_simp
                    with_reducible rfl
                  rotate_left
                  · simp only [Act.put, List.setIfInBounds_toArray, List.set_cons_zero, List.set_cons_succ, i64_w, i32_w]
                    rfl
                  refine one_ (i := 7) (N := some 36) #[true, true, true, true, true, true, true, true, true, false, false, true, true, true, false, false, false] rfl rfl (one_of HT_.out (by kernel_rfl)) (by decide) (fun K hK => ?_)
                  refine goes_ Try.func21 (by kernel_rfl) rfl #[.agg #[.bool a0_0, .int .i64 a0_1, .int .i64 a0_2]] (by rfl) rfl rfl (by (try simp only [List.map_toArray, List.map_cons, List.map_nil]); first | done | rfl | (simp only [List.length_drop, List.length_take]; rfl)) ?_
                  with_reducible refine (link_Link_Word.calls kj29 a0_0 a0_1 a0_2 t204 _ A49.out).mono ?_
                  rintro e w54 ⟨rfl, hb⟩
                  refine ⟨_, rfl, ?_⟩
                  have n0_ := Aside0.mk (blk_below (g := gb189) (o := .cells #[.bool a0_0, .int .i64 a0_1, .int .i64 a0_2] 33 (0, 0)) (by (with_reducible repeat (first | refine blk_drewN ?_ _ | refine blk_drew ?_ | refine blk_alloc ?_ _)); exact BK189.out) hb)
                  have n1_ := Aside0.mk (blk_below (g := gb190) (o := .cells #[.bool a1_0, .int .i64 a1_1, .int .i64 a1_2] 33 (0, 0)) (by (with_reducible repeat (first | refine blk_drewN ?_ _ | refine blk_drew ?_ | refine blk_alloc ?_ _)); exact BK190.out) hb)
                  have n2_ := Aside0.mk (blk_below (g := gb195) (o := .cells #[.bool t192, .int .i64 t193, .int .i64 t194] 33 (0, 0)) (by (with_reducible repeat (first | refine blk_drewN ?_ _ | refine blk_drew ?_ | refine blk_alloc ?_ _)); exact BK195.out) hb)
                  have n3_ := Aside0.mk (below_step (by repeat (first | (with_reducible first | exact HB.out | apply below_alloc | apply pw_below_drewN | apply below_drew1 | refine below_set ?_ GE189.out | refine below_set ?_ GE190.out | refine below_set ?_ GE195.out) | exact HB.out)) hb)
                  clear BK189
                  clear BK190
                  clear BK195
                  clear HB
                  have BK189 := n0_
                  have BK190 := n1_
                  have BK195 := n2_
                  have HB := n3_
                  clear n0_ n1_ n2_ n3_
                  (try clear hb)
                  (try clear hb2)
                  (try clear hk)
                  (try clear hi)
                  refine hK.out _ _ ⟨(blk_cell BK189.out 0).trans rfl, (blk_cell BK189.out 1).trans rfl, (blk_cell BK189.out 2).trans rfl, (blk_cell BK190.out 0).trans rfl, (blk_cell BK190.out 1).trans rfl, (blk_cell BK190.out 2).trans rfl⟩ (fun hHeld => ?_)
                  clear hK K
                  refine norm_ (a' := ?_) ?_ ?_
                  rotate_left
                  · show Act.put _ (some 36) _ = _
                    simp only [Act.put, List.setIfInBounds_toArray, List.set_cons_zero, List.set_cons_succ, i64_w, i32_w]
                    rfl
                  refine one_ (i := 9) (N := some 38) #[true, true, true, true, true, true, true, true, true, true, false, true, true, true, false, false, false] rfl rfl (one_of HT_.out (by kernel_rfl)) (by decide) (fun K hK => ?_)
                  refine goes_ Try.func21 (by kernel_rfl) rfl #[.agg #[.bool a1_0, .int .i64 a1_1, .int .i64 a1_2]] (by rfl) rfl rfl (by (try simp only [List.map_toArray, List.map_cons, List.map_nil]); first | done | rfl | (simp only [List.length_drop, List.length_take]; rfl)) ?_
                  with_reducible refine (link_Link_Word.calls kj29 a1_0 a1_1 a1_2 t205 _ A50.out).mono ?_
                  rintro e w55 ⟨rfl, hb⟩
                  refine ⟨_, rfl, ?_⟩
                  have n0_ := Aside0.mk (blk_below (g := gb189) (o := .cells #[.bool a0_0, .int .i64 a0_1, .int .i64 a0_2] 33 (0, 0)) (by (with_reducible repeat (first | refine blk_drewN ?_ _ | refine blk_drew ?_ | refine blk_alloc ?_ _)); exact BK189.out) hb)
                  have n1_ := Aside0.mk (blk_below (g := gb190) (o := .cells #[.bool a1_0, .int .i64 a1_1, .int .i64 a1_2] 33 (0, 0)) (by (with_reducible repeat (first | refine blk_drewN ?_ _ | refine blk_drew ?_ | refine blk_alloc ?_ _)); exact BK190.out) hb)
                  have n2_ := Aside0.mk (blk_below (g := gb195) (o := .cells #[.bool t192, .int .i64 t193, .int .i64 t194] 33 (0, 0)) (by (with_reducible repeat (first | refine blk_drewN ?_ _ | refine blk_drew ?_ | refine blk_alloc ?_ _)); exact BK195.out) hb)
                  have n3_ := Aside0.mk (below_step (by repeat (first | (with_reducible first | exact HB.out | apply below_alloc | apply pw_below_drewN | apply below_drew1 | refine below_set ?_ GE189.out | refine below_set ?_ GE190.out | refine below_set ?_ GE195.out) | exact HB.out)) hb)
                  clear BK189
                  clear BK190
                  clear BK195
                  clear HB
                  have BK189 := n0_
                  have BK190 := n1_
                  have BK195 := n2_
                  have HB := n3_
                  clear n0_ n1_ n2_ n3_
                  (try clear hb)
                  (try clear hb2)
                  (try clear hk)
                  (try clear hi)
                  refine hK.out _ _ ⟨(blk_cell BK189.out 0).trans rfl, (blk_cell BK189.out 1).trans rfl, (blk_cell BK189.out 2).trans rfl, (blk_cell BK190.out 0).trans rfl, (blk_cell BK190.out 1).trans rfl, (blk_cell BK190.out 2).trans rfl⟩ (fun hHeld => ?_)
                  clear hK K
                  refine norm_ (a' := ?_) ?_ ?_
                  rotate_left
                  · show Act.put _ (some 38) _ = _
                    simp only [Act.put, List.setIfInBounds_toArray, List.set_cons_zero, List.set_cons_succ, i64_w, i32_w]
                    rfl
                  refine pure_ (i := 10) (N := some 39) (v := ?_) (a' := ?_) #[true, true, true, true, true, true, true, true, true, true, true, true, true, true, false, false, false] rfl rfl (any_of HT_.out (by kernel_rfl)) (fun _ _ _ h => h) (Or.inl ⟨by rfl, ?_⟩) ?_ ?_
                  rotate_left
                  · intro w'
                    go_simp
                    with_reducible rfl
                  rotate_left
                  · simp only [Act.put, List.setIfInBounds_toArray, List.set_cons_zero, List.set_cons_succ, i64_w, i32_w]
                    rfl
                  refine pure_ (i := 14) (N := some 43) (v := ?_) (a' := ?_) #[true, true, true, true, true, true, true, true, true, true, true, true, true, true, true, false, false] rfl rfl (any_of HT_.out (by kernel_rfl)) (fun _ _ _ h => h) (Or.inl ⟨by rfl, ?_⟩) ?_ ?_
                  rotate_left
                  · intro w'
                    go_simp
                    with_reducible rfl
                  rotate_left
                  · simp only [Act.put, List.setIfInBounds_toArray, List.set_cons_zero, List.set_cons_succ, i64_w, i32_w]
                    rfl
                  refine pure_ (i := 15) (N := some 44) (v := ?_) (a' := ?_) #[true, true, true, true, true, true, true, true, true, true, true, true, true, true, true, true, false] rfl rfl (any_of HT_.out (by kernel_rfl)) (fun _ _ _ h => h) (Or.inl ⟨by rfl, ?_⟩) ?_ ?_
                  rotate_left
                  · intro w'
                    go_simp
                    with_reducible rfl
                  rotate_left
                  · simp only [Act.put, List.setIfInBounds_toArray, List.set_cons_zero, List.set_cons_succ, i64_w, i32_w]
                    rfl
                  refine pure_ (i := 16) (N := some 6) (v := ?_) (a' := ?_) #[true, true, true, true, true, true, true, true, true, true, true, true, true, true, true, true, true] rfl rfl (any_of HT_.out (by kernel_rfl)) (fun _ _ _ h => h) (Or.inl ⟨by rfl, ?_⟩) ?_ ?_
                  rotate_left
                  · intro w'
                    go_simp
                    with_reducible rfl
                  rotate_left
                  · simp only [Act.put, List.setIfInBounds_toArray, List.set_cons_zero, List.set_cons_succ, i64_w, i32_w]
                    rfl
                  refine done_ (done_of HT_.out (by kernel_rfl)) ?_
                  try go_wp2
                  go_ret
                  exact ⟨by first | rfl | (simp [errW_none, errW_some] <;> rfl) | (simp [*, errW_none, errW_some] <;> rfl), by repeat (first | (with_reducible first | exact HB.out | apply below_alloc | apply pw_below_drewN | apply below_drew1 | refine below_set ?_ GE189.out | refine below_set ?_ GE190.out | refine below_set ?_ GE195.out) | exact HB.out)⟩
                · rw [if_neg c48] at H
                  have c48b0 : (t201 == a0_0 && (t202 == a0_1 && (t203 == a0_2))) = false := by simpa using c48
                  (try (have c48b1 : decide (t201 = a0_0 && (t202 == a0_1 && (t203 == a0_2))) = false := by simpa using c48))
                  (try (have c48b2 : (t201 == a0_0 && (t202 == a0_1 && (t203 == a0_2))) = false := by simpa using c48))
                  (try (have c48b3 : ¬ (t201 = a0_0 && (t202 == a0_1 && (t203 == a0_2))) := by simpa using c48))
                  clear c48
                  exact absurd ((Option.some.inj H).trans HR.out) (by decide)
  · replace c5 := Bool.eq_false_iff.mpr c5
    subst c5
    have H1 : (some false) = some r := by rw [if_neg (show ¬ (false = true) by decide)] at H; exact H
    clear H
    have H := H1
    clear H1
    exact absurd ((Option.some.inj H).trans HR.out) (by decide)

end Go.Proofs.Ythdimjpofkapfaa.PLinkExact
