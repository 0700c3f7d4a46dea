import Derived.Test.YtinmmnljicmppaaDoorVTalePb
import Derived.Test.YtinmmnljicmppaaDoorVPTaleApartx0
/- Words of this proof. -/
namespace Go.Proofs.YtinmmnljicmppaaDoor.PTaleApart
open Go.RowKit Go.Proofs.YtinmmnljicmppaaDoorW.PrintWords Go.Proofs.YtinmmnljicmppaaDoorW.PrintLast Go.Proofs.YtinmmnljicmppaaDoorW.PrintMore Go.Proofs.YtinmmnljicmppaaDoor.Str
attribute [local go_sem] max2_int min2_int max_two min_two max_three min_three max_four min_four
set_option linter.unusedVariables false
set_option linter.unusedSimpArgs false
def script_ops.l0 : Nat → Int → List (S33) → Int → Int → Int → Int → Int → Int → Int → Option (Int × Int × Int)
 | 0, _, _, _, _, _, _, _, _, _ => none
 | k + 1, x1, x15, x16, x17, x286000, x286001, x286002, x286003, x286004 => if x17 < x16 then (if 0 ≤ x17 then (if x17 < (x15.length : Int) then ((conf_IsOp.f k x286000 x286001 x286002 x286003 x286004 ((rd_T33 x15 x17).f0) ((rd_T33 x15 x17).f1) ((rd_T33 x15 x17).f2) ((rd_T33 x15 x17).f3)).bind fun t289 => (if t289 = 0 then (script_ops.l0 k x1 x15 x16 (wrap64 (x17 + 1)) x286000 x286001 x286002 x286003 x286004) else (some (t289, x1, x17)))) else (none)) else (none)) else (some (0, 0, 0))
def script_ops.f (k : Nat) (a0_0 : Int) (a0_1 : Int) (a0_2 : Int) (a0_3 : Int) (a0_4 : Int) (a1 : Int) (l2 : List (S33)) : Option (Int × Int × Int) := if (l2.length : Int) > 64 then (some (9, a1, 0)) else (script_ops.l0 k a1 l2 (l2.length : Int) 0 a0_0 a0_1 a0_2 a0_3 a0_4)
theorem script_ops.mono_l : ∀ k, (∀ y0 y1 y2 y3 y4 y5 y6 y7 y8, LeO (script_ops.l0 k y0 y1 y2 y3 y4 y5 y6 y7 y8) (script_ops.l0 (k + 1) y0 y1 y2 y3 y4 y5 y6 y7 y8))
 | 0 => fun _ _ _ _ _ _ _ _ _ r h => by simp [script_ops.l0] at h
 | k + 1 => by
  have ih0 := script_ops.mono_l k
  ·intro y0 y1 y2 y3 y4 y5 y6 y7 y8
   unfold script_ops.l0
   repeat' first
   | (with_reducible exact ih0 _ _ _ _ _ _ _ _ _)
   | (with_reducible exact conf_IsOp.mono _ _ _ _ _ _ _ _ _ _)
   | (with_reducible exact LeO.refl _)
   | (with_reducible exact LeO.none _)
   | (with_reducible refine LeO.ite ?_ ?_)
   | (with_reducible refine LeO.bind ?_ (fun _ => ?_))
   | exact ih0 _ _ _ _ _ _ _ _ _
   | exact conf_IsOp.mono _ _ _ _ _ _ _ _ _ _
   | exact LeO.none _
   | refine LeO.ite ?_ ?_
   | refine LeO.bind ?_ (fun _ => ?_)
theorem script_ops.mono : ∀ a0 a1 a2 a3 a4 a5 a6 k, LeO (script_ops.f k a0 a1 a2 a3 a4 a5 a6) (script_ops.f (k + 1) a0 a1 a2 a3 a4 a5 a6) := by
 intro a0 a1 a2 a3 a4 a5 a6 k
 have ih0 := script_ops.mono_l k
 unfold script_ops.f
 repeat' first
   | (with_reducible exact ih0 _ _ _ _ _ _ _ _ _)
   | (with_reducible exact conf_IsOp.mono _ _ _ _ _ _ _ _ _ _)
   | (with_reducible exact LeO.refl _)
   | (with_reducible exact LeO.none _)
   | (with_reducible refine LeO.ite ?_ ?_)
   | (with_reducible refine LeO.bind ?_ (fun _ => ?_))
   | exact ih0 _ _ _ _ _ _ _ _ _
   | exact conf_IsOp.mono _ _ _ _ _ _ _ _ _ _
   | exact LeO.none _
   | refine LeO.ite ?_ ?_
   | refine LeO.bind ?_ (fun _ => ?_)
set_option maxHeartbeats 8000000 in
set_option maxRecDepth 100000 in
theorem script_ops.calls (k : Nat) (a0_0 : Int) (a0_1 : Int) (a0_2 : Int) (a0_3 : Int) (a0_4 : Int) (a1 : Int) (A2 : Option Addr) (c2 : Nat) (l2 : List (S33)) (r1 : Int) (r2 : Int) (r3 : Int) (w : World) (hr2 : Kd.C k33 w A2 l2.length l2) (hc2 : l2.length ≤ c2) (h : script_ops.f k a0_0 a0_1 a0_2 a0_3 a0_4 a1 l2 = some (r1, r2, r3)) :
  Calls Tryd.prog 48 #[.agg #[.int .i64 a0_0, .int .i64 a0_1, .int .i64 a0_2, .int .i64 a0_3, .int .i64 a0_4], .int .i64 a1, .slice A2 l2.length c2] w fun e w' => e = .returned (.agg #[.int .i64 r1, .int .i64 r2, .int .i64 r3]) ∧ Below w.heap.size w w' := by
 have hu31 := Tryd.underlying31
 have hu70 := Tryd.underlying70
 have hu33 := Tryd.underlying33
 have HR2 := Aside0.mk hr2
 have HC2 := Aside0.mk hc2
 clear hr2 hc2
 have HB := Aside0.mk (Below.refl w.heap.size w)
 have H : (if (l2.length : Int) > 64 then (some (9, a1, 0)) else (script_ops.l0 k a1 l2 (l2.length : Int) 0 a0_0 a0_1 a0_2 a0_3 a0_4)) = some (r1, r2, r3) := h
 clear h
 by_cases c4 : (l2.length : Int) > 64
 ·rw [if_pos c4] at H
  have c4b0 : decide (64 < (l2.length : Int)) = true := decide_eq_true c4
  have c4b1 : decide (64 < l2.length) = true := decide_eq_true (by omega)
  clear c4
  simp only [Option.some.injEq, Prod.mk.injEq] at H
  obtain ⟨rfl, rfl, rfl⟩ := H
  go_enter Tryd.func48, Tryd.ntmps48
  go_wp2_with (first | ((with_reducible refine gate_dst (N := 3) rfl ?_); refine box_event ?hg (N := 3) ?hd (cs := #[.int .i64 a0_0, .int .i64 a0_1, .int .i64 a0_2, .int .i64 a0_3, .int .i64 a0_4]) (t := 31) ?hr ?_; (case hd => rfl); (case hg => rfl); (case hr => first | (go_simp; done) | (go_simp; rfl)); intro gb285 hg w5 hbox hb; have n0_ := Aside0.mk (below_step (upB HB.out) hb); have n1_ := Aside0.mk (hbox); have n2_ := Aside0.mk ((by rw [hg]; exact (below_size (upB HB.out)) : w.heap.size ≤ gb285)); have n3_ := Aside0.mk ((by rw [hg]; exact (below_size (upB HB.out)) : w.heap.size ≤ gb285)); clear HB; have HB := n0_; have BK285 := n1_; have GW285 := n2_; have GE285 := n3_; clear n0_ n1_ n2_ n3_; clear hb hbox hg) | ((with_reducible refine gate_dst (N := 6) rfl ?_); refine box_event ?hg (N := 6) ?hd (cs := #[.int .i64 0, .int .i64 0, .int .i64 0]) (t := 70) ?hr ?_; (case hd => rfl); (case hg => rfl); (case hr => first | (go_simp; done) | (go_simp; rfl)); intro gb286 hg w6 hbox hb; have n0_ := Aside0.mk (blk_below (g := gb285) (o := .cells #[.int .i64 a0_0, .int .i64 a0_1, .int .i64 a0_2, .int .i64 a0_3, .int .i64 a0_4] 31 (0, 0)) (up BK285.out) hb); have n1_ := Aside0.mk (below_step (upB HB.out) hb); have n2_ := Aside0.mk (hbox); have n3_ := Aside0.mk ((by rw [hg]; exact (below_size (upB HB.out)) : w.heap.size ≤ gb286)); have n4_ := Aside0.mk ((by rw [hg]; exact (below_size (upB HB.out)) : w.heap.size ≤ gb286)); have n5_ := Aside0.mk ((by rw [hg]; exact Nat.ne_of_lt (blk_lt (g := gb285) (o := .cells #[.int .i64 a0_0, .int .i64 a0_1, .int .i64 a0_2, .int .i64 a0_3, .int .i64 a0_4] 31 (0, 0)) (up BK285.out)) : gb285 ≠ gb286)); have n6_ := Aside0.mk ((by rw [hg]; exact Nat.ne_of_gt (blk_lt (g := gb285) (o := .cells #[.int .i64 a0_0, .int .i64 a0_1, .int .i64 a0_2, .int .i64 a0_3, .int .i64 a0_4] 31 (0, 0)) (up BK285.out)) : gb286 ≠ gb285)); clear BK285; clear HB; have BK285 := n0_; have HB := n1_; have BK286 := n2_; have GW286 := n3_; have GE286 := n4_; have NB285_286 := n5_; have NB286_285 := n6_; clear n0_ n1_ n2_ n3_ n4_ n5_ n6_; clear hb hbox hg; have hnb7 := NB286_285.out; have hnc7 := NB285_286.out; have hcz8_0 : w6.cell? ⟨gb286, 0, none⟩ = some (.int .i64 0) := (blk_cell BK286.out 0).trans rfl; have hcz8_1 : w6.cell? ⟨gb286, 1, none⟩ = some (.int .i64 0) := (blk_cell BK286.out 1).trans rfl; have hcz8_2 : w6.cell? ⟨gb286, 2, none⟩ = some (.int .i64 0) := (blk_cell BK286.out 2).trans rfl; have hfz8_0 := blk_frozen BK286.out 0; have hfz8_1 := blk_frozen BK286.out 1; have hfz8_2 := blk_frozen BK286.out 2))
  refine bodyPost_ret (results_cell_row rfl _ _ gb286 70 #[.int .i64 9, .int .i64 a1, .int .i64 0] (0, 0) _ rfl (by (with_reducible repeat (first | refine blk_drewN ?_ _ | refine blk_drew ?_ | refine blk_alloc ?_ _)); refine blk_put (cs := #[.int .i64 9, .int .i64 a1, .int .i64 0]) ?_ 2 _ rfl; (with_reducible repeat (first | refine blk_drewN ?_ _ | refine blk_drew ?_ | refine blk_alloc ?_ _)); refine blk_put (cs := #[.int .i64 9, .int .i64 0, .int .i64 0]) ?_ 1 _ rfl; (with_reducible repeat (first | refine blk_drewN ?_ _ | refine blk_drew ?_ | refine blk_alloc ?_ _)); refine blk_put (cs := #[.int .i64 0, .int .i64 0, .int .i64 0]) ?_ 0 _ rfl; (with_reducible repeat (first | refine blk_drewN ?_ _ | refine blk_drew ?_ | refine blk_alloc ?_ _)); exact BK286.out) Tryd.underlying70 rfl (by kernel_rfl)) rfl ?_
  exact ⟨by first | rfl | (simp [errW_none, errW_some] <;> rfl) | (simp [*, errW_none, errW_some] <;> rfl), by repeat (first | (with_reducible first | exact HB.out | apply below_alloc | apply pw_below_drewN | apply below_drew1 | refine below_set ?_ GE285.out | refine below_set ?_ GE286.out) | exact HB.out)⟩
 ·rw [if_neg c4] at H
  have c4b0 : decide (64 < (l2.length : Int)) = false := decide_eq_false c4
  have c4b1 : decide (64 < l2.length) = false := decide_eq_false (by omega)
  clear c4
  have H' := Aside0.mk H
  clear H
  go_enter Tryd.func48, Tryd.ntmps48
  go_wp2_with (first | ((with_reducible refine gate_dst (N := 3) rfl ?_); refine box_event ?hg (N := 3) ?hd (cs := #[.int .i64 a0_0, .int .i64 a0_1, .int .i64 a0_2, .int .i64 a0_3, .int .i64 a0_4]) (t := 31) ?hr ?_; (case hd => rfl); (case hg => rfl); (case hr => first | (go_simp; done) | (go_simp; rfl)); intro gb285 hg w9 hbox hb; have n0_ := Aside0.mk (below_step (upB HB.out) hb); have n1_ := Aside0.mk (hbox); have n2_ := Aside0.mk ((by rw [hg]; exact (below_size (upB HB.out)) : w.heap.size ≤ gb285)); have n3_ := Aside0.mk ((by rw [hg]; exact (below_size (upB HB.out)) : w.heap.size ≤ gb285)); clear HB; have HB := n0_; have BK285 := n1_; have GW285 := n2_; have GE285 := n3_; clear n0_ n1_ n2_ n3_; clear hb hbox hg) | ((with_reducible refine gate_dst (N := 6) rfl ?_); refine box_event ?hg (N := 6) ?hd (cs := #[.int .i64 0, .int .i64 0, .int .i64 0]) (t := 70) ?hr ?_; (case hd => rfl); (case hg => rfl); (case hr => first | (go_simp; done) | (go_simp; rfl)); intro gb286 hg w10 hbox hb; have n0_ := Aside0.mk (blk_below (g := gb285) (o := .cells #[.int .i64 a0_0, .int .i64 a0_1, .int .i64 a0_2, .int .i64 a0_3, .int .i64 a0_4] 31 (0, 0)) (up BK285.out) hb); have n1_ := Aside0.mk (below_step (upB HB.out) hb); have n2_ := Aside0.mk (hbox); have n3_ := Aside0.mk ((by rw [hg]; exact (below_size (upB HB.out)) : w.heap.size ≤ gb286)); have n4_ := Aside0.mk ((by rw [hg]; exact (below_size (upB HB.out)) : w.heap.size ≤ gb286)); have n5_ := Aside0.mk ((by rw [hg]; exact Nat.ne_of_lt (blk_lt (g := gb285) (o := .cells #[.int .i64 a0_0, .int .i64 a0_1, .int .i64 a0_2, .int .i64 a0_3, .int .i64 a0_4] 31 (0, 0)) (up BK285.out)) : gb285 ≠ gb286)); have n6_ := Aside0.mk ((by rw [hg]; exact Nat.ne_of_gt (blk_lt (g := gb285) (o := .cells #[.int .i64 a0_0, .int .i64 a0_1, .int .i64 a0_2, .int .i64 a0_3, .int .i64 a0_4] 31 (0, 0)) (up BK285.out)) : gb286 ≠ gb285)); clear BK285; clear HB; have BK285 := n0_; have HB := n1_; have BK286 := n2_; have GW286 := n3_; have GE286 := n4_; have NB285_286 := n5_; have NB286_285 := n6_; clear n0_ n1_ n2_ n3_ n4_ n5_ n6_; clear hb hbox hg))
  go_loopg [17] k (fun kq v17 w' => ∃ (x17_1 : Int) (x287000_1 : Int) (x287001_1 : Int) (x287002_1 : Int), v17 = .int .i64 x17_1 ∧ Aside0 (script_ops.l0 kq a1 l2 (l2.length : Int) x17_1 a0_0 a0_1 a0_2 a0_3 a0_4 = some (r1, r2, r3)) ∧ Aside0 (kq ≤ k) ∧ Aside0 (w'.heap[gb285]? = some (.cells #[.int .i64 a0_0, .int .i64 a0_1, .int .i64 a0_2, .int .i64 a0_3, .int .i64 a0_4] 31 (0, 0))) ∧ Aside0 (w'.heap[gb286]? = some (.cells #[.int .i64 x287000_1, .int .i64 x287001_1, .int .i64 x287002_1] 70 (0, 0))) ∧ Aside0 (Below w.heap.size w w'))
  case atStart => exact ⟨(0), (0), (0), (0), (by first | rfl | exact congrArg Value.bool (Eq.symm (by assumption)) | (simp; done) | (simp [*]; done)), H', ⟨Nat.le_refl _⟩, ⟨up BK285.out⟩, ⟨up BK286.out⟩, ⟨upB HB.out⟩⟩
  case round =>
   clear H'
   try clear c2
   try clear p2
   try clear c4
   try clear c4b0
   try clear c4b1
   try clear c7
   try clear hcz8_0
   try clear hcz8_1
   try clear hcz8_2
   try clear hfz8_0
   try clear hfz8_1
   try clear hfz8_2
   obtain ⟨x17_1, x287000_1, x287001_1, x287002_1, rfl, HA, HK1, BK285, BK286, HB⟩ := hrel
   cases gk with
   | zero => exact absurd HA.out (by simp [script_ops.l0])
   | succ k1 =>
    have H := HA.out
    clear HA
    simp only [script_ops.l0] at H
    by_cases c11 : x17_1 < (l2.length : Int)
    ·rw [if_pos c11] at H
     have c11b0 : decide (x17_1 < (l2.length : Int)) = true := decide_eq_true c11
     clear c11
     by_cases c12 : 0 ≤ x17_1
     ·rw [if_pos c12] at H
      have c12b0 : decide (0 ≤ x17_1) = true := decide_eq_true c12
      clear c12
      by_cases c13 : x17_1 < (l2.length : Int)
      ·rw [if_pos c13] at H
       have c13b0 : decide (x17_1 < (l2.length : Int)) = true := decide_eq_true c13
       clear c13
       replace H := Option.bind_eq_some_iff.mp H
       obtain ⟨t289, A140, H⟩ := H
       replace H : (if t289 = 0 then (script_ops.l0 k1 a1 l2 (l2.length : Int) (wrap64 (x17_1 + 1)) a0_0 a0_1 a0_2 a0_3 a0_4) else (some (t289, a1, x17_1))) = some (r1, r2, r3) := H
       have A14 := Aside0.mk A140
       clear A140
       by_cases c15 : t289 = 0
       ·rw [if_pos c15] at H
        have c15b0 : (t289 == 0) = true := beq_iff_eq.mpr c15
        have c15b1 : (t289 != 0) = false := bne_eq_false_iff_eq.mpr c15
        clear c15
        have H' := Aside0.mk H
        clear H
        have p287 : 0 ≤ (x17_1 : Int) := of_decide_eq_true (by first | (with_reducible assumption) | assumption)
        have q287 : x17_1 < (l2.length : Int) := of_decide_eq_true (by first | (with_reducible assumption) | assumption)
        obtain ⟨ad287, e287, hx287_0, hx287_1, hx287_2, hx287_3⟩ := at_T33 HR2.out x17_1 p287 q287
        cases e287
        replace hx287_0 := (HB.out.cell (World.block_lt_of_cell? w _ hx287_0)).trans hx287_0
        replace hx287_1 := (HB.out.cell (World.block_lt_of_cell? w _ hx287_1)).trans hx287_1
        replace hx287_2 := (HB.out.cell (World.block_lt_of_cell? w _ hx287_2)).trans hx287_2
        replace hx287_3 := (HB.out.cell (World.block_lt_of_cell? w _ hx287_3)).trans hx287_3
        replace p287 := eq_true p287
        replace q287 := eq_true q287
        go_wp2_with (first | ((with_reducible refine gate_dst (N := 8) rfl ?_); refine box_event ?hg (N := 8) ?hd (cs := #[.int .i64 0, .int .u64 0, .int .u64 0, .int .i64 0]) (t := 33) ?hr ?_; (case hd => rfl); (case hg => rfl); (case hr => first | (go_simp; done) | (go_simp; rfl)); intro gb288 hg w16 hbox hb; have n0_ := Aside0.mk (blk_below (g := gb285) (o := .cells #[.int .i64 a0_0, .int .i64 a0_1, .int .i64 a0_2, .int .i64 a0_3, .int .i64 a0_4] 31 (0, 0)) (up BK285.out) hb); have n1_ := Aside0.mk (blk_below (g := gb286) (o := .cells #[.int .i64 x287000_1, .int .i64 x287001_1, .int .i64 x287002_1] 70 (0, 0)) (up BK286.out) hb); have n2_ := Aside0.mk (below_step (upB HB.out) hb); have n3_ := Aside0.mk (hbox); have n4_ := Aside0.mk ((by rw [hg]; exact (below_size (upB HB.out)) : w.heap.size ≤ gb288)); have n5_ := Aside0.mk ((by rw [hg]; exact (below_size (upB HB.out)) : w.heap.size ≤ gb288)); have n6_ := Aside0.mk ((by rw [hg]; exact Nat.ne_of_lt (blk_lt (g := gb285) (o := .cells #[.int .i64 a0_0, .int .i64 a0_1, .int .i64 a0_2, .int .i64 a0_3, .int .i64 a0_4] 31 (0, 0)) (up BK285.out)) : gb285 ≠ gb288)); have n7_ := Aside0.mk ((by rw [hg]; exact Nat.ne_of_gt (blk_lt (g := gb285) (o := .cells #[.int .i64 a0_0, .int .i64 a0_1, .int .i64 a0_2, .int .i64 a0_3, .int .i64 a0_4] 31 (0, 0)) (up BK285.out)) : gb288 ≠ gb285)); have n8_ := Aside0.mk ((by rw [hg]; exact Nat.ne_of_lt (blk_lt (g := gb286) (o := .cells #[.int .i64 x287000_1, .int .i64 x287001_1, .int .i64 x287002_1] 70 (0, 0)) (up BK286.out)) : gb286 ≠ gb288)); have n9_ := Aside0.mk ((by rw [hg]; exact Nat.ne_of_gt (blk_lt (g := gb286) (o := .cells #[.int .i64 x287000_1, .int .i64 x287001_1, .int .i64 x287002_1] 70 (0, 0)) (up BK286.out)) : gb288 ≠ gb286)); clear BK285; clear BK286; clear HB; have BK285 := n0_; have BK286 := n1_; have HB := n2_; have BK288 := n3_; have GW288 := n4_; have GE288 := n5_; have NB285_288 := n6_; have NB288_285 := n7_; have NB286_288 := n8_; have NB288_286 := n9_; clear n0_ n1_ n2_ n3_ n4_ n5_ n6_ n7_ n8_ n9_; clear hb hbox hg; have hnb17 := NB288_285.out; have hnc17 := NB285_288.out; have hnb18 := NB288_286.out; have hnc18 := NB286_288.out; have hcz19_0 : w16.cell? ⟨gb288, 0, none⟩ = some (.int .i64 0) := (blk_cell BK288.out 0).trans rfl; have hcz19_1 : w16.cell? ⟨gb288, 1, none⟩ = some (.int .u64 0) := (blk_cell BK288.out 1).trans rfl; have hcz19_2 : w16.cell? ⟨gb288, 2, none⟩ = some (.int .u64 0) := (blk_cell BK288.out 2).trans rfl; have hcz19_3 : w16.cell? ⟨gb288, 3, none⟩ = some (.int .i64 0) := (blk_cell BK288.out 3).trans rfl; have hfz19_0 := blk_frozen BK288.out 0; have hfz19_1 := blk_frozen BK288.out 1; have hfz19_2 := blk_frozen BK288.out 2; have hfz19_3 := blk_frozen BK288.out 3; have hnb20 := NB285_286.out; have hnc20 := NB286_285.out; have hcz21_0 : w16.cell? ⟨gb285, 0, none⟩ = some (.int .i64 a0_0) := (blk_cell BK285.out 0).trans rfl; have hcz21_1 : w16.cell? ⟨gb285, 1, none⟩ = some (.int .i64 a0_1) := (blk_cell BK285.out 1).trans rfl; have hcz21_2 : w16.cell? ⟨gb285, 2, none⟩ = some (.int .i64 a0_2) := (blk_cell BK285.out 2).trans rfl; have hcz21_3 : w16.cell? ⟨gb285, 3, none⟩ = some (.int .i64 a0_3) := (blk_cell BK285.out 3).trans rfl; have hcz21_4 : w16.cell? ⟨gb285, 4, none⟩ = some (.int .i64 a0_4) := (blk_cell BK285.out 4).trans rfl; have hfz21_0 := blk_frozen BK285.out 0; have hfz21_1 := blk_frozen BK285.out 1; have hfz21_2 := blk_frozen BK285.out 2; have hfz21_3 := blk_frozen BK285.out 3; have hfz21_4 := blk_frozen BK285.out 4) | ((with_reducible refine gate_callee (f := 21) rfl ?_); refine goesL_ (some 24) rfl rfl Tryd.func21 (by kernel_rfl) rfl #[.agg #[.int .i64 a0_0, .int .i64 a0_1, .int .i64 a0_2, .int .i64 a0_3, .int .i64 a0_4], .agg #[.int .i64 ((rd_T33 l2 x17_1).f0), .int .u64 ((rd_T33 l2 x17_1).f1), .int .u64 ((rd_T33 l2 x17_1).f2), .int .i64 ((rd_T33 l2 x17_1).f3)]] rfl (by (try simp only [List.map_toArray, List.map_cons, List.map_nil]); first | done | rfl | (simp only [List.length_drop, List.length_take]; rfl)) ?_; (with_reducible refine (conf_IsOp.calls k1 a0_0 a0_1 a0_2 a0_3 a0_4 ((rd_T33 l2 x17_1).f0) ((rd_T33 l2 x17_1).f1) ((rd_T33 l2 x17_1).f2) ((rd_T33 l2 x17_1).f3) t289 _ A14.out).mono ?_); rintro e w22 ⟨rfl, hb⟩; refine ⟨_, rfl, ?_⟩; have n0_ := Aside0.mk (blk_below (g := gb285) (o := .cells #[.int .i64 a0_0, .int .i64 a0_1, .int .i64 a0_2, .int .i64 a0_3, .int .i64 a0_4] 31 (0, 0)) (by (with_reducible repeat (first | refine blk_drewN ?_ _ | refine blk_drew ?_ | refine blk_alloc ?_ _)); refine blk_far ?_ NB285_288.out _; (with_reducible repeat (first | refine blk_drewN ?_ _ | refine blk_drew ?_ | refine blk_alloc ?_ _)); refine blk_far ?_ NB285_288.out _; (with_reducible repeat (first | refine blk_drewN ?_ _ | refine blk_drew ?_ | refine blk_alloc ?_ _)); refine blk_far ?_ NB285_288.out _; (with_reducible repeat (first | refine blk_drewN ?_ _ | refine blk_drew ?_ | refine blk_alloc ?_ _)); refine blk_far ?_ NB285_288.out _; (with_reducible repeat (first | refine blk_drewN ?_ _ | refine blk_drew ?_ | refine blk_alloc ?_ _)); exact BK285.out) hb); have n1_ := Aside0.mk (blk_below (g := gb286) (o := .cells #[.int .i64 x287000_1, .int .i64 x287001_1, .int .i64 x287002_1] 70 (0, 0)) (by (with_reducible repeat (first | refine blk_drewN ?_ _ | refine blk_drew ?_ | refine blk_alloc ?_ _)); refine blk_far ?_ NB286_288.out _; (with_reducible repeat (first | refine blk_drewN ?_ _ | refine blk_drew ?_ | refine blk_alloc ?_ _)); refine blk_far ?_ NB286_288.out _; (with_reducible repeat (first | refine blk_drewN ?_ _ | refine blk_drew ?_ | refine blk_alloc ?_ _)); refine blk_far ?_ NB286_288.out _; (with_reducible repeat (first | refine blk_drewN ?_ _ | refine blk_drew ?_ | refine blk_alloc ?_ _)); refine blk_far ?_ NB286_288.out _; (with_reducible repeat (first | refine blk_drewN ?_ _ | refine blk_drew ?_ | refine blk_alloc ?_ _)); exact BK286.out) hb); have n2_ := Aside0.mk (blk_below (g := gb288) (o := .cells #[.int .i64 ((rd_T33 l2 x17_1).f0), .int .u64 ((rd_T33 l2 x17_1).f1), .int .u64 ((rd_T33 l2 x17_1).f2), .int .i64 ((rd_T33 l2 x17_1).f3)] 33 (0, 0)) (by (with_reducible repeat (first | refine blk_drewN ?_ _ | refine blk_drew ?_ | refine blk_alloc ?_ _)); refine blk_put (cs := #[.int .i64 ((rd_T33 l2 x17_1).f0), .int .u64 ((rd_T33 l2 x17_1).f1), .int .u64 ((rd_T33 l2 x17_1).f2), .int .i64 0]) ?_ 3 _ rfl; (with_reducible repeat (first | refine blk_drewN ?_ _ | refine blk_drew ?_ | refine blk_alloc ?_ _)); refine blk_put (cs := #[.int .i64 ((rd_T33 l2 x17_1).f0), .int .u64 ((rd_T33 l2 x17_1).f1), .int .u64 0, .int .i64 0]) ?_ 2 _ rfl; (with_reducible repeat (first | refine blk_drewN ?_ _ | refine blk_drew ?_ | refine blk_alloc ?_ _)); refine blk_put (cs := #[.int .i64 ((rd_T33 l2 x17_1).f0), .int .u64 0, .int .u64 0, .int .i64 0]) ?_ 1 _ rfl; (with_reducible repeat (first | refine blk_drewN ?_ _ | refine blk_drew ?_ | refine blk_alloc ?_ _)); refine blk_put (cs := #[.int .i64 0, .int .u64 0, .int .u64 0, .int .i64 0]) ?_ 0 _ rfl; (with_reducible repeat (first | refine blk_drewN ?_ _ | refine blk_drew ?_ | refine blk_alloc ?_ _)); exact BK288.out) hb); have n3_ := Aside0.mk (below_step (by repeat (first | (with_reducible first | exact HB.out | apply below_alloc | apply pw_below_drewN | apply below_drew1 | refine below_set ?_ GE285.out | refine below_set ?_ GE286.out | refine below_set ?_ GE288.out) | exact HB.out)) hb); clear BK285; clear BK286; clear BK288; clear HB; have BK285 := n0_; have BK286 := n1_; have BK288 := n2_; have HB := n3_; clear n0_ n1_ n2_ n3_; (try clear hb); (try clear hb2); (try clear hk); (try clear hi)))
        go_roundg k1
        case measure => have := HK1.out; omega
        case rel => exact ⟨(wrap64 (x17_1 + 1)), (x287000_1), (x287001_1), (x287002_1), (by first | rfl | exact congrArg Value.bool (Eq.symm (by assumption)) | (simp; done) | (simp [*]; done)), H', ⟨by have := HK1.out; omega⟩, ⟨up BK285.out⟩, ⟨up BK286.out⟩, ⟨upB HB.out⟩⟩
       ·rw [if_neg c15] at H
        have c15b0 : (t289 == 0) = false := beq_eq_false_iff_ne.mpr c15
        have c15b1 : (t289 != 0) = true := bne_iff_ne.mpr c15
        simp only [Option.some.injEq, Prod.mk.injEq] at H
        obtain ⟨rfl, rfl, rfl⟩ := H
        have p287 : 0 ≤ (x17_1 : Int) := of_decide_eq_true (by first | (with_reducible assumption) | assumption)
        have q287 : x17_1 < (l2.length : Int) := of_decide_eq_true (by first | (with_reducible assumption) | assumption)
        obtain ⟨ad287, e287, hx287_0, hx287_1, hx287_2, hx287_3⟩ := at_T33 HR2.out x17_1 p287 q287
        cases e287
        replace hx287_0 := (HB.out.cell (World.block_lt_of_cell? w _ hx287_0)).trans hx287_0
        replace hx287_1 := (HB.out.cell (World.block_lt_of_cell? w _ hx287_1)).trans hx287_1
        replace hx287_2 := (HB.out.cell (World.block_lt_of_cell? w _ hx287_2)).trans hx287_2
        replace hx287_3 := (HB.out.cell (World.block_lt_of_cell? w _ hx287_3)).trans hx287_3
        replace p287 := eq_true p287
        replace q287 := eq_true q287
        go_wp2_with (first | ((with_reducible refine gate_dst (N := 8) rfl ?_); refine box_event ?hg (N := 8) ?hd (cs := #[.int .i64 0, .int .u64 0, .int .u64 0, .int .i64 0]) (t := 33) ?hr ?_; (case hd => rfl); (case hg => rfl); (case hr => first | (go_simp; done) | (go_simp; rfl)); intro gb288 hg w23 hbox hb; have n0_ := Aside0.mk (blk_below (g := gb285) (o := .cells #[.int .i64 a0_0, .int .i64 a0_1, .int .i64 a0_2, .int .i64 a0_3, .int .i64 a0_4] 31 (0, 0)) (up BK285.out) hb); have n1_ := Aside0.mk (blk_below (g := gb286) (o := .cells #[.int .i64 x287000_1, .int .i64 x287001_1, .int .i64 x287002_1] 70 (0, 0)) (up BK286.out) hb); have n2_ := Aside0.mk (below_step (upB HB.out) hb); have n3_ := Aside0.mk (hbox); have n4_ := Aside0.mk ((by rw [hg]; exact (below_size (upB HB.out)) : w.heap.size ≤ gb288)); have n5_ := Aside0.mk ((by rw [hg]; exact (below_size (upB HB.out)) : w.heap.size ≤ gb288)); have n6_ := Aside0.mk ((by rw [hg]; exact Nat.ne_of_lt (blk_lt (g := gb285) (o := .cells #[.int .i64 a0_0, .int .i64 a0_1, .int .i64 a0_2, .int .i64 a0_3, .int .i64 a0_4] 31 (0, 0)) (up BK285.out)) : gb285 ≠ gb288)); have n7_ := Aside0.mk ((by rw [hg]; exact Nat.ne_of_gt (blk_lt (g := gb285) (o := .cells #[.int .i64 a0_0, .int .i64 a0_1, .int .i64 a0_2, .int .i64 a0_3, .int .i64 a0_4] 31 (0, 0)) (up BK285.out)) : gb288 ≠ gb285)); have n8_ := Aside0.mk ((by rw [hg]; exact Nat.ne_of_lt (blk_lt (g := gb286) (o := .cells #[.int .i64 x287000_1, .int .i64 x287001_1, .int .i64 x287002_1] 70 (0, 0)) (up BK286.out)) : gb286 ≠ gb288)); have n9_ := Aside0.mk ((by rw [hg]; exact Nat.ne_of_gt (blk_lt (g := gb286) (o := .cells #[.int .i64 x287000_1, .int .i64 x287001_1, .int .i64 x287002_1] 70 (0, 0)) (up BK286.out)) : gb288 ≠ gb286)); clear BK285; clear BK286; clear HB; have BK285 := n0_; have BK286 := n1_; have HB := n2_; have BK288 := n3_; have GW288 := n4_; have GE288 := n5_; have NB285_288 := n6_; have NB288_285 := n7_; have NB286_288 := n8_; have NB288_286 := n9_; clear n0_ n1_ n2_ n3_ n4_ n5_ n6_ n7_ n8_ n9_; clear hb hbox hg; have hnb24 := NB288_285.out; have hnc24 := NB285_288.out; have hnb25 := NB288_286.out; have hnc25 := NB286_288.out; have hcz26_0 : w23.cell? ⟨gb288, 0, none⟩ = some (.int .i64 0) := (blk_cell BK288.out 0).trans rfl; have hcz26_1 : w23.cell? ⟨gb288, 1, none⟩ = some (.int .u64 0) := (blk_cell BK288.out 1).trans rfl; have hcz26_2 : w23.cell? ⟨gb288, 2, none⟩ = some (.int .u64 0) := (blk_cell BK288.out 2).trans rfl; have hcz26_3 : w23.cell? ⟨gb288, 3, none⟩ = some (.int .i64 0) := (blk_cell BK288.out 3).trans rfl; have hfz26_0 := blk_frozen BK288.out 0; have hfz26_1 := blk_frozen BK288.out 1; have hfz26_2 := blk_frozen BK288.out 2; have hfz26_3 := blk_frozen BK288.out 3; have hnb27 := NB285_286.out; have hnc27 := NB286_285.out; have hcz28_0 : w23.cell? ⟨gb285, 0, none⟩ = some (.int .i64 a0_0) := (blk_cell BK285.out 0).trans rfl; have hcz28_1 : w23.cell? ⟨gb285, 1, none⟩ = some (.int .i64 a0_1) := (blk_cell BK285.out 1).trans rfl; have hcz28_2 : w23.cell? ⟨gb285, 2, none⟩ = some (.int .i64 a0_2) := (blk_cell BK285.out 2).trans rfl; have hcz28_3 : w23.cell? ⟨gb285, 3, none⟩ = some (.int .i64 a0_3) := (blk_cell BK285.out 3).trans rfl; have hcz28_4 : w23.cell? ⟨gb285, 4, none⟩ = some (.int .i64 a0_4) := (blk_cell BK285.out 4).trans rfl; have hfz28_0 := blk_frozen BK285.out 0; have hfz28_1 := blk_frozen BK285.out 1; have hfz28_2 := blk_frozen BK285.out 2; have hfz28_3 := blk_frozen BK285.out 3; have hfz28_4 := blk_frozen BK285.out 4) | ((with_reducible refine gate_callee (f := 21) rfl ?_); refine goesL_ (some 24) rfl rfl Tryd.func21 (by kernel_rfl) rfl #[.agg #[.int .i64 a0_0, .int .i64 a0_1, .int .i64 a0_2, .int .i64 a0_3, .int .i64 a0_4], .agg #[.int .i64 ((rd_T33 l2 x17_1).f0), .int .u64 ((rd_T33 l2 x17_1).f1), .int .u64 ((rd_T33 l2 x17_1).f2), .int .i64 ((rd_T33 l2 x17_1).f3)]] rfl (by (try simp only [List.map_toArray, List.map_cons, List.map_nil]); first | done | rfl | (simp only [List.length_drop, List.length_take]; rfl)) ?_; (with_reducible refine (conf_IsOp.calls k1 a0_0 a0_1 a0_2 a0_3 a0_4 ((rd_T33 l2 x17_1).f0) ((rd_T33 l2 x17_1).f1) ((rd_T33 l2 x17_1).f2) ((rd_T33 l2 x17_1).f3) t289 _ A14.out).mono ?_); rintro e w29 ⟨rfl, hb⟩; refine ⟨_, rfl, ?_⟩; have n0_ := Aside0.mk (blk_below (g := gb285) (o := .cells #[.int .i64 a0_0, .int .i64 a0_1, .int .i64 a0_2, .int .i64 a0_3, .int .i64 a0_4] 31 (0, 0)) (by (with_reducible repeat (first | refine blk_drewN ?_ _ | refine blk_drew ?_ | refine blk_alloc ?_ _)); refine blk_far ?_ NB285_288.out _; (with_reducible repeat (first | refine blk_drewN ?_ _ | refine blk_drew ?_ | refine blk_alloc ?_ _)); refine blk_far ?_ NB285_288.out _; (with_reducible repeat (first | refine blk_drewN ?_ _ | refine blk_drew ?_ | refine blk_alloc ?_ _)); refine blk_far ?_ NB285_288.out _; (with_reducible repeat (first | refine blk_drewN ?_ _ | refine blk_drew ?_ | refine blk_alloc ?_ _)); refine blk_far ?_ NB285_288.out _; (with_reducible repeat (first | refine blk_drewN ?_ _ | refine blk_drew ?_ | refine blk_alloc ?_ _)); exact BK285.out) hb); have n1_ := Aside0.mk (blk_below (g := gb286) (o := .cells #[.int .i64 x287000_1, .int .i64 x287001_1, .int .i64 x287002_1] 70 (0, 0)) (by (with_reducible repeat (first | refine blk_drewN ?_ _ | refine blk_drew ?_ | refine blk_alloc ?_ _)); refine blk_far ?_ NB286_288.out _; (with_reducible repeat (first | refine blk_drewN ?_ _ | refine blk_drew ?_ | refine blk_alloc ?_ _)); refine blk_far ?_ NB286_288.out _; (with_reducible repeat (first | refine blk_drewN ?_ _ | refine blk_drew ?_ | refine blk_alloc ?_ _)); refine blk_far ?_ NB286_288.out _; (with_reducible repeat (first | refine blk_drewN ?_ _ | refine blk_drew ?_ | refine blk_alloc ?_ _)); refine blk_far ?_ NB286_288.out _; (with_reducible repeat (first | refine blk_drewN ?_ _ | refine blk_drew ?_ | refine blk_alloc ?_ _)); exact BK286.out) hb); have n2_ := Aside0.mk (blk_below (g := gb288) (o := .cells #[.int .i64 ((rd_T33 l2 x17_1).f0), .int .u64 ((rd_T33 l2 x17_1).f1), .int .u64 ((rd_T33 l2 x17_1).f2), .int .i64 ((rd_T33 l2 x17_1).f3)] 33 (0, 0)) (by (with_reducible repeat (first | refine blk_drewN ?_ _ | refine blk_drew ?_ | refine blk_alloc ?_ _)); refine blk_put (cs := #[.int .i64 ((rd_T33 l2 x17_1).f0), .int .u64 ((rd_T33 l2 x17_1).f1), .int .u64 ((rd_T33 l2 x17_1).f2), .int .i64 0]) ?_ 3 _ rfl; (with_reducible repeat (first | refine blk_drewN ?_ _ | refine blk_drew ?_ | refine blk_alloc ?_ _)); refine blk_put (cs := #[.int .i64 ((rd_T33 l2 x17_1).f0), .int .u64 ((rd_T33 l2 x17_1).f1), .int .u64 0, .int .i64 0]) ?_ 2 _ rfl; (with_reducible repeat (first | refine blk_drewN ?_ _ | refine blk_drew ?_ | refine blk_alloc ?_ _)); refine blk_put (cs := #[.int .i64 ((rd_T33 l2 x17_1).f0), .int .u64 0, .int .u64 0, .int .i64 0]) ?_ 1 _ rfl; (with_reducible repeat (first | refine blk_drewN ?_ _ | refine blk_drew ?_ | refine blk_alloc ?_ _)); refine blk_put (cs := #[.int .i64 0, .int .u64 0, .int .u64 0, .int .i64 0]) ?_ 0 _ rfl; (with_reducible repeat (first | refine blk_drewN ?_ _ | refine blk_drew ?_ | refine blk_alloc ?_ _)); exact BK288.out) hb); have n3_ := Aside0.mk (below_step (by repeat (first | (with_reducible first | exact HB.out | apply below_alloc | apply pw_below_drewN | apply below_drew1 | refine below_set ?_ GE285.out | refine below_set ?_ GE286.out | refine below_set ?_ GE288.out) | exact HB.out)) hb); clear BK285; clear BK286; clear BK288; clear HB; have BK285 := n0_; have BK286 := n1_; have BK288 := n2_; have HB := n3_; clear n0_ n1_ n2_ n3_; (try clear hb); (try clear hb2); (try clear hk); (try clear hi); have hcz30_0 : w29.cell? ⟨gb286, 0, none⟩ = some (.int .i64 x287000_1) := (blk_cell BK286.out 0).trans rfl; have hcz30_1 : w29.cell? ⟨gb286, 1, none⟩ = some (.int .i64 x287001_1) := (blk_cell BK286.out 1).trans rfl; have hcz30_2 : w29.cell? ⟨gb286, 2, none⟩ = some (.int .i64 x287002_1) := (blk_cell BK286.out 2).trans rfl; have hfz30_0 := blk_frozen BK286.out 0; have hfz30_1 := blk_frozen BK286.out 1; have hfz30_2 := blk_frozen BK286.out 2))
        refine bodyPost_ret (results_cell_row rfl _ _ gb286 70 #[.int .i64 t289, .int .i64 a1, .int .i64 x17_1] (0, 0) _ rfl (by (with_reducible repeat (first | refine blk_drewN ?_ _ | refine blk_drew ?_ | refine blk_alloc ?_ _)); refine blk_put (cs := #[.int .i64 t289, .int .i64 a1, .int .i64 x287002_1]) ?_ 2 _ rfl; (with_reducible repeat (first | refine blk_drewN ?_ _ | refine blk_drew ?_ | refine blk_alloc ?_ _)); refine blk_put (cs := #[.int .i64 t289, .int .i64 x287001_1, .int .i64 x287002_1]) ?_ 1 _ rfl; (with_reducible repeat (first | refine blk_drewN ?_ _ | refine blk_drew ?_ | refine blk_alloc ?_ _)); refine blk_put (cs := #[.int .i64 x287000_1, .int .i64 x287001_1, .int .i64 x287002_1]) ?_ 0 _ rfl; (with_reducible repeat (first | refine blk_drewN ?_ _ | refine blk_drew ?_ | refine blk_alloc ?_ _)); exact BK286.out) Tryd.underlying70 rfl (by kernel_rfl)) rfl ?_
        exact ⟨by first | rfl | (simp [errW_none, errW_some] <;> rfl) | (simp [*, errW_none, errW_some] <;> rfl), by repeat (first | (with_reducible first | exact HB.out | apply below_alloc | apply pw_below_drewN | apply below_drew1 | refine below_set ?_ GE285.out | refine below_set ?_ GE286.out | refine below_set ?_ GE288.out) | exact HB.out)⟩
      ·rw [if_neg c13] at H
       exact absurd H (by simp)
     ·rw [if_neg c12] at H
      exact absurd H (by simp)
    ·rw [if_neg c11] at H
     have c11b0 : decide (x17_1 < (l2.length : Int)) = false := decide_eq_false c11
     clear c11
     simp only [Option.some.injEq, Prod.mk.injEq] at H
     obtain ⟨rfl, rfl, rfl⟩ := H
     have hnb31 := NB286_285.out
     have hnc31 := NB285_286.out
     have hcz32_0 : wr.cell? ⟨gb286, 0, none⟩ = some (.int .i64 x287000_1) := (blk_cell BK286.out 0).trans rfl
     have hcz32_1 : wr.cell? ⟨gb286, 1, none⟩ = some (.int .i64 x287001_1) := (blk_cell BK286.out 1).trans rfl
     have hcz32_2 : wr.cell? ⟨gb286, 2, none⟩ = some (.int .i64 x287002_1) := (blk_cell BK286.out 2).trans rfl
     have hfz32_0 := blk_frozen BK286.out 0
     have hfz32_1 := blk_frozen BK286.out 1
     have hfz32_2 := blk_frozen BK286.out 2
     go_wp2
     refine bodyPost_ret (results_cell_row rfl _ _ gb286 70 #[.int .i64 0, .int .i64 0, .int .i64 0] (0, 0) _ rfl (by (with_reducible repeat (first | refine blk_drewN ?_ _ | refine blk_drew ?_ | refine blk_alloc ?_ _)); refine blk_put (cs := #[.int .i64 0, .int .i64 0, .int .i64 x287002_1]) ?_ 2 _ rfl; (with_reducible repeat (first | refine blk_drewN ?_ _ | refine blk_drew ?_ | refine blk_alloc ?_ _)); refine blk_put (cs := #[.int .i64 0, .int .i64 x287001_1, .int .i64 x287002_1]) ?_ 1 _ rfl; (with_reducible repeat (first | refine blk_drewN ?_ _ | refine blk_drew ?_ | refine blk_alloc ?_ _)); refine blk_put (cs := #[.int .i64 x287000_1, .int .i64 x287001_1, .int .i64 x287002_1]) ?_ 0 _ rfl; (with_reducible repeat (first | refine blk_drewN ?_ _ | refine blk_drew ?_ | refine blk_alloc ?_ _)); exact BK286.out) Tryd.underlying70 rfl (by kernel_rfl)) rfl ?_
     exact ⟨by first | rfl | (simp [errW_none, errW_some] <;> rfl) | (simp [*, errW_none, errW_some] <;> rfl), by repeat (first | (with_reducible first | exact HB.out | apply below_alloc | apply pw_below_drewN | apply below_drew1 | refine below_set ?_ GE285.out | refine below_set ?_ GE286.out) | exact HB.out)⟩
def revenantlaw32_ints.l0 : Nat → List Int → List Int → Int → Option (Bool)
 | 0, _, _, _ => none
 | k + 1, x0, x1, x5 => if x5 < (x0.length : Int) then (if 0 ≤ x5 then (if x5 < (x1.length : Int) then (if (rd x0 x5) = (rd x1 x5) then (revenantlaw32_ints.l0 k x0 x1 (wrap64 (x5 + 1))) else (some false)) else (none)) else (none)) else (some true)
def revenantlaw32_ints.f (k : Nat) (l0 : List Int) (l1 : List Int) : Option (Bool) := if (l0.length : Int) = (l1.length : Int) then (revenantlaw32_ints.l0 k l0 l1 0) else (some false)
theorem revenantlaw32_ints.mono_l : ∀ k, (∀ y0 y1 y2, LeO (revenantlaw32_ints.l0 k y0 y1 y2) (revenantlaw32_ints.l0 (k + 1) y0 y1 y2))
 | 0 => fun _ _ _ r h => by simp [revenantlaw32_ints.l0] at h
 | k + 1 => by
  have ih0 := revenantlaw32_ints.mono_l k
  ·intro y0 y1 y2
   unfold revenantlaw32_ints.l0
   repeat' first
   | (with_reducible exact ih0 _ _ _)
   | (with_reducible exact LeO.refl _)
   | (with_reducible exact LeO.none _)
   | (with_reducible refine LeO.ite ?_ ?_)
   | (with_reducible refine LeO.bind ?_ (fun _ => ?_))
   | exact ih0 _ _ _
   | exact LeO.none _
   | refine LeO.ite ?_ ?_
   | refine LeO.bind ?_ (fun _ => ?_)
theorem revenantlaw32_ints.mono : ∀ a0 a1 k, LeO (revenantlaw32_ints.f k a0 a1) (revenantlaw32_ints.f (k + 1) a0 a1) := by
 intro a0 a1 k
 have ih0 := revenantlaw32_ints.mono_l k
 unfold revenantlaw32_ints.f
 repeat' first
   | (with_reducible exact ih0 _ _ _)
   | (with_reducible exact LeO.refl _)
   | (with_reducible exact LeO.none _)
   | (with_reducible refine LeO.ite ?_ ?_)
   | (with_reducible refine LeO.bind ?_ (fun _ => ?_))
   | exact ih0 _ _ _
   | exact LeO.none _
   | refine LeO.ite ?_ ?_
   | refine LeO.bind ?_ (fun _ => ?_)
set_option maxHeartbeats 8000000 in
set_option maxRecDepth 100000 in
theorem revenantlaw32_ints.calls (k : Nat) (A0 : Option Addr) (c0 : Nat) (l0 : List Int) (A1 : Option Addr) (c1 : Nat) (l1 : List Int) (r : Bool) (w : World) (hr0 : Kd.C (Kd.int .i64) w A0 l0.length l0) (hc0 : l0.length ≤ c0) (hr1 : Kd.C (Kd.int .i64) w A1 l1.length l1) (hc1 : l1.length ≤ c1) (h : revenantlaw32_ints.f k l0 l1 = some r) :
  Calls Tryd.prog 11 #[.slice A0 l0.length c0, .slice A1 l1.length c1] w fun e w' => e = .returned (.bool r) ∧ Drawn0 w w' := by
 have HR0 := Aside0.mk hr0
 have HC0 := Aside0.mk hc0
 clear hr0 hc0
 have HR1 := Aside0.mk hr1
 have HC1 := Aside0.mk hc1
 clear hr1 hc1
 have H : (if (l0.length : Int) = (l1.length : Int) then (revenantlaw32_ints.l0 k l0 l1 0) else (some false)) = some r := h
 clear h
 by_cases c3 : (l0.length : Int) = (l1.length : Int)
 ·rw [if_pos c3] at H
  have c3b0 : ((l0.length : Int) == (l1.length : Int)) = true := beq_iff_eq.mpr c3
  have c3b1 : ((l0.length : Int) != (l1.length : Int)) = false := bne_eq_false_iff_eq.mpr c3
  have c3b2 : (l0.length == l1.length) = true := by first | simpa using c3 | (simp at c3 ⊢; omega)
  clear c3
  have H' := Aside0.mk H
  clear H
  go_enter Tryd.func11, Tryd.ntmps11
  go_wp2
  repeat (go_quiet (fail); try go_wp2)
  go_loopg [5] k (fun kq v5 w' => ∃ (x5_1 : Int), v5 = .int .i64 x5_1 ∧ Aside0 (revenantlaw32_ints.l0 kq l0 l1 x5_1 = some r) ∧ Aside0 (kq ≤ k) ∧ Drawn0 w w')
  case atStart => exact ⟨(0), (by first | rfl | exact congrArg Value.bool (Eq.symm (by assumption)) | (simp; done) | (simp [*]; done)), H', ⟨Nat.le_refl _⟩, by repeat (first | exact Drawn0.refl _ | apply Drawn0.step)⟩
  case round =>
   clear H'
   try clear c1
   try clear p2
   try clear c3
   try clear c3b0
   try clear c3b1
   try clear c3b2
   obtain ⟨x5_1, rfl, HA, HK1, ⟨m1, rfl⟩⟩ := hrel
   cases gk with
   | zero => exact absurd HA.out (by simp [revenantlaw32_ints.l0])
   | succ k1 =>
    have H := HA.out
    clear HA
    simp only [revenantlaw32_ints.l0] at H
    by_cases c4 : x5_1 < (l0.length : Int)
    ·rw [if_pos c4] at H
     have c4b0 : decide (x5_1 < (l0.length : Int)) = true := decide_eq_true c4
     clear c4
     by_cases c5 : 0 ≤ x5_1
     ·rw [if_pos c5] at H
      have c5b0 : decide (0 ≤ x5_1) = true := decide_eq_true c5
      clear c5
      by_cases c6 : x5_1 < (l1.length : Int)
      ·rw [if_pos c6] at H
       have c6b0 : decide (x5_1 < (l1.length : Int)) = true := decide_eq_true c6
       clear c6
       by_cases c7 : (rd l0 x5_1) = (rd l1 x5_1)
       ·rw [if_pos c7] at H
        have c7b0 : ((rd l0 x5_1) == (rd l1 x5_1)) = true := beq_iff_eq.mpr c7
        have c7b1 : ((rd l0 x5_1) != (rd l1 x5_1)) = false := bne_eq_false_iff_eq.mpr c7
        clear c7
        have H' := Aside0.mk H
        clear H
        have p332 : 0 ≤ (x5_1 : Int) := of_decide_eq_true (by first | (with_reducible assumption) | assumption)
        have q332 : x5_1 < (l0.length : Int) := of_decide_eq_true (by first | (with_reducible assumption) | assumption)
        obtain ⟨ad332, e332, hx332_0⟩ := Kd.at_int HR0.out x5_1 p332 q332
        cases e332
        replace p332 := eq_true p332
        replace q332 := eq_true q332
        have p333 : 0 ≤ (x5_1 : Int) := of_decide_eq_true (by first | (with_reducible assumption) | assumption)
        have q333 : x5_1 < (l1.length : Int) := of_decide_eq_true (by first | (with_reducible assumption) | assumption)
        obtain ⟨ad333, e333, hx333_0⟩ := Kd.at_int HR1.out x5_1 p333 q333
        cases e333
        replace p333 := eq_true p333
        replace q333 := eq_true q333
        go_wp2
        repeat (go_quiet (fail); try go_wp2)
        go_roundg k1
        case measure => have := HK1.out; omega
        case rel => exact ⟨(wrap64 (x5_1 + 1)), (by first | rfl | exact congrArg Value.bool (Eq.symm (by assumption)) | (simp; done) | (simp [*]; done)), H', ⟨by have := HK1.out; omega⟩, by repeat (first | exact Drawn0.refl _ | apply Drawn0.step)⟩
       ·rw [if_neg c7] at H
        have c7b0 : ((rd l0 x5_1) == (rd l1 x5_1)) = false := beq_eq_false_iff_ne.mpr c7
        have c7b1 : ((rd l0 x5_1) != (rd l1 x5_1)) = true := bne_iff_ne.mpr c7
        obtain rfl := Option.some.inj H
        have p332 : 0 ≤ (x5_1 : Int) := of_decide_eq_true (by first | (with_reducible assumption) | assumption)
        have q332 : x5_1 < (l0.length : Int) := of_decide_eq_true (by first | (with_reducible assumption) | assumption)
        obtain ⟨ad332, e332, hx332_0⟩ := Kd.at_int HR0.out x5_1 p332 q332
        cases e332
        replace p332 := eq_true p332
        replace q332 := eq_true q332
        have p333 : 0 ≤ (x5_1 : Int) := of_decide_eq_true (by first | (with_reducible assumption) | assumption)
        have q333 : x5_1 < (l1.length : Int) := of_decide_eq_true (by first | (with_reducible assumption) | assumption)
        obtain ⟨ad333, e333, hx333_0⟩ := Kd.at_int HR1.out x5_1 p333 q333
        cases e333
        replace p333 := eq_true p333
        replace q333 := eq_true q333
        go_wp2
        repeat (go_quiet (fail); try go_wp2)
        go_ret
        exact ⟨by first | rfl | (simp; done) | (simp [*]; done), by repeat (first | exact Drawn0.refl _ | apply Drawn0.step)⟩
      ·rw [if_neg c6] at H
       exact absurd H (by simp)
     ·rw [if_neg c5] at H
      exact absurd H (by simp)
    ·rw [if_neg c4] at H
     have c4b0 : decide (x5_1 < (l0.length : Int)) = false := decide_eq_false c4
     clear c4
     obtain rfl := Option.some.inj H
     go_wp2
     repeat (go_quiet (fail); try go_wp2)
     go_ret
     exact ⟨by first | rfl | (simp; done) | (simp [*]; done), by repeat (first | exact Drawn0.refl _ | apply Drawn0.step)⟩
 ·rw [if_neg c3] at H
  have c3b0 : ((l0.length : Int) == (l1.length : Int)) = false := beq_eq_false_iff_ne.mpr c3
  have c3b1 : ((l0.length : Int) != (l1.length : Int)) = true := bne_iff_ne.mpr c3
  have c3b2 : (l0.length == l1.length) = false := by first | simpa using c3 | (simp at c3 ⊢; omega)
  obtain rfl := Option.some.inj H
  go_enter Tryd.func11, Tryd.ntmps11
  go_wp2
  repeat (go_quiet (fail); try go_wp2)
  go_ret
  exact ⟨by first | rfl | (simp; done) | (simp [*]; done), by repeat (first | exact Drawn0.refl _ | apply Drawn0.step)⟩
end Go.Proofs.YtinmmnljicmppaaDoor.PTaleApart
