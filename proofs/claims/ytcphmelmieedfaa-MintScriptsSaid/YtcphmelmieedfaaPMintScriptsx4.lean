-- WRITTEN BY A PROGRAM OF THIS SESSION (xprint.sh): the walks of plain functions over contracts of my own.
import Derived.Test.YtcphmelmieedfaaPMintScriptsx0
import Derived.Test.YtcphmelmieedfaaPMintScriptsx2
import Derived.Test.YtcphmelmieedfaaPMintScriptsx3
namespace Go.Proofs.Ytcphmelmieedfaa.PMintScripts
open Go.RowKit Go.Proofs.YtcphmelmieedfaaW.PrintWords Go.Proofs.YtcphmelmieedfaaW.PrintLast Go.Proofs.YtcphmelmieedfaaW.PrintMore
attribute [local go_sem] max2_int min2_int max_two min_two max_three min_three max_four min_four   -- for this text's walks alone
set_option linter.unusedVariables false
set_option linter.unusedSimpArgs false

/-! ### mint_Mint_Op: function 16 -/
mutual
def mint_Mint_Op.j0 : Nat → Int → Bool → Int → Int → Int → Int → Int → Int → Option (Int × Int × Int × Int × Int)
  | 0, _, _, _, _, _, _, _, _ => none
  | k + 1, x2, x19, x1000, x139000, x139001, x139002, x139003, x139004 => if x19 = true then (some (0, 0, 0, 0, x1000)) else ((mint_Mint_kind.f x1000 x139000 x139001 x139002 x139003 x139004).bind fun bt142 => (if bt142.1 = 8 then (mint_Mint_Op.j1 k bt142.2 x139000 x139001 x139002 x139003 x139004 bt142.1 0 0 0) else ((mint_Mint_Below.f bt142.2 x2).bind fun bt145 => (mint_Mint_Op.j1 k bt145.2 x139000 x139001 x139002 x139003 x139004 bt142.1 (IntKind.u64.wrap (bt145.1)) 0 0))))
def mint_Mint_Op.j1 : Nat → Int → Int → Int → Int → Int → Int → Int → Int → Int → Int → Option (Int × Int × Int × Int × Int)
  | 0, _, _, _, _, _, _, _, _, _, _ => none
  | k + 1, x1000, x139000, x139001, x139002, x139003, x139004, x145000, x145001, x145002, x145003 => if x145000 = 4 then (mint_Mint_Op.j2 k true x1000 x139000 x139001 x139002 x139003 x139004 x145000 x145001 x145002 x145003) else (mint_Mint_Op.j2 k (x145000 == 5) x1000 x139000 x139001 x139002 x139003 x139004 x145000 x145001 x145002 x145003)
def mint_Mint_Op.j2 : Nat → Bool → Int → Int → Int → Int → Int → Int → Int → Int → Int → Int → Option (Int × Int × Int × Int × Int)
  | 0, _, _, _, _, _, _, _, _, _, _, _ => none
  | k + 1, x33, x1000, x139000, x139001, x139002, x139003, x139004, x145000, x145001, x145002, x145003 => if x33 = true then ((mint_Mint_Below.f x1000 100).bind fun bt147 => (some (x145000, x145001, IntKind.u64.wrap (bt147.1), x145003, bt147.2))) else (if x145000 = 1 then (if x139000 = 3 then ((mint_Mint_level.f k x1000 x139003).bind fun bt149 => (some (x145000, x145001, x145002, bt149.1, bt149.2))) else (some (x145000, x145001, x145002, x145003, x1000))) else (some (x145000, x145001, x145002, x145003, x1000)))
end
def mint_Mint_Op.f (k : Nat) (s0_0 : Int) (a1_0 : Int) (a1_1 : Int) (a1_2 : Int) (a1_3 : Int) (a1_4 : Int) (a2 : Int) : Option (Int × Int × Int × Int × Int) := (conf_Check.f k a1_0 a1_1 a1_2 a1_3 a1_4).bind fun t140 => (if t140 = 0 then ((mint_isRange.f a2 1 2147483648).bind fun t141 => (mint_Mint_Op.j0 k a2 (!t141) s0_0 a1_0 a1_1 a1_2 a1_3 a1_4)) else (mint_Mint_Op.j0 k a2 true s0_0 a1_0 a1_1 a1_2 a1_3 a1_4))
set_option maxHeartbeats 8000000 in
set_option maxRecDepth 100000 in
theorem mint_Mint_Op.calls (k : Nat) (g : Nat) (s0_0 : Int) (a1_0 : Int) (a1_1 : Int) (a1_2 : Int) (a1_3 : Int) (a1_4 : Int) (a2 : Int) (r1 : Int) (r2 : Int) (r3 : Int) (r4 : Int) (r5 : Int) (w0 w : World) (hI : IsS71 w0 w g s0_0) (hB : Below w0.heap.size w0 w) (h : mint_Mint_Op.f k s0_0 a1_0 a1_1 a1_2 a1_3 a1_4 a2 = some (r1, r2, r3, r4, r5)) :
    Calls Try.prog 16 #[.pointer (some ⟨g, 0, none⟩), .agg #[.int .i64 a1_0, .int .i64 a1_1, .int .i64 a1_2, .int .i64 a1_3, .int .i64 a1_4], .int .i64 a2] w fun e w' => e = .returned (.agg #[.int .i64 r1, .int .u64 r2, .int .u64 r3, .int .i64 r4]) ∧ IsS71 w0 w' g r5 ∧ Below w0.heap.size w0 w' ∧ KeepBut w w' g none := by
  have hu31 := Try.underlying31
  have hu37 := Try.underlying37
  have HI0 := Aside0.mk hI
  have HK := Aside0.mk (KeepBut.refl w g none)
  have HL := Aside0.mk hB.size
  clear hI
  have HW0 := Aside0.mk hB.size
  have HB := Aside0.mk hB
  clear hB
  have H : ((conf_Check.f k a1_0 a1_1 a1_2 a1_3 a1_4).bind fun t140 => (if t140 = 0 then ((mint_isRange.f a2 1 2147483648).bind fun t141 => (mint_Mint_Op.j0 k a2 (!t141) s0_0 a1_0 a1_1 a1_2 a1_3 a1_4)) else (mint_Mint_Op.j0 k a2 true s0_0 a1_0 a1_1 a1_2 a1_3 a1_4))) = some (r1, r2, r3, r4, r5) := h
  clear h
  have HC4 := Aside0.mk H
  clear H
  go_enter Try.func16, Try.ntmps16
  go_upto_region 1 with (first | ((with_reducible refine gate_dst (N := 4) rfl ?_); refine box_event ?hg (N := 4) ?hd (cs := #[.int .i64 a1_0, .int .i64 a1_1, .int .i64 a1_2, .int .i64 a1_3, .int .i64 a1_4]) (t := 31) ?hr ?_; (case hd => rfl); (case hg => rfl); (case hr => first | (go_simp; done) | (go_simp; rfl)); intro gb138 hg w5 hbox hb; have n0_ := Aside0.mk (IsS71.below (by repeat (first | (with_reducible first | exact HI0.out | apply IsS71.alloc | apply IsS71.drewN | apply IsS71.drew | apply IsS71.set_0) | exact HI0.out)) hb); have n1_ := Aside0.mk (KeepBut.trans (by repeat (first | (with_reducible first | exact HK.out | apply KeepBut.set_ | apply keep_drewN | apply keep_drew | apply keep_alloc) | exact HK.out)) (KeepBut.of_below hb g none) (.inl rfl)); have n2_ := Aside0.mk (below_step (by repeat (first | (with_reducible first | exact HB.out | apply below_alloc | apply pw_below_drewN | apply below_drew1 | refine below_set ?_ (IsS71.ge HI0.out)) | exact HB.out)) hb); have n3_ := Aside0.mk (hbox); have n4_ := Aside0.mk ((by rw [hg]; exact (keep_size (w := w) (g := g) (row := none) (by repeat (first | (with_reducible first | exact HK.out | apply KeepBut.set_ | apply keep_drewN | apply keep_drew | apply keep_alloc) | exact HK.out))) : w.heap.size ≤ gb138)); have n5_ := Aside0.mk ((Nat.le_trans HW0.out (by rw [hg]; exact (keep_size (w := w) (g := g) (row := none) (by repeat (first | (with_reducible first | exact HK.out | apply KeepBut.set_ | apply keep_drewN | apply keep_drew | apply keep_alloc) | exact HK.out))) : w.heap.size ≤ gb138) : w0.heap.size ≤ gb138)); have n6_ := Aside0.mk ((by rw [hg]; exact Nat.ne_of_lt (IsS71.lt (show IsS71 w0 _ g s0_0 from by repeat (first | (with_reducible first | exact HI0.out | apply IsS71.alloc | apply IsS71.drewN | apply IsS71.drew | apply IsS71.set_0) | exact HI0.out))) : g ≠ gb138)); have n7_ := Aside0.mk ((by rw [hg]; exact Nat.ne_of_gt (IsS71.lt (show IsS71 w0 _ g s0_0 from by repeat (first | (with_reducible first | exact HI0.out | apply IsS71.alloc | apply IsS71.drewN | apply IsS71.drew | apply IsS71.set_0) | exact HI0.out))) : gb138 ≠ g)); clear HI0; clear HK; clear HB; have HI0 := n0_; have HK := n1_; have HB := n2_; have BK138 := n3_; have GW138 := n4_; have GE138 := n5_; have NB0_138 := n6_; have NB138_0 := n7_; clear n0_ n1_ n2_ n3_ n4_ n5_ n6_ n7_; clear hb hbox hg) | ((with_reducible refine gate_dst (N := 6) rfl ?_); refine box_event ?hg (N := 6) ?hd (cs := #[.int .i64 0, .int .u64 0, .int .u64 0, .int .i64 0]) (t := 37) ?hr ?_; (case hd => rfl); (case hg => rfl); (case hr => first | (go_simp; done) | (go_simp; rfl)); intro gb139 hg w6 hbox hb; have n0_ := Aside0.mk (IsS71.below (by repeat (first | (with_reducible first | exact HI0.out | apply IsS71.alloc | apply IsS71.drewN | apply IsS71.drew | apply IsS71.set_0 | refine IsS71.far ?_ NB0_138.out _) | exact HI0.out)) hb); have n1_ := Aside0.mk (blk_below (g := gb138) (o := .cells #[.int .i64 a1_0, .int .i64 a1_1, .int .i64 a1_2, .int .i64 a1_3, .int .i64 a1_4] 31 (0, 0)) (by (with_reducible repeat (first | refine blk_drewN ?_ _ | refine blk_drew ?_ | refine blk_alloc ?_ _)); exact BK138.out) hb); have n2_ := Aside0.mk (KeepBut.trans (by repeat (first | (with_reducible first | exact HK.out | apply KeepBut.set_ | apply keep_drewN | apply keep_drew | apply keep_alloc | refine keep_far ?_ GW138.out _) | exact HK.out)) (KeepBut.of_below hb g none) (.inl rfl)); have n3_ := Aside0.mk (below_step (by repeat (first | (with_reducible first | exact HB.out | apply below_alloc | apply pw_below_drewN | apply below_drew1 | refine below_set ?_ (IsS71.ge HI0.out) | refine below_set ?_ GE138.out) | exact HB.out)) hb); have n4_ := Aside0.mk (hbox); have n5_ := Aside0.mk ((by rw [hg]; exact (keep_size (w := w) (g := g) (row := none) (by repeat (first | (with_reducible first | exact HK.out | apply KeepBut.set_ | apply keep_drewN | apply keep_drew | apply keep_alloc | refine keep_far ?_ GW138.out _) | exact HK.out))) : w.heap.size ≤ gb139)); have n6_ := Aside0.mk ((Nat.le_trans HW0.out (by rw [hg]; exact (keep_size (w := w) (g := g) (row := none) (by repeat (first | (with_reducible first | exact HK.out | apply KeepBut.set_ | apply keep_drewN | apply keep_drew | apply keep_alloc | refine keep_far ?_ GW138.out _) | exact HK.out))) : w.heap.size ≤ gb139) : w0.heap.size ≤ gb139)); have n7_ := Aside0.mk ((by rw [hg]; exact Nat.ne_of_lt (blk_lt (g := gb138) (o := .cells #[.int .i64 a1_0, .int .i64 a1_1, .int .i64 a1_2, .int .i64 a1_3, .int .i64 a1_4] 31 (0, 0)) (by (with_reducible repeat (first | refine blk_drewN ?_ _ | refine blk_drew ?_ | refine blk_alloc ?_ _)); exact BK138.out)) : gb138 ≠ gb139)); have n8_ := Aside0.mk ((by rw [hg]; exact Nat.ne_of_gt (blk_lt (g := gb138) (o := .cells #[.int .i64 a1_0, .int .i64 a1_1, .int .i64 a1_2, .int .i64 a1_3, .int .i64 a1_4] 31 (0, 0)) (by (with_reducible repeat (first | refine blk_drewN ?_ _ | refine blk_drew ?_ | refine blk_alloc ?_ _)); exact BK138.out)) : gb139 ≠ gb138)); have n9_ := Aside0.mk ((by rw [hg]; exact Nat.ne_of_lt (IsS71.lt (show IsS71 w0 _ g s0_0 from by repeat (first | (with_reducible first | exact HI0.out | apply IsS71.alloc | apply IsS71.drewN | apply IsS71.drew | apply IsS71.set_0 | refine IsS71.far ?_ NB0_138.out _) | exact HI0.out))) : g ≠ gb139)); have n10_ := Aside0.mk ((by rw [hg]; exact Nat.ne_of_gt (IsS71.lt (show IsS71 w0 _ g s0_0 from by repeat (first | (with_reducible first | exact HI0.out | apply IsS71.alloc | apply IsS71.drewN | apply IsS71.drew | apply IsS71.set_0 | refine IsS71.far ?_ NB0_138.out _) | exact HI0.out))) : gb139 ≠ g)); clear HI0; clear BK138; clear HK; clear HB; have HI0 := n0_; have BK138 := n1_; have HK := n2_; have HB := n3_; have BK139 := n4_; have GW139 := n5_; have GE139 := n6_; have NB138_139 := n7_; have NB139_138 := n8_; have NB0_139 := n9_; have NB139_0 := n10_; clear n0_ n1_ n2_ n3_ n4_ n5_ n6_ n7_ n8_ n9_ n10_; clear hb hbox hg))
  (try simp only [Act.put, List.setIfInBounds_toArray, List.set_cons_zero, List.set_cons_succ])
  go_cut [19] (fun v19 wc => ∃ (kq : Nat) (x19_3 : Bool), v19 = .bool x19_3 ∧ Aside0 (mint_Mint_Op.j0 kq a2 x19_3 s0_0 a1_0 a1_1 a1_2 a1_3 a1_4 = some (r1, r2, r3, r4, r5)) ∧ Aside0 (kq ≤ k) ∧ Aside0 (wc.heap[gb138]? = some (.cells #[.int .i64 a1_0, .int .i64 a1_1, .int .i64 a1_2, .int .i64 a1_3, .int .i64 a1_4] 31 (0, 0))) ∧ Aside0 (wc.heap[gb139]? = some (.cells #[.int .i64 0, .int .u64 0, .int .u64 0, .int .i64 0] 37 (0, 0))) ∧ Aside0 (IsS71 w0 wc g s0_0) ∧ Aside0 (KeepBut w wc g none) ∧ Aside0 (Below w0.heap.size w0 wc))
  case first =>
    have H := HC4.out
    clear HC4
    replace H := Option.bind_eq_some_iff.mp H
    obtain ⟨t140, A70, H⟩ := H
    replace H : (if t140 = 0 then ((mint_isRange.f a2 1 2147483648).bind fun t141 => (mint_Mint_Op.j0 k a2 (!t141) s0_0 a1_0 a1_1 a1_2 a1_3 a1_4)) else (mint_Mint_Op.j0 k a2 true s0_0 a1_0 a1_1 a1_2 a1_3 a1_4)) = some (r1, r2, r3, r4, r5) := H
    have A7 := Aside0.mk A70
    clear A70
    by_cases c8 : t140 = 0
    · rw [if_pos c8] at H
      have c8b0 : (t140 == 0) = true := beq_iff_eq.mpr c8
      have c8b1 : (t140 != 0) = false := bne_eq_false_iff_eq.mpr c8
      clear c8
      (first | rw [c8b0] | (simp only [i64_w, i32_w]; rw [c8b0]) | skip)
      replace H := Option.bind_eq_some_iff.mp H
      obtain ⟨t141, A90, H⟩ := H
      replace H : (mint_Mint_Op.j0 k a2 (!t141) s0_0 a1_0 a1_1 a1_2 a1_3 a1_4) = some (r1, r2, r3, r4, r5) := H
      have A9 := Aside0.mk A90
      clear A90
      have H' := Aside0.mk H
      clear H
      have hnb10 := NB138_139.out
      have hnc10 := NB139_138.out
      have hnb11 := NB138_0.out
      have hnc11 := NB0_138.out
      have hcz12_0 : w6.cell? ⟨gb138, 0, none⟩ = some (.int .i64 a1_0) := (blk_cell BK138.out 0).trans rfl
      have hcz12_1 : w6.cell? ⟨gb138, 1, none⟩ = some (.int .i64 a1_1) := (blk_cell BK138.out 1).trans rfl
      have hcz12_2 : w6.cell? ⟨gb138, 2, none⟩ = some (.int .i64 a1_2) := (blk_cell BK138.out 2).trans rfl
      have hcz12_3 : w6.cell? ⟨gb138, 3, none⟩ = some (.int .i64 a1_3) := (blk_cell BK138.out 3).trans rfl
      have hcz12_4 : w6.cell? ⟨gb138, 4, none⟩ = some (.int .i64 a1_4) := (blk_cell BK138.out 4).trans rfl
      have hfz12_0 := blk_frozen BK138.out 0
      have hfz12_1 := blk_frozen BK138.out 1
      have hfz12_2 := blk_frozen BK138.out 2
      have hfz12_3 := blk_frozen BK138.out 3
      have hfz12_4 := blk_frozen BK138.out 4
      go_wp2_with (first | (go_at_call 38; (with_reducible refine (conf_Check.calls k a1_0 a1_1 a1_2 a1_3 a1_4 t140 _ A7.out).mono ?_); rintro e w13 ⟨rfl, hb⟩; have n0_ := Aside0.mk (IsS71.below (by repeat (first | (with_reducible first | exact HI0.out | apply IsS71.alloc | apply IsS71.drewN | apply IsS71.drew | apply IsS71.set_0 | refine IsS71.far ?_ NB0_138.out _ | refine IsS71.far ?_ NB0_139.out _) | exact HI0.out)) hb); have n1_ := Aside0.mk (blk_below (g := gb138) (o := .cells #[.int .i64 a1_0, .int .i64 a1_1, .int .i64 a1_2, .int .i64 a1_3, .int .i64 a1_4] 31 (0, 0)) (by (with_reducible repeat (first | refine blk_drewN ?_ _ | refine blk_drew ?_ | refine blk_alloc ?_ _)); exact BK138.out) hb); have n2_ := Aside0.mk (blk_below (g := gb139) (o := .cells #[.int .i64 0, .int .u64 0, .int .u64 0, .int .i64 0] 37 (0, 0)) (by (with_reducible repeat (first | refine blk_drewN ?_ _ | refine blk_drew ?_ | refine blk_alloc ?_ _)); exact BK139.out) hb); have n3_ := Aside0.mk (KeepBut.trans (by repeat (first | (with_reducible first | exact HK.out | apply KeepBut.set_ | apply keep_drewN | apply keep_drew | apply keep_alloc | refine keep_far ?_ GW138.out _ | refine keep_far ?_ GW139.out _) | exact HK.out)) (KeepBut.of_below hb g none) (.inl rfl)); have n4_ := Aside0.mk (below_step (by repeat (first | (with_reducible first | exact HB.out | apply below_alloc | apply pw_below_drewN | apply below_drew1 | refine below_set ?_ (IsS71.ge HI0.out) | refine below_set ?_ GE138.out | refine below_set ?_ GE139.out) | exact HB.out)) hb); clear HI0; clear BK138; clear BK139; clear HK; clear HB; have HI0 := n0_; have BK138 := n1_; have BK139 := n2_; have HK := n3_; have HB := n4_; clear n0_ n1_ n2_ n3_ n4_; (try clear hb); (try clear hb2); (try clear hk); (try clear hi)) | (go_at_call 37; (with_reducible refine (mint_isRange.calls a2 1 2147483648 t141 _ A9.out).mono ?_); rintro e w' ⟨rfl, ⟨nd, rfl⟩⟩))
      go_meet
      case rel => exact ⟨_, (!t141), (by first | rfl | (simp; done) | (simp [*]; done)), H', ⟨by first | omega | exact Nat.le_refl _⟩, ⟨by (with_reducible repeat (first | refine blk_drewN ?_ _ | refine blk_drew ?_ | refine blk_alloc ?_ _)); exact BK138.out⟩, ⟨by (with_reducible repeat (first | refine blk_drewN ?_ _ | refine blk_drew ?_ | refine blk_alloc ?_ _)); exact BK139.out⟩, ⟨by repeat (first | (with_reducible first | exact HI0.out | apply IsS71.alloc | apply IsS71.drewN | apply IsS71.drew | apply IsS71.set_0 | refine IsS71.far ?_ NB0_138.out _ | refine IsS71.far ?_ NB0_139.out _) | exact HI0.out)⟩, ⟨by repeat (first | (with_reducible first | exact HK.out | apply KeepBut.set_ | apply keep_drewN | apply keep_drew | apply keep_alloc | refine keep_far ?_ GW138.out _ | refine keep_far ?_ GW139.out _) | exact HK.out)⟩, ⟨by repeat (first | (with_reducible first | exact HB.out | apply below_alloc | apply pw_below_drewN | apply below_drew1 | refine below_set ?_ (IsS71.ge HI0.out) | refine below_set ?_ GE138.out | refine below_set ?_ GE139.out) | exact HB.out)⟩⟩
    · rw [if_neg c8] at H
      have c8b0 : (t140 == 0) = false := beq_eq_false_iff_ne.mpr c8
      have c8b1 : (t140 != 0) = true := bne_iff_ne.mpr c8
      (first | rw [c8b0] | (simp only [i64_w, i32_w]; rw [c8b0]) | skip)
      have H' := Aside0.mk H
      clear H
      have hnb14 := NB138_139.out
      have hnc14 := NB139_138.out
      have hnb15 := NB138_0.out
      have hnc15 := NB0_138.out
      have hcz16_0 : w6.cell? ⟨gb138, 0, none⟩ = some (.int .i64 a1_0) := (blk_cell BK138.out 0).trans rfl
      have hcz16_1 : w6.cell? ⟨gb138, 1, none⟩ = some (.int .i64 a1_1) := (blk_cell BK138.out 1).trans rfl
      have hcz16_2 : w6.cell? ⟨gb138, 2, none⟩ = some (.int .i64 a1_2) := (blk_cell BK138.out 2).trans rfl
      have hcz16_3 : w6.cell? ⟨gb138, 3, none⟩ = some (.int .i64 a1_3) := (blk_cell BK138.out 3).trans rfl
      have hcz16_4 : w6.cell? ⟨gb138, 4, none⟩ = some (.int .i64 a1_4) := (blk_cell BK138.out 4).trans rfl
      have hfz16_0 := blk_frozen BK138.out 0
      have hfz16_1 := blk_frozen BK138.out 1
      have hfz16_2 := blk_frozen BK138.out 2
      have hfz16_3 := blk_frozen BK138.out 3
      have hfz16_4 := blk_frozen BK138.out 4
      go_wp2_with (first | (go_at_call 38; (with_reducible refine (conf_Check.calls k a1_0 a1_1 a1_2 a1_3 a1_4 t140 _ A7.out).mono ?_); rintro e w17 ⟨rfl, hb⟩; have n0_ := Aside0.mk (IsS71.below (by repeat (first | (with_reducible first | exact HI0.out | apply IsS71.alloc | apply IsS71.drewN | apply IsS71.drew | apply IsS71.set_0 | refine IsS71.far ?_ NB0_138.out _ | refine IsS71.far ?_ NB0_139.out _) | exact HI0.out)) hb); have n1_ := Aside0.mk (blk_below (g := gb138) (o := .cells #[.int .i64 a1_0, .int .i64 a1_1, .int .i64 a1_2, .int .i64 a1_3, .int .i64 a1_4] 31 (0, 0)) (by (with_reducible repeat (first | refine blk_drewN ?_ _ | refine blk_drew ?_ | refine blk_alloc ?_ _)); exact BK138.out) hb); have n2_ := Aside0.mk (blk_below (g := gb139) (o := .cells #[.int .i64 0, .int .u64 0, .int .u64 0, .int .i64 0] 37 (0, 0)) (by (with_reducible repeat (first | refine blk_drewN ?_ _ | refine blk_drew ?_ | refine blk_alloc ?_ _)); exact BK139.out) hb); have n3_ := Aside0.mk (KeepBut.trans (by repeat (first | (with_reducible first | exact HK.out | apply KeepBut.set_ | apply keep_drewN | apply keep_drew | apply keep_alloc | refine keep_far ?_ GW138.out _ | refine keep_far ?_ GW139.out _) | exact HK.out)) (KeepBut.of_below hb g none) (.inl rfl)); have n4_ := Aside0.mk (below_step (by repeat (first | (with_reducible first | exact HB.out | apply below_alloc | apply pw_below_drewN | apply below_drew1 | refine below_set ?_ (IsS71.ge HI0.out) | refine below_set ?_ GE138.out | refine below_set ?_ GE139.out) | exact HB.out)) hb); clear HI0; clear BK138; clear BK139; clear HK; clear HB; have HI0 := n0_; have BK138 := n1_; have BK139 := n2_; have HK := n3_; have HB := n4_; clear n0_ n1_ n2_ n3_ n4_; (try clear hb); (try clear hb2); (try clear hk); (try clear hi)))
      go_meet
      case rel => exact ⟨_, (true), (by first | rfl | (simp; done) | (simp [*]; done)), H', ⟨by first | omega | exact Nat.le_refl _⟩, ⟨by (with_reducible repeat (first | refine blk_drewN ?_ _ | refine blk_drew ?_ | refine blk_alloc ?_ _)); exact BK138.out⟩, ⟨by (with_reducible repeat (first | refine blk_drewN ?_ _ | refine blk_drew ?_ | refine blk_alloc ?_ _)); exact BK139.out⟩, ⟨by repeat (first | (with_reducible first | exact HI0.out | apply IsS71.alloc | apply IsS71.drewN | apply IsS71.drew | apply IsS71.set_0 | refine IsS71.far ?_ NB0_138.out _ | refine IsS71.far ?_ NB0_139.out _) | exact HI0.out)⟩, ⟨by repeat (first | (with_reducible first | exact HK.out | apply KeepBut.set_ | apply keep_drewN | apply keep_drew | apply keep_alloc | refine keep_far ?_ GW138.out _ | refine keep_far ?_ GW139.out _) | exact HK.out)⟩, ⟨by repeat (first | (with_reducible first | exact HB.out | apply below_alloc | apply pw_below_drewN | apply below_drew1 | refine below_set ?_ (IsS71.ge HI0.out) | refine below_set ?_ GE138.out | refine below_set ?_ GE139.out) | exact HB.out)⟩⟩
  case rest =>
    clear HC4
    (try clear c1); (try clear p2); (try clear c8); (try clear c8b0); (try clear c8b1); (try clear c10); (try clear c11); (try clear c14); (try clear c15); (try clear c16); (try clear hcz12_0); (try clear hcz12_1)
    (try clear hcz12_2); (try clear hcz12_3); (try clear hcz12_4); (try clear hcz16_0); (try clear hcz16_1); (try clear hcz16_2); (try clear hcz16_3); (try clear hcz16_4); (try clear hfz12_0); (try clear hfz12_1); (try clear hfz12_2); (try clear hfz12_3)
    (try clear hfz12_4); (try clear hfz16_0); (try clear hfz16_1); (try clear hfz16_2); (try clear hfz16_3); (try clear hfz16_4)
    obtain ⟨kq, x19_3, rfl, HA, HJ3, BK138, BK139, HI0, HK, HB⟩ := hcut
    cases kq with
    | zero => exact absurd HA.out (by simp [mint_Mint_Op.j0])
    | succ kj3 =>
      have H := HA.out
      clear HA
      simp only [mint_Mint_Op.j0] at H
      by_cases c18 : x19_3 = true
      · subst c18
        have H1 : (some (0, 0, 0, 0, s0_0)) = some (r1, r2, r3, r4, r5) := by rw [if_pos rfl] at H; exact H
        clear H
        have H := H1
        clear H1
        simp only [Option.some.injEq, Prod.mk.injEq] at H
        obtain ⟨rfl, rfl, rfl, rfl, rfl⟩ := H
        have hnb19 := NB139_138.out
        have hnc19 := NB138_139.out
        have hnb20 := NB139_0.out
        have hnc20 := NB0_139.out
        have hcz21_0 : wc.cell? ⟨gb139, 0, none⟩ = some (.int .i64 0) := (blk_cell BK139.out 0).trans rfl
        have hcz21_1 : wc.cell? ⟨gb139, 1, none⟩ = some (.int .u64 0) := (blk_cell BK139.out 1).trans rfl
        have hcz21_2 : wc.cell? ⟨gb139, 2, none⟩ = some (.int .u64 0) := (blk_cell BK139.out 2).trans rfl
        have hcz21_3 : wc.cell? ⟨gb139, 3, none⟩ = some (.int .i64 0) := (blk_cell BK139.out 3).trans rfl
        have hfz21_0 := blk_frozen BK139.out 0
        have hfz21_1 := blk_frozen BK139.out 1
        have hfz21_2 := blk_frozen BK139.out 2
        have hfz21_3 := blk_frozen BK139.out 3
        go_wp2
        refine bodyPost_ret (results_cell_row rfl _ _ gb139 37 #[.int .i64 0, .int .u64 0, .int .u64 0, .int .i64 0] (0, 0) _ rfl (by (with_reducible repeat (first | refine blk_drewN ?_ _ | refine blk_drew ?_ | refine blk_alloc ?_ _)); refine blk_put (cs := #[.int .i64 0, .int .u64 0, .int .u64 0, .int .i64 0]) ?_ 3 _ rfl; (with_reducible repeat (first | refine blk_drewN ?_ _ | refine blk_drew ?_ | refine blk_alloc ?_ _)); refine blk_put (cs := #[.int .i64 0, .int .u64 0, .int .u64 0, .int .i64 0]) ?_ 2 _ rfl; (with_reducible repeat (first | refine blk_drewN ?_ _ | refine blk_drew ?_ | refine blk_alloc ?_ _)); refine blk_put (cs := #[.int .i64 0, .int .u64 0, .int .u64 0, .int .i64 0]) ?_ 1 _ rfl; (with_reducible repeat (first | refine blk_drewN ?_ _ | refine blk_drew ?_ | refine blk_alloc ?_ _)); refine blk_put (cs := #[.int .i64 0, .int .u64 0, .int .u64 0, .int .i64 0]) ?_ 0 _ rfl; (with_reducible repeat (first | refine blk_drewN ?_ _ | refine blk_drew ?_ | refine blk_alloc ?_ _)); exact BK139.out) Try.underlying37 rfl (by kernel_rfl)) rfl ?_
        exact ⟨by first | rfl | (simp [errW_none, errW_some] <;> rfl) | (simp [*, errW_none, errW_some] <;> rfl), by repeat (first | (with_reducible first | exact HI0.out | apply IsS71.alloc | apply IsS71.drewN | apply IsS71.drew | apply IsS71.set_0 | refine IsS71.far ?_ NB0_138.out _ | refine IsS71.far ?_ NB0_139.out _) | exact HI0.out), by repeat (first | (with_reducible first | exact HB.out | apply below_alloc | apply pw_below_drewN | apply below_drew1 | refine below_set ?_ (IsS71.ge HI0.out) | refine below_set ?_ GE138.out | refine below_set ?_ GE139.out) | exact HB.out), by repeat (first | (with_reducible first | exact HK.out | apply KeepBut.set_ | apply keep_drewN | apply keep_drew | apply keep_alloc | refine keep_far ?_ GW138.out _ | refine keep_far ?_ GW139.out _) | exact HK.out)⟩
      · replace c18 := Bool.eq_false_iff.mpr c18
        subst c18
        have H1 : ((mint_Mint_kind.f s0_0 a1_0 a1_1 a1_2 a1_3 a1_4).bind fun bt142 => (if bt142.1 = 8 then (mint_Mint_Op.j1 kj3 bt142.2 a1_0 a1_1 a1_2 a1_3 a1_4 bt142.1 0 0 0) else ((mint_Mint_Below.f bt142.2 a2).bind fun bt145 => (mint_Mint_Op.j1 kj3 bt145.2 a1_0 a1_1 a1_2 a1_3 a1_4 bt142.1 (IntKind.u64.wrap (bt145.1)) 0 0)))) = some (r1, r2, r3, r4, r5) := by rw [if_neg (show ¬ (false = true) by decide)] at H; exact H
        clear H
        have H := H1
        clear H1
        replace H := Option.bind_eq_some_iff.mp H
        obtain ⟨⟨t142, t143⟩, A220, H⟩ := H
        replace H : (if t142 = 8 then (mint_Mint_Op.j1 kj3 t143 a1_0 a1_1 a1_2 a1_3 a1_4 t142 0 0 0) else ((mint_Mint_Below.f t143 a2).bind fun bt145 => (mint_Mint_Op.j1 kj3 bt145.2 a1_0 a1_1 a1_2 a1_3 a1_4 t142 (IntKind.u64.wrap (bt145.1)) 0 0))) = some (r1, r2, r3, r4, r5) := H
        have A22 := Aside0.mk A220
        clear A220
        have HC23 := Aside0.mk H
        clear H
        have hnb24 := NB138_139.out
        have hnc24 := NB139_138.out
        have hnb25 := NB138_0.out
        have hnc25 := NB0_138.out
        have hcz26_0 : wc.cell? ⟨gb138, 0, none⟩ = some (.int .i64 a1_0) := (blk_cell BK138.out 0).trans rfl
        have hcz26_1 : wc.cell? ⟨gb138, 1, none⟩ = some (.int .i64 a1_1) := (blk_cell BK138.out 1).trans rfl
        have hcz26_2 : wc.cell? ⟨gb138, 2, none⟩ = some (.int .i64 a1_2) := (blk_cell BK138.out 2).trans rfl
        have hcz26_3 : wc.cell? ⟨gb138, 3, none⟩ = some (.int .i64 a1_3) := (blk_cell BK138.out 3).trans rfl
        have hcz26_4 : wc.cell? ⟨gb138, 4, none⟩ = some (.int .i64 a1_4) := (blk_cell BK138.out 4).trans rfl
        have hfz26_0 := blk_frozen BK138.out 0
        have hfz26_1 := blk_frozen BK138.out 1
        have hfz26_2 := blk_frozen BK138.out 2
        have hfz26_3 := blk_frozen BK138.out 3
        have hfz26_4 := blk_frozen BK138.out 4
        go_upto_if 27 with (first | ((with_reducible refine gate_callee (f := 39) rfl ?_); refine goesL_ (some 23) rfl rfl Try.func39 (by kernel_rfl) rfl #[.pointer (some ⟨g, 0, none⟩), .agg #[.int .i64 a1_0, .int .i64 a1_1, .int .i64 a1_2, .int .i64 a1_3, .int .i64 a1_4]] rfl (by (try simp only [List.map_toArray, List.map_cons, List.map_nil]); first | done | rfl | (simp only [List.length_drop, List.length_take]; rfl)) ?_; (with_reducible refine (mint_Mint_kind.calls g s0_0 a1_0 a1_1 a1_2 a1_3 a1_4 t142 t143 w0 _ ?side1 ?side2 A22.out).mono ?_); (case side1 => repeat (first | (with_reducible first | exact HI0.out | apply IsS71.alloc | apply IsS71.drewN | apply IsS71.drew | apply IsS71.set_0 | refine IsS71.far ?_ NB0_138.out _ | refine IsS71.far ?_ NB0_139.out _) | exact HI0.out)); (case side2 => repeat (first | (with_reducible first | exact HB.out | apply below_alloc | apply pw_below_drewN | apply below_drew1 | refine below_set ?_ (IsS71.ge HI0.out) | refine below_set ?_ GE138.out | refine below_set ?_ GE139.out) | exact HB.out)); rintro e w27 ⟨rfl, hi, hb, hk⟩; refine ⟨_, rfl, ?_⟩; have n0_ := Aside0.mk (KeepBut.blk hk (g' := gb138) (o := .cells #[.int .i64 a1_0, .int .i64 a1_1, .int .i64 a1_2, .int .i64 a1_3, .int .i64 a1_4] 31 (0, 0)) (by (with_reducible repeat (first | refine blk_drewN ?_ _ | refine blk_drew ?_ | refine blk_alloc ?_ _)); exact BK138.out) NB138_0.out (by simp)); have n1_ := Aside0.mk (KeepBut.blk hk (g' := gb139) (o := .cells #[.int .i64 0, .int .u64 0, .int .u64 0, .int .i64 0] 37 (0, 0)) (by (with_reducible repeat (first | refine blk_drewN ?_ _ | refine blk_drew ?_ | refine blk_alloc ?_ _)); exact BK139.out) NB139_0.out (by simp)); have n2_ := Aside0.mk (KeepBut.trans (by repeat (first | (with_reducible first | exact HK.out | apply KeepBut.set_ | apply keep_drewN | apply keep_drew | apply keep_alloc | refine keep_far ?_ GW138.out _ | refine keep_far ?_ GW139.out _) | exact HK.out)) hk (.inl rfl)); have n3_ := Aside0.mk (hb); have n4_ := Aside0.mk (hi); clear BK138; clear BK139; clear HK; clear HB; clear HI0; have BK138 := n0_; have BK139 := n1_; have HK := n2_; have HB := n3_; have HI0 := n4_; clear n0_ n1_ n2_ n3_ n4_; (try clear hb); (try clear hb2); (try clear hk); (try clear hi)) | ((with_reducible refine gate_dst (N := 7) rfl ?_); refine box_event ?hg (N := 7) ?hd (cs := #[.int .i64 0, .int .u64 0, .int .u64 0, .int .i64 0]) (t := 37) ?hr ?_; (case hd => rfl); (case hg => rfl); (case hr => first | (go_simp; done) | (go_simp; rfl)); intro gb144 hg w28 hbox hb; have n0_ := Aside0.mk (blk_below (g := gb138) (o := .cells #[.int .i64 a1_0, .int .i64 a1_1, .int .i64 a1_2, .int .i64 a1_3, .int .i64 a1_4] 31 (0, 0)) (by (with_reducible repeat (first | refine blk_drewN ?_ _ | refine blk_drew ?_ | refine blk_alloc ?_ _)); exact BK138.out) hb); have n1_ := Aside0.mk (blk_below (g := gb139) (o := .cells #[.int .i64 0, .int .u64 0, .int .u64 0, .int .i64 0] 37 (0, 0)) (by (with_reducible repeat (first | refine blk_drewN ?_ _ | refine blk_drew ?_ | refine blk_alloc ?_ _)); exact BK139.out) hb); have n2_ := Aside0.mk (IsS71.below (by repeat (first | (with_reducible first | exact HI0.out | apply IsS71.alloc | apply IsS71.drewN | apply IsS71.drew | apply IsS71.set_0 | refine IsS71.far ?_ NB0_138.out _ | refine IsS71.far ?_ NB0_139.out _) | exact HI0.out)) hb); have n3_ := Aside0.mk (KeepBut.trans (by repeat (first | (with_reducible first | exact HK.out | apply KeepBut.set_ | apply keep_drewN | apply keep_drew | apply keep_alloc | refine keep_far ?_ GW138.out _ | refine keep_far ?_ GW139.out _) | exact HK.out)) (KeepBut.of_below hb g none) (.inl rfl)); have n4_ := Aside0.mk (below_step (by repeat (first | (with_reducible first | exact HB.out | apply below_alloc | apply pw_below_drewN | apply below_drew1 | refine below_set ?_ (IsS71.ge HI0.out) | refine below_set ?_ GE138.out | refine below_set ?_ GE139.out) | exact HB.out)) hb); have n5_ := Aside0.mk (hbox); have n6_ := Aside0.mk ((by rw [hg]; exact (keep_size (w := w) (g := g) (row := none) (by repeat (first | (with_reducible first | exact HK.out | apply KeepBut.set_ | apply keep_drewN | apply keep_drew | apply keep_alloc | refine keep_far ?_ GW138.out _ | refine keep_far ?_ GW139.out _) | exact HK.out))) : w.heap.size ≤ gb144)); have n7_ := Aside0.mk ((Nat.le_trans HW0.out (by rw [hg]; exact (keep_size (w := w) (g := g) (row := none) (by repeat (first | (with_reducible first | exact HK.out | apply KeepBut.set_ | apply keep_drewN | apply keep_drew | apply keep_alloc | refine keep_far ?_ GW138.out _ | refine keep_far ?_ GW139.out _) | exact HK.out))) : w.heap.size ≤ gb144) : w0.heap.size ≤ gb144)); have n8_ := Aside0.mk ((by rw [hg]; exact Nat.ne_of_lt (blk_lt (g := gb138) (o := .cells #[.int .i64 a1_0, .int .i64 a1_1, .int .i64 a1_2, .int .i64 a1_3, .int .i64 a1_4] 31 (0, 0)) (by (with_reducible repeat (first | refine blk_drewN ?_ _ | refine blk_drew ?_ | refine blk_alloc ?_ _)); exact BK138.out)) : gb138 ≠ gb144)); have n9_ := Aside0.mk ((by rw [hg]; exact Nat.ne_of_gt (blk_lt (g := gb138) (o := .cells #[.int .i64 a1_0, .int .i64 a1_1, .int .i64 a1_2, .int .i64 a1_3, .int .i64 a1_4] 31 (0, 0)) (by (with_reducible repeat (first | refine blk_drewN ?_ _ | refine blk_drew ?_ | refine blk_alloc ?_ _)); exact BK138.out)) : gb144 ≠ gb138)); have n10_ := Aside0.mk ((by rw [hg]; exact Nat.ne_of_lt (blk_lt (g := gb139) (o := .cells #[.int .i64 0, .int .u64 0, .int .u64 0, .int .i64 0] 37 (0, 0)) (by (with_reducible repeat (first | refine blk_drewN ?_ _ | refine blk_drew ?_ | refine blk_alloc ?_ _)); exact BK139.out)) : gb139 ≠ gb144)); have n11_ := Aside0.mk ((by rw [hg]; exact Nat.ne_of_gt (blk_lt (g := gb139) (o := .cells #[.int .i64 0, .int .u64 0, .int .u64 0, .int .i64 0] 37 (0, 0)) (by (with_reducible repeat (first | refine blk_drewN ?_ _ | refine blk_drew ?_ | refine blk_alloc ?_ _)); exact BK139.out)) : gb144 ≠ gb139)); have n12_ := Aside0.mk ((by rw [hg]; exact Nat.ne_of_lt (IsS71.lt (show IsS71 w0 _ g t143 from by repeat (first | (with_reducible first | exact HI0.out | apply IsS71.alloc | apply IsS71.drewN | apply IsS71.drew | apply IsS71.set_0 | refine IsS71.far ?_ NB0_138.out _ | refine IsS71.far ?_ NB0_139.out _) | exact HI0.out))) : g ≠ gb144)); have n13_ := Aside0.mk ((by rw [hg]; exact Nat.ne_of_gt (IsS71.lt (show IsS71 w0 _ g t143 from by repeat (first | (with_reducible first | exact HI0.out | apply IsS71.alloc | apply IsS71.drewN | apply IsS71.drew | apply IsS71.set_0 | refine IsS71.far ?_ NB0_138.out _ | refine IsS71.far ?_ NB0_139.out _) | exact HI0.out))) : gb144 ≠ g)); clear BK138; clear BK139; clear HI0; clear HK; clear HB; have BK138 := n0_; have BK139 := n1_; have HI0 := n2_; have HK := n3_; have HB := n4_; have BK144 := n5_; have GW144 := n6_; have GE144 := n7_; have NB138_144 := n8_; have NB144_138 := n9_; have NB139_144 := n10_; have NB144_139 := n11_; have NB0_144 := n12_; have NB144_0 := n13_; clear n0_ n1_ n2_ n3_ n4_ n5_ n6_ n7_ n8_ n9_ n10_ n11_ n12_ n13_; clear hb hbox hg; have hnb29 := NB144_138.out; have hnc29 := NB138_144.out; have hnb30 := NB144_139.out; have hnc30 := NB139_144.out; have hnb31 := NB144_0.out; have hnc31 := NB0_144.out; have hcz32_0 : w28.cell? ⟨gb144, 0, none⟩ = some (.int .i64 0) := (blk_cell BK144.out 0).trans rfl; have hcz32_1 : w28.cell? ⟨gb144, 1, none⟩ = some (.int .u64 0) := (blk_cell BK144.out 1).trans rfl; have hcz32_2 : w28.cell? ⟨gb144, 2, none⟩ = some (.int .u64 0) := (blk_cell BK144.out 2).trans rfl; have hcz32_3 : w28.cell? ⟨gb144, 3, none⟩ = some (.int .i64 0) := (blk_cell BK144.out 3).trans rfl; have hfz32_0 := blk_frozen BK144.out 0; have hfz32_1 := blk_frozen BK144.out 1; have hfz32_2 := blk_frozen BK144.out 2; have hfz32_3 := blk_frozen BK144.out 3))
        (try simp only [Act.put, List.setIfInBounds_toArray, List.set_cons_zero, List.set_cons_succ])
        go_cut [] (fun wc => ∃ (kq : Nat) (x1000_22 : Int) (x145001_22 : Int), Aside0 (mint_Mint_Op.j1 kq x1000_22 a1_0 a1_1 a1_2 a1_3 a1_4 t142 x145001_22 0 0 = some (r1, r2, r3, r4, r5)) ∧ Aside0 (kq ≤ kj3) ∧ Aside0 (wc.heap[gb138]? = some (.cells #[.int .i64 a1_0, .int .i64 a1_1, .int .i64 a1_2, .int .i64 a1_3, .int .i64 a1_4] 31 (0, 0))) ∧ Aside0 (wc.heap[gb139]? = some (.cells #[.int .i64 0, .int .u64 0, .int .u64 0, .int .i64 0] 37 (0, 0))) ∧ Aside0 (wc.heap[gb144]? = some (.cells #[.int .i64 t142, .int .u64 x145001_22, .int .u64 0, .int .i64 0] 37 (0, 0))) ∧ Aside0 (IsS71 w0 wc g x1000_22) ∧ Aside0 (KeepBut w wc g none) ∧ Aside0 (Below w0.heap.size w0 wc))
        case first =>
          have H := HC23.out
          clear HC23
          by_cases c33 : t142 = 8
          · rw [if_pos c33] at H
            have c33b0 : (t142 == 8) = true := beq_iff_eq.mpr c33
            have c33b1 : (t142 != 8) = false := bne_eq_false_iff_eq.mpr c33
            clear c33
            (first | rw [c33b0] | (simp only [i64_w, i32_w]; rw [c33b0]) | skip)
            have H' := Aside0.mk H
            clear H
            go_wp2
            go_meet
            case rel => exact ⟨_, (t143), (0), H', ⟨by have := HJ3.out; first | omega | exact Nat.le_refl _⟩, ⟨by (with_reducible repeat (first | refine blk_drewN ?_ _ | refine blk_drew ?_ | refine blk_alloc ?_ _)); refine blk_far ?_ NB138_144.out _; (with_reducible repeat (first | refine blk_drewN ?_ _ | refine blk_drew ?_ | refine blk_alloc ?_ _)); refine blk_far ?_ NB138_144.out _; (with_reducible repeat (first | refine blk_drewN ?_ _ | refine blk_drew ?_ | refine blk_alloc ?_ _)); refine blk_far ?_ NB138_144.out _; (with_reducible repeat (first | refine blk_drewN ?_ _ | refine blk_drew ?_ | refine blk_alloc ?_ _)); refine blk_far ?_ NB138_144.out _; (with_reducible repeat (first | refine blk_drewN ?_ _ | refine blk_drew ?_ | refine blk_alloc ?_ _)); exact BK138.out⟩, ⟨by (with_reducible repeat (first | refine blk_drewN ?_ _ | refine blk_drew ?_ | refine blk_alloc ?_ _)); refine blk_far ?_ NB139_144.out _; (with_reducible repeat (first | refine blk_drewN ?_ _ | refine blk_drew ?_ | refine blk_alloc ?_ _)); refine blk_far ?_ NB139_144.out _; (with_reducible repeat (first | refine blk_drewN ?_ _ | refine blk_drew ?_ | refine blk_alloc ?_ _)); refine blk_far ?_ NB139_144.out _; (with_reducible repeat (first | refine blk_drewN ?_ _ | refine blk_drew ?_ | refine blk_alloc ?_ _)); refine blk_far ?_ NB139_144.out _; (with_reducible repeat (first | refine blk_drewN ?_ _ | refine blk_drew ?_ | refine blk_alloc ?_ _)); exact BK139.out⟩, ⟨by (with_reducible repeat (first | refine blk_drewN ?_ _ | refine blk_drew ?_ | refine blk_alloc ?_ _)); refine blk_put (cs := #[.int .i64 t142, .int .u64 0, .int .u64 0, .int .i64 0]) ?_ 3 _ rfl; (with_reducible repeat (first | refine blk_drewN ?_ _ | refine blk_drew ?_ | refine blk_alloc ?_ _)); refine blk_put (cs := #[.int .i64 t142, .int .u64 0, .int .u64 0, .int .i64 0]) ?_ 2 _ rfl; (with_reducible repeat (first | refine blk_drewN ?_ _ | refine blk_drew ?_ | refine blk_alloc ?_ _)); refine blk_put (cs := #[.int .i64 t142, .int .u64 0, .int .u64 0, .int .i64 0]) ?_ 1 _ rfl; (with_reducible repeat (first | refine blk_drewN ?_ _ | refine blk_drew ?_ | refine blk_alloc ?_ _)); refine blk_put (cs := #[.int .i64 0, .int .u64 0, .int .u64 0, .int .i64 0]) ?_ 0 _ rfl; (with_reducible repeat (first | refine blk_drewN ?_ _ | refine blk_drew ?_ | refine blk_alloc ?_ _)); exact BK144.out⟩, ⟨by repeat (first | (with_reducible first | exact HI0.out | apply IsS71.alloc | apply IsS71.drewN | apply IsS71.drew | apply IsS71.set_0 | refine IsS71.far ?_ NB0_138.out _ | refine IsS71.far ?_ NB0_139.out _ | refine IsS71.far ?_ NB0_144.out _) | exact HI0.out)⟩, ⟨by repeat (first | (with_reducible first | exact HK.out | apply KeepBut.set_ | apply keep_drewN | apply keep_drew | apply keep_alloc | refine keep_far ?_ GW138.out _ | refine keep_far ?_ GW139.out _ | refine keep_far ?_ GW144.out _) | exact HK.out)⟩, ⟨by repeat (first | (with_reducible first | exact HB.out | apply below_alloc | apply pw_below_drewN | apply below_drew1 | refine below_set ?_ (IsS71.ge HI0.out) | refine below_set ?_ GE138.out | refine below_set ?_ GE139.out | refine below_set ?_ GE144.out) | exact HB.out)⟩⟩
          · rw [if_neg c33] at H
            have c33b0 : (t142 == 8) = false := beq_eq_false_iff_ne.mpr c33
            have c33b1 : (t142 != 8) = true := bne_iff_ne.mpr c33
            (first | rw [c33b0] | (simp only [i64_w, i32_w]; rw [c33b0]) | skip)
            replace H := Option.bind_eq_some_iff.mp H
            obtain ⟨⟨t145, t146⟩, A340, H⟩ := H
            replace H : (mint_Mint_Op.j1 kj3 t146 a1_0 a1_1 a1_2 a1_3 a1_4 t142 (IntKind.u64.wrap (t145)) 0 0) = some (r1, r2, r3, r4, r5) := H
            have A34 := Aside0.mk A340
            clear A340
            have H' := Aside0.mk H
            clear H
            go_wp2_with (first | ((with_reducible refine gate_callee (f := 15) rfl ?_); refine goesL_ (some 30) rfl rfl Try.func15 (by kernel_rfl) rfl #[.pointer (some ⟨g, 0, none⟩), .int .i64 a2] rfl (by (try simp only [List.map_toArray, List.map_cons, List.map_nil]); first | done | rfl | (simp only [List.length_drop, List.length_take]; rfl)) ?_; (with_reducible refine (mint_Mint_Below.calls g t143 a2 t145 t146 w0 _ ?side1 ?side2 A34.out).mono ?_); (case side1 => repeat (first | (with_reducible first | exact HI0.out | apply IsS71.alloc | apply IsS71.drewN | apply IsS71.drew | apply IsS71.set_0 | refine IsS71.far ?_ NB0_138.out _ | refine IsS71.far ?_ NB0_139.out _ | refine IsS71.far ?_ NB0_144.out _) | exact HI0.out)); (case side2 => repeat (first | (with_reducible first | exact HB.out | apply below_alloc | apply pw_below_drewN | apply below_drew1 | refine below_set ?_ (IsS71.ge HI0.out) | refine below_set ?_ GE138.out | refine below_set ?_ GE139.out | refine below_set ?_ GE144.out) | exact HB.out)); rintro e w35 ⟨rfl, hi, hb, hk⟩; refine ⟨_, rfl, ?_⟩; have n0_ := Aside0.mk (KeepBut.blk hk (g' := gb138) (o := .cells #[.int .i64 a1_0, .int .i64 a1_1, .int .i64 a1_2, .int .i64 a1_3, .int .i64 a1_4] 31 (0, 0)) (by (with_reducible repeat (first | refine blk_drewN ?_ _ | refine blk_drew ?_ | refine blk_alloc ?_ _)); refine blk_far ?_ NB138_144.out _; (with_reducible repeat (first | refine blk_drewN ?_ _ | refine blk_drew ?_ | refine blk_alloc ?_ _)); refine blk_far ?_ NB138_144.out _; (with_reducible repeat (first | refine blk_drewN ?_ _ | refine blk_drew ?_ | refine blk_alloc ?_ _)); refine blk_far ?_ NB138_144.out _; (with_reducible repeat (first | refine blk_drewN ?_ _ | refine blk_drew ?_ | refine blk_alloc ?_ _)); refine blk_far ?_ NB138_144.out _; (with_reducible repeat (first | refine blk_drewN ?_ _ | refine blk_drew ?_ | refine blk_alloc ?_ _)); exact BK138.out) NB138_0.out (by simp)); have n1_ := Aside0.mk (KeepBut.blk hk (g' := gb139) (o := .cells #[.int .i64 0, .int .u64 0, .int .u64 0, .int .i64 0] 37 (0, 0)) (by (with_reducible repeat (first | refine blk_drewN ?_ _ | refine blk_drew ?_ | refine blk_alloc ?_ _)); refine blk_far ?_ NB139_144.out _; (with_reducible repeat (first | refine blk_drewN ?_ _ | refine blk_drew ?_ | refine blk_alloc ?_ _)); refine blk_far ?_ NB139_144.out _; (with_reducible repeat (first | refine blk_drewN ?_ _ | refine blk_drew ?_ | refine blk_alloc ?_ _)); refine blk_far ?_ NB139_144.out _; (with_reducible repeat (first | refine blk_drewN ?_ _ | refine blk_drew ?_ | refine blk_alloc ?_ _)); refine blk_far ?_ NB139_144.out _; (with_reducible repeat (first | refine blk_drewN ?_ _ | refine blk_drew ?_ | refine blk_alloc ?_ _)); exact BK139.out) NB139_0.out (by simp)); have n2_ := Aside0.mk (KeepBut.blk hk (g' := gb144) (o := .cells #[.int .i64 t142, .int .u64 0, .int .u64 0, .int .i64 0] 37 (0, 0)) (by (with_reducible repeat (first | refine blk_drewN ?_ _ | refine blk_drew ?_ | refine blk_alloc ?_ _)); refine blk_put (cs := #[.int .i64 t142, .int .u64 0, .int .u64 0, .int .i64 0]) ?_ 3 _ rfl; (with_reducible repeat (first | refine blk_drewN ?_ _ | refine blk_drew ?_ | refine blk_alloc ?_ _)); refine blk_put (cs := #[.int .i64 t142, .int .u64 0, .int .u64 0, .int .i64 0]) ?_ 2 _ rfl; (with_reducible repeat (first | refine blk_drewN ?_ _ | refine blk_drew ?_ | refine blk_alloc ?_ _)); refine blk_put (cs := #[.int .i64 t142, .int .u64 0, .int .u64 0, .int .i64 0]) ?_ 1 _ rfl; (with_reducible repeat (first | refine blk_drewN ?_ _ | refine blk_drew ?_ | refine blk_alloc ?_ _)); refine blk_put (cs := #[.int .i64 0, .int .u64 0, .int .u64 0, .int .i64 0]) ?_ 0 _ rfl; (with_reducible repeat (first | refine blk_drewN ?_ _ | refine blk_drew ?_ | refine blk_alloc ?_ _)); exact BK144.out) NB144_0.out (by simp)); have n3_ := Aside0.mk (KeepBut.trans (by repeat (first | (with_reducible first | exact HK.out | apply KeepBut.set_ | apply keep_drewN | apply keep_drew | apply keep_alloc | refine keep_far ?_ GW138.out _ | refine keep_far ?_ GW139.out _ | refine keep_far ?_ GW144.out _) | exact HK.out)) hk (.inl rfl)); have n4_ := Aside0.mk (hb); have n5_ := Aside0.mk (hi); clear BK138; clear BK139; clear BK144; clear HK; clear HB; clear HI0; have BK138 := n0_; have BK139 := n1_; have BK144 := n2_; have HK := n3_; have HB := n4_; have HI0 := n5_; clear n0_ n1_ n2_ n3_ n4_ n5_; (try clear hb); (try clear hb2); (try clear hk); (try clear hi); have hnb36 := NB144_138.out; have hnc36 := NB138_144.out; have hnb37 := NB144_139.out; have hnc37 := NB139_144.out; have hnb38 := NB144_0.out; have hnc38 := NB0_144.out; have hcz39_0 : w35.cell? ⟨gb144, 0, none⟩ = some (.int .i64 t142) := (blk_cell BK144.out 0).trans rfl; have hcz39_1 : w35.cell? ⟨gb144, 1, none⟩ = some (.int .u64 0) := (blk_cell BK144.out 1).trans rfl; have hcz39_2 : w35.cell? ⟨gb144, 2, none⟩ = some (.int .u64 0) := (blk_cell BK144.out 2).trans rfl; have hcz39_3 : w35.cell? ⟨gb144, 3, none⟩ = some (.int .i64 0) := (blk_cell BK144.out 3).trans rfl; have hfz39_0 := blk_frozen BK144.out 0; have hfz39_1 := blk_frozen BK144.out 1; have hfz39_2 := blk_frozen BK144.out 2; have hfz39_3 := blk_frozen BK144.out 3))
            go_meet
            case rel => exact ⟨_, (t146), (IntKind.u64.wrap (t145)), H', ⟨by have := HJ3.out; first | omega | exact Nat.le_refl _⟩, ⟨by (with_reducible repeat (first | refine blk_drewN ?_ _ | refine blk_drew ?_ | refine blk_alloc ?_ _)); refine blk_far ?_ NB138_144.out _; (with_reducible repeat (first | refine blk_drewN ?_ _ | refine blk_drew ?_ | refine blk_alloc ?_ _)); exact BK138.out⟩, ⟨by (with_reducible repeat (first | refine blk_drewN ?_ _ | refine blk_drew ?_ | refine blk_alloc ?_ _)); refine blk_far ?_ NB139_144.out _; (with_reducible repeat (first | refine blk_drewN ?_ _ | refine blk_drew ?_ | refine blk_alloc ?_ _)); exact BK139.out⟩, ⟨by (with_reducible repeat (first | refine blk_drewN ?_ _ | refine blk_drew ?_ | refine blk_alloc ?_ _)); refine blk_put (cs := #[.int .i64 t142, .int .u64 0, .int .u64 0, .int .i64 0]) ?_ 1 _ rfl; (with_reducible repeat (first | refine blk_drewN ?_ _ | refine blk_drew ?_ | refine blk_alloc ?_ _)); exact BK144.out⟩, ⟨by repeat (first | (with_reducible first | exact HI0.out | apply IsS71.alloc | apply IsS71.drewN | apply IsS71.drew | apply IsS71.set_0 | refine IsS71.far ?_ NB0_138.out _ | refine IsS71.far ?_ NB0_139.out _ | refine IsS71.far ?_ NB0_144.out _) | exact HI0.out)⟩, ⟨by repeat (first | (with_reducible first | exact HK.out | apply KeepBut.set_ | apply keep_drewN | apply keep_drew | apply keep_alloc | refine keep_far ?_ GW138.out _ | refine keep_far ?_ GW139.out _ | refine keep_far ?_ GW144.out _) | exact HK.out)⟩, ⟨by repeat (first | (with_reducible first | exact HB.out | apply below_alloc | apply pw_below_drewN | apply below_drew1 | refine below_set ?_ (IsS71.ge HI0.out) | refine below_set ?_ GE138.out | refine below_set ?_ GE139.out | refine below_set ?_ GE144.out) | exact HB.out)⟩⟩
        case rest =>
          clear HC23
          (try clear c1); (try clear c2); (try clear p2); (try clear c3); (try clear c8); (try clear c8b0); (try clear c8b1); (try clear c10); (try clear c11); (try clear c14); (try clear c15); (try clear c16)
          (try clear c18); (try clear c19); (try clear c20); (try clear c24); (try clear c25); (try clear c29); (try clear c30); (try clear c31); (try clear c33); (try clear c33b0); (try clear c33b1); (try clear c36)
          (try clear c37); (try clear c38); (try clear c39); (try clear hcz12_0); (try clear hcz12_1); (try clear hcz12_2); (try clear hcz12_3); (try clear hcz12_4); (try clear hcz16_0); (try clear hcz16_1); (try clear hcz16_2); (try clear hcz16_3)
          (try clear hcz16_4); (try clear hcz21_0); (try clear hcz21_1); (try clear hcz21_2); (try clear hcz21_3); (try clear hcz26_0); (try clear hcz26_1); (try clear hcz26_2); (try clear hcz26_3); (try clear hcz26_4); (try clear hcz32_0); (try clear hcz32_1)
          (try clear hcz32_2); (try clear hcz32_3); (try clear hcz39_0); (try clear hcz39_1); (try clear hcz39_2); (try clear hcz39_3); (try clear hfz12_0); (try clear hfz12_1); (try clear hfz12_2); (try clear hfz12_3); (try clear hfz12_4); (try clear hfz16_0)
          (try clear hfz16_1); (try clear hfz16_2); (try clear hfz16_3); (try clear hfz16_4); (try clear hfz21_0); (try clear hfz21_1); (try clear hfz21_2); (try clear hfz21_3); (try clear hfz26_0); (try clear hfz26_1); (try clear hfz26_2); (try clear hfz26_3)
          (try clear hfz26_4); (try clear hfz32_0); (try clear hfz32_1); (try clear hfz32_2); (try clear hfz32_3); (try clear hfz39_0); (try clear hfz39_1); (try clear hfz39_2); (try clear hfz39_3); (try clear p2)
          obtain ⟨kq, x1000_22, x145001_22, HA, HJ22, BK138, BK139, BK144, HI0, HK, HB⟩ := hcut
          cases kq with
          | zero => exact absurd HA.out (by simp [mint_Mint_Op.j1])
          | succ kj22 =>
            have H := HA.out
            clear HA
            simp only [mint_Mint_Op.j1] at H
            have HC40 := Aside0.mk H
            clear H
            go_upto_region 6 with (fail)
            go_cut [33] (fun v33 wc => ∃ (kq : Nat) (x33_39 : Bool), v33 = .bool x33_39 ∧ Aside0 (mint_Mint_Op.j2 kq x33_39 x1000_22 a1_0 a1_1 a1_2 a1_3 a1_4 t142 x145001_22 0 0 = some (r1, r2, r3, r4, r5)) ∧ Aside0 (kq ≤ kj22) ∧ Aside0 (wc.heap[gb138]? = some (.cells #[.int .i64 a1_0, .int .i64 a1_1, .int .i64 a1_2, .int .i64 a1_3, .int .i64 a1_4] 31 (0, 0))) ∧ Aside0 (wc.heap[gb139]? = some (.cells #[.int .i64 0, .int .u64 0, .int .u64 0, .int .i64 0] 37 (0, 0))) ∧ Aside0 (wc.heap[gb144]? = some (.cells #[.int .i64 t142, .int .u64 x145001_22, .int .u64 0, .int .i64 0] 37 (0, 0))) ∧ Aside0 (IsS71 w0 wc g x1000_22) ∧ Aside0 (KeepBut w wc g none) ∧ Aside0 (Below w0.heap.size w0 wc))
            case first =>
              have H := HC40.out
              clear HC40
              by_cases c41 : t142 = 4
              · rw [if_pos c41] at H
                have c41b0 : (t142 == 4) = true := beq_iff_eq.mpr c41
                have c41b1 : (t142 != 4) = false := bne_eq_false_iff_eq.mpr c41
                clear c41
                (first | rw [c41b0] | (simp only [i64_w, i32_w]; rw [c41b0]) | skip)
                have H' := Aside0.mk H
                clear H
                have hnb42 := NB144_138.out
                have hnc42 := NB138_144.out
                have hnb43 := NB144_139.out
                have hnc43 := NB139_144.out
                have hnb44 := NB144_0.out
                have hnc44 := NB0_144.out
                have hcz45_0 : wc.cell? ⟨gb144, 0, none⟩ = some (.int .i64 t142) := (blk_cell BK144.out 0).trans rfl
                have hcz45_1 : wc.cell? ⟨gb144, 1, none⟩ = some (.int .u64 x145001_22) := (blk_cell BK144.out 1).trans rfl
                have hcz45_2 : wc.cell? ⟨gb144, 2, none⟩ = some (.int .u64 0) := (blk_cell BK144.out 2).trans rfl
                have hcz45_3 : wc.cell? ⟨gb144, 3, none⟩ = some (.int .i64 0) := (blk_cell BK144.out 3).trans rfl
                have hfz45_0 := blk_frozen BK144.out 0
                have hfz45_1 := blk_frozen BK144.out 1
                have hfz45_2 := blk_frozen BK144.out 2
                have hfz45_3 := blk_frozen BK144.out 3
                go_wp2
                go_meet
                case rel => exact ⟨_, (true), (by first | rfl | (simp; done) | (simp [*]; done)), H', ⟨by have := HJ3.out; have := HJ22.out; first | omega | exact Nat.le_refl _⟩, ⟨by (with_reducible repeat (first | refine blk_drewN ?_ _ | refine blk_drew ?_ | refine blk_alloc ?_ _)); exact BK138.out⟩, ⟨by (with_reducible repeat (first | refine blk_drewN ?_ _ | refine blk_drew ?_ | refine blk_alloc ?_ _)); exact BK139.out⟩, ⟨by (with_reducible repeat (first | refine blk_drewN ?_ _ | refine blk_drew ?_ | refine blk_alloc ?_ _)); exact BK144.out⟩, ⟨by repeat (first | (with_reducible first | exact HI0.out | apply IsS71.alloc | apply IsS71.drewN | apply IsS71.drew | apply IsS71.set_0 | refine IsS71.far ?_ NB0_138.out _ | refine IsS71.far ?_ NB0_139.out _ | refine IsS71.far ?_ NB0_144.out _) | exact HI0.out)⟩, ⟨by repeat (first | (with_reducible first | exact HK.out | apply KeepBut.set_ | apply keep_drewN | apply keep_drew | apply keep_alloc | refine keep_far ?_ GW138.out _ | refine keep_far ?_ GW139.out _ | refine keep_far ?_ GW144.out _) | exact HK.out)⟩, ⟨by repeat (first | (with_reducible first | exact HB.out | apply below_alloc | apply pw_below_drewN | apply below_drew1 | refine below_set ?_ (IsS71.ge HI0.out) | refine below_set ?_ GE138.out | refine below_set ?_ GE139.out | refine below_set ?_ GE144.out) | exact HB.out)⟩⟩
              · rw [if_neg c41] at H
                have c41b0 : (t142 == 4) = false := beq_eq_false_iff_ne.mpr c41
                have c41b1 : (t142 != 4) = true := bne_iff_ne.mpr c41
                (first | rw [c41b0] | (simp only [i64_w, i32_w]; rw [c41b0]) | skip)
                have H' := Aside0.mk H
                clear H
                have hnb46 := NB144_138.out
                have hnc46 := NB138_144.out
                have hnb47 := NB144_139.out
                have hnc47 := NB139_144.out
                have hnb48 := NB144_0.out
                have hnc48 := NB0_144.out
                have hcz49_0 : wc.cell? ⟨gb144, 0, none⟩ = some (.int .i64 t142) := (blk_cell BK144.out 0).trans rfl
                have hcz49_1 : wc.cell? ⟨gb144, 1, none⟩ = some (.int .u64 x145001_22) := (blk_cell BK144.out 1).trans rfl
                have hcz49_2 : wc.cell? ⟨gb144, 2, none⟩ = some (.int .u64 0) := (blk_cell BK144.out 2).trans rfl
                have hcz49_3 : wc.cell? ⟨gb144, 3, none⟩ = some (.int .i64 0) := (blk_cell BK144.out 3).trans rfl
                have hfz49_0 := blk_frozen BK144.out 0
                have hfz49_1 := blk_frozen BK144.out 1
                have hfz49_2 := blk_frozen BK144.out 2
                have hfz49_3 := blk_frozen BK144.out 3
                go_wp2
                go_meet
                case rel => exact ⟨_, ((t142 == 5)), (by first | rfl | (simp; done) | (simp [*]; done)), H', ⟨by have := HJ3.out; have := HJ22.out; first | omega | exact Nat.le_refl _⟩, ⟨by (with_reducible repeat (first | refine blk_drewN ?_ _ | refine blk_drew ?_ | refine blk_alloc ?_ _)); exact BK138.out⟩, ⟨by (with_reducible repeat (first | refine blk_drewN ?_ _ | refine blk_drew ?_ | refine blk_alloc ?_ _)); exact BK139.out⟩, ⟨by (with_reducible repeat (first | refine blk_drewN ?_ _ | refine blk_drew ?_ | refine blk_alloc ?_ _)); exact BK144.out⟩, ⟨by repeat (first | (with_reducible first | exact HI0.out | apply IsS71.alloc | apply IsS71.drewN | apply IsS71.drew | apply IsS71.set_0 | refine IsS71.far ?_ NB0_138.out _ | refine IsS71.far ?_ NB0_139.out _ | refine IsS71.far ?_ NB0_144.out _) | exact HI0.out)⟩, ⟨by repeat (first | (with_reducible first | exact HK.out | apply KeepBut.set_ | apply keep_drewN | apply keep_drew | apply keep_alloc | refine keep_far ?_ GW138.out _ | refine keep_far ?_ GW139.out _ | refine keep_far ?_ GW144.out _) | exact HK.out)⟩, ⟨by repeat (first | (with_reducible first | exact HB.out | apply below_alloc | apply pw_below_drewN | apply below_drew1 | refine below_set ?_ (IsS71.ge HI0.out) | refine below_set ?_ GE138.out | refine below_set ?_ GE139.out | refine below_set ?_ GE144.out) | exact HB.out)⟩⟩
            case rest =>
              clear HC40
              (try clear c1); (try clear c2); (try clear p2); (try clear c3); (try clear c4); (try clear c8); (try clear c8b0); (try clear c8b1); (try clear c10); (try clear c11); (try clear c14); (try clear c15)
              (try clear c16); (try clear c18); (try clear c19); (try clear c20); (try clear c24); (try clear c25); (try clear c29); (try clear c30); (try clear c31); (try clear c33); (try clear c33b0); (try clear c33b1)
              (try clear c36); (try clear c37); (try clear c38); (try clear c39); (try clear c41); (try clear c41b0); (try clear c41b1); (try clear c42); (try clear c43); (try clear c44); (try clear c46); (try clear c47)
              (try clear c48); (try clear hcz12_0); (try clear hcz12_1); (try clear hcz12_2); (try clear hcz12_3); (try clear hcz12_4); (try clear hcz16_0); (try clear hcz16_1); (try clear hcz16_2); (try clear hcz16_3); (try clear hcz16_4); (try clear hcz21_0)
              (try clear hcz21_1); (try clear hcz21_2); (try clear hcz21_3); (try clear hcz26_0); (try clear hcz26_1); (try clear hcz26_2); (try clear hcz26_3); (try clear hcz26_4); (try clear hcz32_0); (try clear hcz32_1); (try clear hcz32_2); (try clear hcz32_3)
              (try clear hcz39_0); (try clear hcz39_1); (try clear hcz39_2); (try clear hcz39_3); (try clear hcz45_0); (try clear hcz45_1); (try clear hcz45_2); (try clear hcz45_3); (try clear hcz49_0); (try clear hcz49_1); (try clear hcz49_2); (try clear hcz49_3)
              (try clear hfz12_0); (try clear hfz12_1); (try clear hfz12_2); (try clear hfz12_3); (try clear hfz12_4); (try clear hfz16_0); (try clear hfz16_1); (try clear hfz16_2); (try clear hfz16_3); (try clear hfz16_4); (try clear hfz21_0); (try clear hfz21_1)
              (try clear hfz21_2); (try clear hfz21_3); (try clear hfz26_0); (try clear hfz26_1); (try clear hfz26_2); (try clear hfz26_3); (try clear hfz26_4); (try clear hfz32_0); (try clear hfz32_1); (try clear hfz32_2); (try clear hfz32_3); (try clear hfz39_0)
              (try clear hfz39_1); (try clear hfz39_2); (try clear hfz39_3); (try clear hfz45_0); (try clear hfz45_1); (try clear hfz45_2); (try clear hfz45_3); (try clear hfz49_0); (try clear hfz49_1); (try clear hfz49_2); (try clear hfz49_3); (try clear p2)
              obtain ⟨kq, x33_39, rfl, HA, HJ39, BK138, BK139, BK144, HI0, HK, HB⟩ := hcut
              cases kq with
              | zero => exact absurd HA.out (by simp [mint_Mint_Op.j2])
              | succ kj39 =>
                have H := HA.out
                clear HA
                simp only [mint_Mint_Op.j2] at H
                by_cases c50 : x33_39 = true
                · subst c50
                  have H1 : ((mint_Mint_Below.f x1000_22 100).bind fun bt147 => (some (t142, x145001_22, IntKind.u64.wrap (bt147.1), 0, bt147.2))) = some (r1, r2, r3, r4, r5) := by rw [if_pos rfl] at H; exact H
                  clear H
                  have H := H1
                  clear H1
                  replace H := Option.bind_eq_some_iff.mp H
                  obtain ⟨⟨t147, t148⟩, A510, H⟩ := H
                  replace H : (some (t142, x145001_22, IntKind.u64.wrap (t147), 0, t148)) = some (r1, r2, r3, r4, r5) := H
                  have A51 := Aside0.mk A510
                  clear A510
                  simp only [Option.some.injEq, Prod.mk.injEq] at H
                  obtain ⟨rfl, rfl, rfl, rfl, rfl⟩ := H
                  go_wp2_with (first | ((with_reducible refine gate_callee (f := 15) rfl ?_); refine goesL_ (some 43) rfl rfl Try.func15 (by kernel_rfl) rfl #[.pointer (some ⟨g, 0, none⟩), .int .i64 100] rfl (by (try simp only [List.map_toArray, List.map_cons, List.map_nil]); first | done | rfl | (simp only [List.length_drop, List.length_take]; rfl)) ?_; (with_reducible refine (mint_Mint_Below.calls g x1000_22 100 t147 t148 w0 _ ?side1 ?side2 A51.out).mono ?_); (case side1 => repeat (first | (with_reducible first | exact HI0.out | apply IsS71.alloc | apply IsS71.drewN | apply IsS71.drew | apply IsS71.set_0 | refine IsS71.far ?_ NB0_138.out _ | refine IsS71.far ?_ NB0_139.out _ | refine IsS71.far ?_ NB0_144.out _) | exact HI0.out)); (case side2 => repeat (first | (with_reducible first | exact HB.out | apply below_alloc | apply pw_below_drewN | apply below_drew1 | refine below_set ?_ (IsS71.ge HI0.out) | refine below_set ?_ GE138.out | refine below_set ?_ GE139.out | refine below_set ?_ GE144.out) | exact HB.out)); rintro e w52 ⟨rfl, hi, hb, hk⟩; refine ⟨_, rfl, ?_⟩; have n0_ := Aside0.mk (KeepBut.blk hk (g' := gb138) (o := .cells #[.int .i64 a1_0, .int .i64 a1_1, .int .i64 a1_2, .int .i64 a1_3, .int .i64 a1_4] 31 (0, 0)) (by (with_reducible repeat (first | refine blk_drewN ?_ _ | refine blk_drew ?_ | refine blk_alloc ?_ _)); exact BK138.out) NB138_0.out (by simp)); have n1_ := Aside0.mk (KeepBut.blk hk (g' := gb139) (o := .cells #[.int .i64 0, .int .u64 0, .int .u64 0, .int .i64 0] 37 (0, 0)) (by (with_reducible repeat (first | refine blk_drewN ?_ _ | refine blk_drew ?_ | refine blk_alloc ?_ _)); exact BK139.out) NB139_0.out (by simp)); have n2_ := Aside0.mk (KeepBut.blk hk (g' := gb144) (o := .cells #[.int .i64 t142, .int .u64 x145001_22, .int .u64 0, .int .i64 0] 37 (0, 0)) (by (with_reducible repeat (first | refine blk_drewN ?_ _ | refine blk_drew ?_ | refine blk_alloc ?_ _)); exact BK144.out) NB144_0.out (by simp)); have n3_ := Aside0.mk (KeepBut.trans (by repeat (first | (with_reducible first | exact HK.out | apply KeepBut.set_ | apply keep_drewN | apply keep_drew | apply keep_alloc | refine keep_far ?_ GW138.out _ | refine keep_far ?_ GW139.out _ | refine keep_far ?_ GW144.out _) | exact HK.out)) hk (.inl rfl)); have n4_ := Aside0.mk (hb); have n5_ := Aside0.mk (hi); clear BK138; clear BK139; clear BK144; clear HK; clear HB; clear HI0; have BK138 := n0_; have BK139 := n1_; have BK144 := n2_; have HK := n3_; have HB := n4_; have HI0 := n5_; clear n0_ n1_ n2_ n3_ n4_ n5_; (try clear hb); (try clear hb2); (try clear hk); (try clear hi); have hnb53 := NB144_138.out; have hnc53 := NB138_144.out; have hnb54 := NB144_139.out; have hnc54 := NB139_144.out; have hnb55 := NB144_0.out; have hnc55 := NB0_144.out; have hcz56_0 : w52.cell? ⟨gb144, 0, none⟩ = some (.int .i64 t142) := (blk_cell BK144.out 0).trans rfl; have hcz56_1 : w52.cell? ⟨gb144, 1, none⟩ = some (.int .u64 x145001_22) := (blk_cell BK144.out 1).trans rfl; have hcz56_2 : w52.cell? ⟨gb144, 2, none⟩ = some (.int .u64 0) := (blk_cell BK144.out 2).trans rfl; have hcz56_3 : w52.cell? ⟨gb144, 3, none⟩ = some (.int .i64 0) := (blk_cell BK144.out 3).trans rfl; have hfz56_0 := blk_frozen BK144.out 0; have hfz56_1 := blk_frozen BK144.out 1; have hfz56_2 := blk_frozen BK144.out 2; have hfz56_3 := blk_frozen BK144.out 3; have hnb57 := NB139_138.out; have hnc57 := NB138_139.out; have hnb58 := NB139_0.out; have hnc58 := NB0_139.out; have hcz59_0 : w52.cell? ⟨gb139, 0, none⟩ = some (.int .i64 0) := (blk_cell BK139.out 0).trans rfl; have hcz59_1 : w52.cell? ⟨gb139, 1, none⟩ = some (.int .u64 0) := (blk_cell BK139.out 1).trans rfl; have hcz59_2 : w52.cell? ⟨gb139, 2, none⟩ = some (.int .u64 0) := (blk_cell BK139.out 2).trans rfl; have hcz59_3 : w52.cell? ⟨gb139, 3, none⟩ = some (.int .i64 0) := (blk_cell BK139.out 3).trans rfl; have hfz59_0 := blk_frozen BK139.out 0; have hfz59_1 := blk_frozen BK139.out 1; have hfz59_2 := blk_frozen BK139.out 2; have hfz59_3 := blk_frozen BK139.out 3))
                  refine bodyPost_ret (results_cell_row rfl _ _ gb139 37 #[.int .i64 t142, .int .u64 x145001_22, .int .u64 (IntKind.u64.wrap (t147)), .int .i64 0] (0, 0) _ rfl (by (with_reducible repeat (first | refine blk_drewN ?_ _ | refine blk_drew ?_ | refine blk_alloc ?_ _)); refine blk_put (cs := #[.int .i64 t142, .int .u64 x145001_22, .int .u64 (IntKind.u64.wrap (t147)), .int .i64 0]) ?_ 3 _ rfl; (with_reducible repeat (first | refine blk_drewN ?_ _ | refine blk_drew ?_ | refine blk_alloc ?_ _)); refine blk_put (cs := #[.int .i64 t142, .int .u64 x145001_22, .int .u64 0, .int .i64 0]) ?_ 2 _ rfl; (with_reducible repeat (first | refine blk_drewN ?_ _ | refine blk_drew ?_ | refine blk_alloc ?_ _)); refine blk_put (cs := #[.int .i64 t142, .int .u64 0, .int .u64 0, .int .i64 0]) ?_ 1 _ rfl; (with_reducible repeat (first | refine blk_drewN ?_ _ | refine blk_drew ?_ | refine blk_alloc ?_ _)); refine blk_put (cs := #[.int .i64 0, .int .u64 0, .int .u64 0, .int .i64 0]) ?_ 0 _ rfl; (with_reducible repeat (first | refine blk_drewN ?_ _ | refine blk_drew ?_ | refine blk_alloc ?_ _)); refine blk_far ?_ NB139_144.out _; (with_reducible repeat (first | refine blk_drewN ?_ _ | refine blk_drew ?_ | refine blk_alloc ?_ _)); exact BK139.out) Try.underlying37 rfl (by kernel_rfl)) rfl ?_
                  exact ⟨by first | rfl | (simp [errW_none, errW_some] <;> rfl) | (simp [*, errW_none, errW_some] <;> rfl), by repeat (first | (with_reducible first | exact HI0.out | apply IsS71.alloc | apply IsS71.drewN | apply IsS71.drew | apply IsS71.set_0 | refine IsS71.far ?_ NB0_138.out _ | refine IsS71.far ?_ NB0_139.out _ | refine IsS71.far ?_ NB0_144.out _) | exact HI0.out), by repeat (first | (with_reducible first | exact HB.out | apply below_alloc | apply pw_below_drewN | apply below_drew1 | refine below_set ?_ (IsS71.ge HI0.out) | refine below_set ?_ GE138.out | refine below_set ?_ GE139.out | refine below_set ?_ GE144.out) | exact HB.out), by repeat (first | (with_reducible first | exact HK.out | apply KeepBut.set_ | apply keep_drewN | apply keep_drew | apply keep_alloc | refine keep_far ?_ GW138.out _ | refine keep_far ?_ GW139.out _ | refine keep_far ?_ GW144.out _) | exact HK.out)⟩
                · replace c50 := Bool.eq_false_iff.mpr c50
                  subst c50
                  have H1 : (if t142 = 1 then (if a1_0 = 3 then ((mint_Mint_level.f kj39 x1000_22 a1_3).bind fun bt149 => (some (t142, x145001_22, 0, bt149.1, bt149.2))) else (some (t142, x145001_22, 0, 0, x1000_22))) else (some (t142, x145001_22, 0, 0, x1000_22))) = some (r1, r2, r3, r4, r5) := by rw [if_neg (show ¬ (false = true) by decide)] at H; exact H
                  clear H
                  have H := H1
                  clear H1
                  by_cases c60 : t142 = 1
                  · rw [if_pos c60] at H
                    have c60b0 : (t142 == 1) = true := beq_iff_eq.mpr c60
                    have c60b1 : (t142 != 1) = false := bne_eq_false_iff_eq.mpr c60
                    clear c60
                    by_cases c61 : a1_0 = 3
                    · rw [if_pos c61] at H
                      have c61b0 : (a1_0 == 3) = true := beq_iff_eq.mpr c61
                      have c61b1 : (a1_0 != 3) = false := bne_eq_false_iff_eq.mpr c61
                      clear c61
                      replace H := Option.bind_eq_some_iff.mp H
                      obtain ⟨⟨t149, t150⟩, A620, H⟩ := H
                      replace H : (some (t142, x145001_22, 0, t149, t150)) = some (r1, r2, r3, r4, r5) := H
                      have A62 := Aside0.mk A620
                      clear A620
                      simp only [Option.some.injEq, Prod.mk.injEq] at H
                      obtain ⟨rfl, rfl, rfl, rfl, rfl⟩ := H
                      have hnb63 := NB144_138.out
                      have hnc63 := NB138_144.out
                      have hnb64 := NB144_139.out
                      have hnc64 := NB139_144.out
                      have hnb65 := NB144_0.out
                      have hnc65 := NB0_144.out
                      have hcz66_0 : wc.cell? ⟨gb144, 0, none⟩ = some (.int .i64 t142) := (blk_cell BK144.out 0).trans rfl
                      have hcz66_1 : wc.cell? ⟨gb144, 1, none⟩ = some (.int .u64 x145001_22) := (blk_cell BK144.out 1).trans rfl
                      have hcz66_2 : wc.cell? ⟨gb144, 2, none⟩ = some (.int .u64 0) := (blk_cell BK144.out 2).trans rfl
                      have hcz66_3 : wc.cell? ⟨gb144, 3, none⟩ = some (.int .i64 0) := (blk_cell BK144.out 3).trans rfl
                      have hfz66_0 := blk_frozen BK144.out 0
                      have hfz66_1 := blk_frozen BK144.out 1
                      have hfz66_2 := blk_frozen BK144.out 2
                      have hfz66_3 := blk_frozen BK144.out 3
                      have hnb67 := NB138_139.out
                      have hnc67 := NB139_138.out
                      have hnb68 := NB138_0.out
                      have hnc68 := NB0_138.out
                      have hcz69_0 : wc.cell? ⟨gb138, 0, none⟩ = some (.int .i64 a1_0) := (blk_cell BK138.out 0).trans rfl
                      have hcz69_1 : wc.cell? ⟨gb138, 1, none⟩ = some (.int .i64 a1_1) := (blk_cell BK138.out 1).trans rfl
                      have hcz69_2 : wc.cell? ⟨gb138, 2, none⟩ = some (.int .i64 a1_2) := (blk_cell BK138.out 2).trans rfl
                      have hcz69_3 : wc.cell? ⟨gb138, 3, none⟩ = some (.int .i64 a1_3) := (blk_cell BK138.out 3).trans rfl
                      have hcz69_4 : wc.cell? ⟨gb138, 4, none⟩ = some (.int .i64 a1_4) := (blk_cell BK138.out 4).trans rfl
                      have hfz69_0 := blk_frozen BK138.out 0
                      have hfz69_1 := blk_frozen BK138.out 1
                      have hfz69_2 := blk_frozen BK138.out 2
                      have hfz69_3 := blk_frozen BK138.out 3
                      have hfz69_4 := blk_frozen BK138.out 4
                      go_wp2_with (first | ((with_reducible refine gate_callee (f := 40) rfl ?_); refine goesL_ (some 58) rfl rfl Try.func40 (by kernel_rfl) rfl #[.pointer (some ⟨g, 0, none⟩), .int .i64 a1_3] rfl (by (try simp only [List.map_toArray, List.map_cons, List.map_nil]); first | done | rfl | (simp only [List.length_drop, List.length_take]; rfl)) ?_; (with_reducible refine (mint_Mint_level.calls kj39 g x1000_22 a1_3 t149 t150 w0 _ ?side1 ?side2 A62.out).mono ?_); (case side1 => repeat (first | (with_reducible first | exact HI0.out | apply IsS71.alloc | apply IsS71.drewN | apply IsS71.drew | apply IsS71.set_0 | refine IsS71.far ?_ NB0_138.out _ | refine IsS71.far ?_ NB0_139.out _ | refine IsS71.far ?_ NB0_144.out _) | exact HI0.out)); (case side2 => repeat (first | (with_reducible first | exact HB.out | apply below_alloc | apply pw_below_drewN | apply below_drew1 | refine below_set ?_ (IsS71.ge HI0.out) | refine below_set ?_ GE138.out | refine below_set ?_ GE139.out | refine below_set ?_ GE144.out) | exact HB.out)); rintro e w70 ⟨rfl, hi, hb, hk⟩; refine ⟨_, rfl, ?_⟩; have n0_ := Aside0.mk (KeepBut.blk hk (g' := gb138) (o := .cells #[.int .i64 a1_0, .int .i64 a1_1, .int .i64 a1_2, .int .i64 a1_3, .int .i64 a1_4] 31 (0, 0)) (by (with_reducible repeat (first | refine blk_drewN ?_ _ | refine blk_drew ?_ | refine blk_alloc ?_ _)); exact BK138.out) NB138_0.out (by simp)); have n1_ := Aside0.mk (KeepBut.blk hk (g' := gb139) (o := .cells #[.int .i64 0, .int .u64 0, .int .u64 0, .int .i64 0] 37 (0, 0)) (by (with_reducible repeat (first | refine blk_drewN ?_ _ | refine blk_drew ?_ | refine blk_alloc ?_ _)); exact BK139.out) NB139_0.out (by simp)); have n2_ := Aside0.mk (KeepBut.blk hk (g' := gb144) (o := .cells #[.int .i64 t142, .int .u64 x145001_22, .int .u64 0, .int .i64 0] 37 (0, 0)) (by (with_reducible repeat (first | refine blk_drewN ?_ _ | refine blk_drew ?_ | refine blk_alloc ?_ _)); exact BK144.out) NB144_0.out (by simp)); have n3_ := Aside0.mk (KeepBut.trans (by repeat (first | (with_reducible first | exact HK.out | apply KeepBut.set_ | apply keep_drewN | apply keep_drew | apply keep_alloc | refine keep_far ?_ GW138.out _ | refine keep_far ?_ GW139.out _ | refine keep_far ?_ GW144.out _) | exact HK.out)) hk (.inl rfl)); have n4_ := Aside0.mk (hb); have n5_ := Aside0.mk (hi); clear BK138; clear BK139; clear BK144; clear HK; clear HB; clear HI0; have BK138 := n0_; have BK139 := n1_; have BK144 := n2_; have HK := n3_; have HB := n4_; have HI0 := n5_; clear n0_ n1_ n2_ n3_ n4_ n5_; (try clear hb); (try clear hb2); (try clear hk); (try clear hi); have hcz71_0 : w70.cell? ⟨gb144, 0, none⟩ = some (.int .i64 t142) := (blk_cell BK144.out 0).trans rfl; have hcz71_1 : w70.cell? ⟨gb144, 1, none⟩ = some (.int .u64 x145001_22) := (blk_cell BK144.out 1).trans rfl; have hcz71_2 : w70.cell? ⟨gb144, 2, none⟩ = some (.int .u64 0) := (blk_cell BK144.out 2).trans rfl; have hcz71_3 : w70.cell? ⟨gb144, 3, none⟩ = some (.int .i64 0) := (blk_cell BK144.out 3).trans rfl; have hfz71_0 := blk_frozen BK144.out 0; have hfz71_1 := blk_frozen BK144.out 1; have hfz71_2 := blk_frozen BK144.out 2; have hfz71_3 := blk_frozen BK144.out 3; have hnb72 := NB139_0.out; have hnc72 := NB0_139.out; have hcz73_0 : w70.cell? ⟨gb139, 0, none⟩ = some (.int .i64 0) := (blk_cell BK139.out 0).trans rfl; have hcz73_1 : w70.cell? ⟨gb139, 1, none⟩ = some (.int .u64 0) := (blk_cell BK139.out 1).trans rfl; have hcz73_2 : w70.cell? ⟨gb139, 2, none⟩ = some (.int .u64 0) := (blk_cell BK139.out 2).trans rfl; have hcz73_3 : w70.cell? ⟨gb139, 3, none⟩ = some (.int .i64 0) := (blk_cell BK139.out 3).trans rfl; have hfz73_0 := blk_frozen BK139.out 0; have hfz73_1 := blk_frozen BK139.out 1; have hfz73_2 := blk_frozen BK139.out 2; have hfz73_3 := blk_frozen BK139.out 3))
                      refine bodyPost_ret (results_cell_row rfl _ _ gb139 37 #[.int .i64 t142, .int .u64 x145001_22, .int .u64 0, .int .i64 t149] (0, 0) _ rfl (by (with_reducible repeat (first | refine blk_drewN ?_ _ | refine blk_drew ?_ | refine blk_alloc ?_ _)); refine blk_put (cs := #[.int .i64 t142, .int .u64 x145001_22, .int .u64 0, .int .i64 0]) ?_ 3 _ rfl; (with_reducible repeat (first | refine blk_drewN ?_ _ | refine blk_drew ?_ | refine blk_alloc ?_ _)); refine blk_put (cs := #[.int .i64 t142, .int .u64 x145001_22, .int .u64 0, .int .i64 0]) ?_ 2 _ rfl; (with_reducible repeat (first | refine blk_drewN ?_ _ | refine blk_drew ?_ | refine blk_alloc ?_ _)); refine blk_put (cs := #[.int .i64 t142, .int .u64 0, .int .u64 0, .int .i64 0]) ?_ 1 _ rfl; (with_reducible repeat (first | refine blk_drewN ?_ _ | refine blk_drew ?_ | refine blk_alloc ?_ _)); refine blk_put (cs := #[.int .i64 0, .int .u64 0, .int .u64 0, .int .i64 0]) ?_ 0 _ rfl; (with_reducible repeat (first | refine blk_drewN ?_ _ | refine blk_drew ?_ | refine blk_alloc ?_ _)); refine blk_far ?_ NB139_144.out _; (with_reducible repeat (first | refine blk_drewN ?_ _ | refine blk_drew ?_ | refine blk_alloc ?_ _)); exact BK139.out) Try.underlying37 rfl (by kernel_rfl)) rfl ?_
                      exact ⟨by first | rfl | (simp [errW_none, errW_some] <;> rfl) | (simp [*, errW_none, errW_some] <;> rfl), by repeat (first | (with_reducible first | exact HI0.out | apply IsS71.alloc | apply IsS71.drewN | apply IsS71.drew | apply IsS71.set_0 | refine IsS71.far ?_ NB0_138.out _ | refine IsS71.far ?_ NB0_139.out _ | refine IsS71.far ?_ NB0_144.out _) | exact HI0.out), by repeat (first | (with_reducible first | exact HB.out | apply below_alloc | apply pw_below_drewN | apply below_drew1 | refine below_set ?_ (IsS71.ge HI0.out) | refine below_set ?_ GE138.out | refine below_set ?_ GE139.out | refine below_set ?_ GE144.out) | exact HB.out), by repeat (first | (with_reducible first | exact HK.out | apply KeepBut.set_ | apply keep_drewN | apply keep_drew | apply keep_alloc | refine keep_far ?_ GW138.out _ | refine keep_far ?_ GW139.out _ | refine keep_far ?_ GW144.out _) | exact HK.out)⟩
                    · rw [if_neg c61] at H
                      have c61b0 : (a1_0 == 3) = false := beq_eq_false_iff_ne.mpr c61
                      have c61b1 : (a1_0 != 3) = true := bne_iff_ne.mpr c61
                      simp only [Option.some.injEq, Prod.mk.injEq] at H
                      obtain ⟨rfl, rfl, rfl, rfl, rfl⟩ := H
                      have hnb74 := NB144_138.out
                      have hnc74 := NB138_144.out
                      have hnb75 := NB144_139.out
                      have hnc75 := NB139_144.out
                      have hnb76 := NB144_0.out
                      have hnc76 := NB0_144.out
                      have hcz77_0 : wc.cell? ⟨gb144, 0, none⟩ = some (.int .i64 t142) := (blk_cell BK144.out 0).trans rfl
                      have hcz77_1 : wc.cell? ⟨gb144, 1, none⟩ = some (.int .u64 x145001_22) := (blk_cell BK144.out 1).trans rfl
                      have hcz77_2 : wc.cell? ⟨gb144, 2, none⟩ = some (.int .u64 0) := (blk_cell BK144.out 2).trans rfl
                      have hcz77_3 : wc.cell? ⟨gb144, 3, none⟩ = some (.int .i64 0) := (blk_cell BK144.out 3).trans rfl
                      have hfz77_0 := blk_frozen BK144.out 0
                      have hfz77_1 := blk_frozen BK144.out 1
                      have hfz77_2 := blk_frozen BK144.out 2
                      have hfz77_3 := blk_frozen BK144.out 3
                      have hnb78 := NB138_139.out
                      have hnc78 := NB139_138.out
                      have hnb79 := NB138_0.out
                      have hnc79 := NB0_138.out
                      have hcz80_0 : wc.cell? ⟨gb138, 0, none⟩ = some (.int .i64 a1_0) := (blk_cell BK138.out 0).trans rfl
                      have hcz80_1 : wc.cell? ⟨gb138, 1, none⟩ = some (.int .i64 a1_1) := (blk_cell BK138.out 1).trans rfl
                      have hcz80_2 : wc.cell? ⟨gb138, 2, none⟩ = some (.int .i64 a1_2) := (blk_cell BK138.out 2).trans rfl
                      have hcz80_3 : wc.cell? ⟨gb138, 3, none⟩ = some (.int .i64 a1_3) := (blk_cell BK138.out 3).trans rfl
                      have hcz80_4 : wc.cell? ⟨gb138, 4, none⟩ = some (.int .i64 a1_4) := (blk_cell BK138.out 4).trans rfl
                      have hfz80_0 := blk_frozen BK138.out 0
                      have hfz80_1 := blk_frozen BK138.out 1
                      have hfz80_2 := blk_frozen BK138.out 2
                      have hfz80_3 := blk_frozen BK138.out 3
                      have hfz80_4 := blk_frozen BK138.out 4
                      have hnb81 := NB139_0.out
                      have hnc81 := NB0_139.out
                      have hcz82_0 : wc.cell? ⟨gb139, 0, none⟩ = some (.int .i64 0) := (blk_cell BK139.out 0).trans rfl
                      have hcz82_1 : wc.cell? ⟨gb139, 1, none⟩ = some (.int .u64 0) := (blk_cell BK139.out 1).trans rfl
                      have hcz82_2 : wc.cell? ⟨gb139, 2, none⟩ = some (.int .u64 0) := (blk_cell BK139.out 2).trans rfl
                      have hcz82_3 : wc.cell? ⟨gb139, 3, none⟩ = some (.int .i64 0) := (blk_cell BK139.out 3).trans rfl
                      have hfz82_0 := blk_frozen BK139.out 0
                      have hfz82_1 := blk_frozen BK139.out 1
                      have hfz82_2 := blk_frozen BK139.out 2
                      have hfz82_3 := blk_frozen BK139.out 3
                      go_wp2
                      refine bodyPost_ret (results_cell_row rfl _ _ gb139 37 #[.int .i64 t142, .int .u64 x145001_22, .int .u64 0, .int .i64 0] (0, 0) _ rfl (by (with_reducible repeat (first | refine blk_drewN ?_ _ | refine blk_drew ?_ | refine blk_alloc ?_ _)); refine blk_put (cs := #[.int .i64 t142, .int .u64 x145001_22, .int .u64 0, .int .i64 0]) ?_ 3 _ rfl; (with_reducible repeat (first | refine blk_drewN ?_ _ | refine blk_drew ?_ | refine blk_alloc ?_ _)); refine blk_put (cs := #[.int .i64 t142, .int .u64 x145001_22, .int .u64 0, .int .i64 0]) ?_ 2 _ rfl; (with_reducible repeat (first | refine blk_drewN ?_ _ | refine blk_drew ?_ | refine blk_alloc ?_ _)); refine blk_put (cs := #[.int .i64 t142, .int .u64 0, .int .u64 0, .int .i64 0]) ?_ 1 _ rfl; (with_reducible repeat (first | refine blk_drewN ?_ _ | refine blk_drew ?_ | refine blk_alloc ?_ _)); refine blk_put (cs := #[.int .i64 0, .int .u64 0, .int .u64 0, .int .i64 0]) ?_ 0 _ rfl; (with_reducible repeat (first | refine blk_drewN ?_ _ | refine blk_drew ?_ | refine blk_alloc ?_ _)); exact BK139.out) Try.underlying37 rfl (by kernel_rfl)) rfl ?_
                      exact ⟨by first | rfl | (simp [errW_none, errW_some] <;> rfl) | (simp [*, errW_none, errW_some] <;> rfl), by repeat (first | (with_reducible first | exact HI0.out | apply IsS71.alloc | apply IsS71.drewN | apply IsS71.drew | apply IsS71.set_0 | refine IsS71.far ?_ NB0_138.out _ | refine IsS71.far ?_ NB0_139.out _ | refine IsS71.far ?_ NB0_144.out _) | exact HI0.out), by repeat (first | (with_reducible first | exact HB.out | apply below_alloc | apply pw_below_drewN | apply below_drew1 | refine below_set ?_ (IsS71.ge HI0.out) | refine below_set ?_ GE138.out | refine below_set ?_ GE139.out | refine below_set ?_ GE144.out) | exact HB.out), by repeat (first | (with_reducible first | exact HK.out | apply KeepBut.set_ | apply keep_drewN | apply keep_drew | apply keep_alloc | refine keep_far ?_ GW138.out _ | refine keep_far ?_ GW139.out _ | refine keep_far ?_ GW144.out _) | exact HK.out)⟩
                  · rw [if_neg c60] at H
                    have c60b0 : (t142 == 1) = false := beq_eq_false_iff_ne.mpr c60
                    have c60b1 : (t142 != 1) = true := bne_iff_ne.mpr c60
                    simp only [Option.some.injEq, Prod.mk.injEq] at H
                    obtain ⟨rfl, rfl, rfl, rfl, rfl⟩ := H
                    have hnb83 := NB144_138.out
                    have hnc83 := NB138_144.out
                    have hnb84 := NB144_139.out
                    have hnc84 := NB139_144.out
                    have hnb85 := NB144_0.out
                    have hnc85 := NB0_144.out
                    have hcz86_0 : wc.cell? ⟨gb144, 0, none⟩ = some (.int .i64 t142) := (blk_cell BK144.out 0).trans rfl
                    have hcz86_1 : wc.cell? ⟨gb144, 1, none⟩ = some (.int .u64 x145001_22) := (blk_cell BK144.out 1).trans rfl
                    have hcz86_2 : wc.cell? ⟨gb144, 2, none⟩ = some (.int .u64 0) := (blk_cell BK144.out 2).trans rfl
                    have hcz86_3 : wc.cell? ⟨gb144, 3, none⟩ = some (.int .i64 0) := (blk_cell BK144.out 3).trans rfl
                    have hfz86_0 := blk_frozen BK144.out 0
                    have hfz86_1 := blk_frozen BK144.out 1
                    have hfz86_2 := blk_frozen BK144.out 2
                    have hfz86_3 := blk_frozen BK144.out 3
                    have hnb87 := NB139_138.out
                    have hnc87 := NB138_139.out
                    have hnb88 := NB139_0.out
                    have hnc88 := NB0_139.out
                    have hcz89_0 : wc.cell? ⟨gb139, 0, none⟩ = some (.int .i64 0) := (blk_cell BK139.out 0).trans rfl
                    have hcz89_1 : wc.cell? ⟨gb139, 1, none⟩ = some (.int .u64 0) := (blk_cell BK139.out 1).trans rfl
                    have hcz89_2 : wc.cell? ⟨gb139, 2, none⟩ = some (.int .u64 0) := (blk_cell BK139.out 2).trans rfl
                    have hcz89_3 : wc.cell? ⟨gb139, 3, none⟩ = some (.int .i64 0) := (blk_cell BK139.out 3).trans rfl
                    have hfz89_0 := blk_frozen BK139.out 0
                    have hfz89_1 := blk_frozen BK139.out 1
                    have hfz89_2 := blk_frozen BK139.out 2
                    have hfz89_3 := blk_frozen BK139.out 3
                    go_wp2
                    refine bodyPost_ret (results_cell_row rfl _ _ gb139 37 #[.int .i64 t142, .int .u64 x145001_22, .int .u64 0, .int .i64 0] (0, 0) _ rfl (by (with_reducible repeat (first | refine blk_drewN ?_ _ | refine blk_drew ?_ | refine blk_alloc ?_ _)); refine blk_put (cs := #[.int .i64 t142, .int .u64 x145001_22, .int .u64 0, .int .i64 0]) ?_ 3 _ rfl; (with_reducible repeat (first | refine blk_drewN ?_ _ | refine blk_drew ?_ | refine blk_alloc ?_ _)); refine blk_put (cs := #[.int .i64 t142, .int .u64 x145001_22, .int .u64 0, .int .i64 0]) ?_ 2 _ rfl; (with_reducible repeat (first | refine blk_drewN ?_ _ | refine blk_drew ?_ | refine blk_alloc ?_ _)); refine blk_put (cs := #[.int .i64 t142, .int .u64 0, .int .u64 0, .int .i64 0]) ?_ 1 _ rfl; (with_reducible repeat (first | refine blk_drewN ?_ _ | refine blk_drew ?_ | refine blk_alloc ?_ _)); refine blk_put (cs := #[.int .i64 0, .int .u64 0, .int .u64 0, .int .i64 0]) ?_ 0 _ rfl; (with_reducible repeat (first | refine blk_drewN ?_ _ | refine blk_drew ?_ | refine blk_alloc ?_ _)); exact BK139.out) Try.underlying37 rfl (by kernel_rfl)) rfl ?_
                    exact ⟨by first | rfl | (simp [errW_none, errW_some] <;> rfl) | (simp [*, errW_none, errW_some] <;> rfl), by repeat (first | (with_reducible first | exact HI0.out | apply IsS71.alloc | apply IsS71.drewN | apply IsS71.drew | apply IsS71.set_0 | refine IsS71.far ?_ NB0_138.out _ | refine IsS71.far ?_ NB0_139.out _ | refine IsS71.far ?_ NB0_144.out _) | exact HI0.out), by repeat (first | (with_reducible first | exact HB.out | apply below_alloc | apply pw_below_drewN | apply below_drew1 | refine below_set ?_ (IsS71.ge HI0.out) | refine below_set ?_ GE138.out | refine below_set ?_ GE139.out | refine below_set ?_ GE144.out) | exact HB.out), by repeat (first | (with_reducible first | exact HK.out | apply KeepBut.set_ | apply keep_drewN | apply keep_drew | apply keep_alloc | refine keep_far ?_ GW138.out _ | refine keep_far ?_ GW139.out _ | refine keep_far ?_ GW144.out _) | exact HK.out)⟩

end Go.Proofs.Ytcphmelmieedfaa.PMintScripts
