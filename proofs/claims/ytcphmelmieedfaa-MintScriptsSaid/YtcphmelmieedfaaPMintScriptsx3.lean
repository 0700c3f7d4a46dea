-- WRITTEN BY A PROGRAM OF THIS SESSION (xprint.sh): the walks of plain functions over contracts of my own.
import Derived.Test.YtcphmelmieedfaaPMintScriptsx0
import Derived.Test.YtcphmelmieedfaaPMintScriptsx2
namespace Go.Proofs.Ytcphmelmieedfaa.PMintScripts
open Go.RowKit Go.Proofs.YtcphmelmieedfaaW.PrintWords Go.Proofs.YtcphmelmieedfaaW.PrintLast Go.Proofs.YtcphmelmieedfaaW.PrintMore
attribute [local go_sem] max2_int min2_int max_two min_two max_three min_three max_four min_four   -- for this text's walks alone
set_option linter.unusedVariables false
set_option linter.unusedSimpArgs false

/-! ### conf_Check: function 38 -/
def conf_Check.j0 : Nat → Int → Bool → Int → Int → Int → Int → Int → Option (Int)
  | 0, _, _, _, _, _, _, _ => none
  | k + 1, x5, x18, x121000, x121001, x121002, x121003, x121004 => if x18 = true then (some 3) else ((conf_within.f x121003 1 x5).bind fun t127 => (if t127 = true then ((conf_within.f x121004 2 1099511627775).bind fun t128 => (if t128 = true then (some 0) else (some 3))) else (some 3)))
def conf_Check.f (k : Nat) (a0_0 : Int) (a0_1 : Int) (a0_2 : Int) (a0_3 : Int) (a0_4 : Int) : Option (Int) := (conf_sizes.f a0_0).bind fun bt121 => (if bt121.2.2.2 = true then ((conf_within.f a0_1 1 8388607).bind fun t125 => (if t125 = true then ((conf_within.f a0_2 bt121.1 bt121.2.1).bind fun t126 => (conf_Check.j0 k bt121.2.2.1 (!t126) a0_0 a0_1 a0_2 a0_3 a0_4)) else (conf_Check.j0 k bt121.2.2.1 true a0_0 a0_1 a0_2 a0_3 a0_4))) else (some 8))
set_option maxHeartbeats 8000000 in
set_option maxRecDepth 100000 in
theorem conf_Check.calls (k : Nat) (a0_0 : Int) (a0_1 : Int) (a0_2 : Int) (a0_3 : Int) (a0_4 : Int) (r : Int) (w : World) (h : conf_Check.f k a0_0 a0_1 a0_2 a0_3 a0_4 = some r) :
    Calls Try.prog 38 #[.agg #[.int .i64 a0_0, .int .i64 a0_1, .int .i64 a0_2, .int .i64 a0_3, .int .i64 a0_4]] w fun e w' => e = .returned (.int .i64 r) ∧ Below w.heap.size w w' := by
  have hu31 := Try.underlying31
  have HB := Aside0.mk (Below.refl w.heap.size w)
  have H : ((conf_sizes.f a0_0).bind fun bt121 => (if bt121.2.2.2 = true then ((conf_within.f a0_1 1 8388607).bind fun t125 => (if t125 = true then ((conf_within.f a0_2 bt121.1 bt121.2.1).bind fun t126 => (conf_Check.j0 k bt121.2.2.1 (!t126) a0_0 a0_1 a0_2 a0_3 a0_4)) else (conf_Check.j0 k bt121.2.2.1 true a0_0 a0_1 a0_2 a0_3 a0_4))) else (some 8))) = some r := h
  clear h
  replace H := Option.bind_eq_some_iff.mp H
  obtain ⟨⟨t121, t122, t123, t124⟩, A20, H⟩ := H
  replace H : (if t124 = true then ((conf_within.f a0_1 1 8388607).bind fun t125 => (if t125 = true then ((conf_within.f a0_2 t121 t122).bind fun t126 => (conf_Check.j0 k t123 (!t126) a0_0 a0_1 a0_2 a0_3 a0_4)) else (conf_Check.j0 k t123 true a0_0 a0_1 a0_2 a0_3 a0_4))) else (some 8)) = some r := H
  have A2 := Aside0.mk A20
  clear A20
  by_cases c3 : t124 = true
  · subst c3
    have H1 : ((conf_within.f a0_1 1 8388607).bind fun t125 => (if t125 = true then ((conf_within.f a0_2 t121 t122).bind fun t126 => (conf_Check.j0 k t123 (!t126) a0_0 a0_1 a0_2 a0_3 a0_4)) else (conf_Check.j0 k t123 true a0_0 a0_1 a0_2 a0_3 a0_4))) = some r := by rw [if_pos rfl] at H; exact H
    clear H
    have H := H1
    clear H1
    have HC4 := Aside0.mk H
    clear H
    go_enter Try.func38, Try.ntmps38
    go_upto_region 4 with (first | ((with_reducible refine gate_dst (N := 1) rfl ?_); refine box_event ?hg (N := 1) ?hd (cs := #[.int .i64 a0_0, .int .i64 a0_1, .int .i64 a0_2, .int .i64 a0_3, .int .i64 a0_4]) (t := 31) ?hr ?_; (case hd => rfl); (case hg => rfl); (case hr => first | (go_simp; done) | (go_simp; rfl)); intro gb120 hg w5 hbox hb; have n0_ := Aside0.mk (below_step (by repeat (first | (with_reducible first | exact HB.out | apply below_alloc | apply pw_below_drewN | apply below_drew1) | exact HB.out)) hb); have n1_ := Aside0.mk (hbox); have n2_ := Aside0.mk ((by rw [hg]; exact (below_size (by repeat (first | (with_reducible first | exact HB.out | apply below_alloc | apply pw_below_drewN | apply below_drew1) | exact HB.out))) : w.heap.size ≤ gb120)); have n3_ := Aside0.mk ((by rw [hg]; exact (below_size (by repeat (first | (with_reducible first | exact HB.out | apply below_alloc | apply pw_below_drewN | apply below_drew1) | exact HB.out))) : w.heap.size ≤ gb120)); clear HB; have HB := n0_; have BK120 := n1_; have GW120 := n2_; have GE120 := n3_; clear n0_ n1_ n2_ n3_; clear hb hbox hg; have hcz6_0 : w5.cell? ⟨gb120, 0, none⟩ = some (.int .i64 a0_0) := (blk_cell BK120.out 0).trans rfl; have hcz6_1 : w5.cell? ⟨gb120, 1, none⟩ = some (.int .i64 a0_1) := (blk_cell BK120.out 1).trans rfl; have hcz6_2 : w5.cell? ⟨gb120, 2, none⟩ = some (.int .i64 a0_2) := (blk_cell BK120.out 2).trans rfl; have hcz6_3 : w5.cell? ⟨gb120, 3, none⟩ = some (.int .i64 a0_3) := (blk_cell BK120.out 3).trans rfl; have hcz6_4 : w5.cell? ⟨gb120, 4, none⟩ = some (.int .i64 a0_4) := (blk_cell BK120.out 4).trans rfl; have hfz6_0 := blk_frozen BK120.out 0; have hfz6_1 := blk_frozen BK120.out 1; have hfz6_2 := blk_frozen BK120.out 2; have hfz6_3 := blk_frozen BK120.out 3; have hfz6_4 := blk_frozen BK120.out 4) | ((with_reducible refine gate_callee (f := 54) rfl ?_); refine goesL_ (some 10) rfl rfl Try.func54 (by kernel_rfl) rfl #[.int .i64 a0_0] rfl (by (try simp only [List.map_toArray, List.map_cons, List.map_nil]); first | done | rfl | (simp only [List.length_drop, List.length_take]; rfl)) ?_; (with_reducible refine (conf_sizes.calls a0_0 t121 t122 t123 true _ A2.out).mono ?_); rintro e w' ⟨rfl, ⟨nd, rfl⟩⟩; refine ⟨_, rfl, ?_⟩))
    (try simp only [Act.put, List.setIfInBounds_toArray, List.set_cons_zero, List.set_cons_succ])
    go_cut [18] (fun v18 wc => ∃ (kq : Nat) (x18_3 : Bool), v18 = .bool x18_3 ∧ Aside0 (conf_Check.j0 kq t123 x18_3 a0_0 a0_1 a0_2 a0_3 a0_4 = some r) ∧ Aside0 (kq ≤ k) ∧ Aside0 (wc.heap[gb120]? = some (.cells #[.int .i64 a0_0, .int .i64 a0_1, .int .i64 a0_2, .int .i64 a0_3, .int .i64 a0_4] 31 (0, 0))) ∧ Aside0 (Below w.heap.size w wc))
    case first =>
      have H := HC4.out
      clear HC4
      replace H := Option.bind_eq_some_iff.mp H
      obtain ⟨t125, A70, H⟩ := H
      replace H : (if t125 = true then ((conf_within.f a0_2 t121 t122).bind fun t126 => (conf_Check.j0 k t123 (!t126) a0_0 a0_1 a0_2 a0_3 a0_4)) else (conf_Check.j0 k t123 true a0_0 a0_1 a0_2 a0_3 a0_4)) = some r := H
      have A7 := Aside0.mk A70
      clear A70
      by_cases c8 : t125 = true
      · subst c8
        have H1 : ((conf_within.f a0_2 t121 t122).bind fun t126 => (conf_Check.j0 k t123 (!t126) a0_0 a0_1 a0_2 a0_3 a0_4)) = some r := by rw [if_pos rfl] at H; exact H
        clear H
        have H := H1
        clear H1
        replace H := Option.bind_eq_some_iff.mp H
        obtain ⟨t126, A90, H⟩ := H
        replace H : (conf_Check.j0 k t123 (!t126) a0_0 a0_1 a0_2 a0_3 a0_4) = some r := H
        have A9 := Aside0.mk A90
        clear A90
        have H' := Aside0.mk H
        clear H
        have hcz10_0 : w5.cell? ⟨gb120, 0, none⟩ = some (.int .i64 a0_0) := (blk_cell BK120.out 0).trans rfl
        have hcz10_1 : w5.cell? ⟨gb120, 1, none⟩ = some (.int .i64 a0_1) := (blk_cell BK120.out 1).trans rfl
        have hcz10_2 : w5.cell? ⟨gb120, 2, none⟩ = some (.int .i64 a0_2) := (blk_cell BK120.out 2).trans rfl
        have hcz10_3 : w5.cell? ⟨gb120, 3, none⟩ = some (.int .i64 a0_3) := (blk_cell BK120.out 3).trans rfl
        have hcz10_4 : w5.cell? ⟨gb120, 4, none⟩ = some (.int .i64 a0_4) := (blk_cell BK120.out 4).trans rfl
        have hfz10_0 := blk_frozen BK120.out 0
        have hfz10_1 := blk_frozen BK120.out 1
        have hfz10_2 := blk_frozen BK120.out 2
        have hfz10_3 := blk_frozen BK120.out 3
        have hfz10_4 := blk_frozen BK120.out 4
        go_wp2_with (first | ((with_reducible refine gate_callee (f := 55) rfl ?_); refine goesL_ (some 21) rfl rfl Try.func55 (by kernel_rfl) rfl #[.int .i64 a0_1, .int .i64 1, .int .i64 8388607] rfl (by (try simp only [List.map_toArray, List.map_cons, List.map_nil]); first | done | rfl | (simp only [List.length_drop, List.length_take]; rfl)) ?_; (with_reducible refine (conf_within.calls a0_1 1 8388607 true _ A7.out).mono ?_); rintro e w' ⟨rfl, ⟨nd, rfl⟩⟩; refine ⟨_, rfl, ?_⟩) | (go_at_call 55; (with_reducible refine (conf_within.calls a0_2 t121 t122 t126 _ A9.out).mono ?_); rintro e w' ⟨rfl, ⟨nd, rfl⟩⟩))
        go_meet
        case rel => exact ⟨_, (!t126), (by first | rfl | (simp; done) | (simp [*]; done)), H', ⟨by first | omega | exact Nat.le_refl _⟩, ⟨by (with_reducible repeat (first | refine blk_drewN ?_ _ | refine blk_drew ?_ | refine blk_alloc ?_ _)); exact BK120.out⟩, ⟨by repeat (first | (with_reducible first | exact HB.out | apply below_alloc | apply pw_below_drewN | apply below_drew1 | refine below_set ?_ GE120.out) | exact HB.out)⟩⟩
      · replace c8 := Bool.eq_false_iff.mpr c8
        subst c8
        have H1 : (conf_Check.j0 k t123 true a0_0 a0_1 a0_2 a0_3 a0_4) = some r := by rw [if_neg (show ¬ (false = true) by decide)] at H; exact H
        clear H
        have H := H1
        clear H1
        have H' := Aside0.mk H
        clear H
        have hcz11_0 : w5.cell? ⟨gb120, 0, none⟩ = some (.int .i64 a0_0) := (blk_cell BK120.out 0).trans rfl
        have hcz11_1 : w5.cell? ⟨gb120, 1, none⟩ = some (.int .i64 a0_1) := (blk_cell BK120.out 1).trans rfl
        have hcz11_2 : w5.cell? ⟨gb120, 2, none⟩ = some (.int .i64 a0_2) := (blk_cell BK120.out 2).trans rfl
        have hcz11_3 : w5.cell? ⟨gb120, 3, none⟩ = some (.int .i64 a0_3) := (blk_cell BK120.out 3).trans rfl
        have hcz11_4 : w5.cell? ⟨gb120, 4, none⟩ = some (.int .i64 a0_4) := (blk_cell BK120.out 4).trans rfl
        have hfz11_0 := blk_frozen BK120.out 0
        have hfz11_1 := blk_frozen BK120.out 1
        have hfz11_2 := blk_frozen BK120.out 2
        have hfz11_3 := blk_frozen BK120.out 3
        have hfz11_4 := blk_frozen BK120.out 4
        go_wp2_with (first | ((with_reducible refine gate_callee (f := 55) rfl ?_); refine goesL_ (some 21) rfl rfl Try.func55 (by kernel_rfl) rfl #[.int .i64 a0_1, .int .i64 1, .int .i64 8388607] rfl (by (try simp only [List.map_toArray, List.map_cons, List.map_nil]); first | done | rfl | (simp only [List.length_drop, List.length_take]; rfl)) ?_; (with_reducible refine (conf_within.calls a0_1 1 8388607 false _ A7.out).mono ?_); rintro e w' ⟨rfl, ⟨nd, rfl⟩⟩; refine ⟨_, rfl, ?_⟩))
        go_meet
        case rel => exact ⟨_, (true), (by first | rfl | (simp; done) | (simp [*]; done)), H', ⟨by first | omega | exact Nat.le_refl _⟩, ⟨by (with_reducible repeat (first | refine blk_drewN ?_ _ | refine blk_drew ?_ | refine blk_alloc ?_ _)); exact BK120.out⟩, ⟨by repeat (first | (with_reducible first | exact HB.out | apply below_alloc | apply pw_below_drewN | apply below_drew1 | refine below_set ?_ GE120.out) | exact HB.out)⟩⟩
    case rest =>
      clear HC4
      (try clear p2); (try clear c3); (try clear c5); (try clear c8); (try clear hcz10_0); (try clear hcz10_1); (try clear hcz10_2); (try clear hcz10_3); (try clear hcz10_4); (try clear hcz11_0); (try clear hcz11_1); (try clear hcz11_2)
      (try clear hcz11_3); (try clear hcz11_4); (try clear hcz6_0); (try clear hcz6_1); (try clear hcz6_2); (try clear hcz6_3); (try clear hcz6_4); (try clear hfz10_0); (try clear hfz10_1); (try clear hfz10_2); (try clear hfz10_3); (try clear hfz10_4)
      (try clear hfz11_0); (try clear hfz11_1); (try clear hfz11_2); (try clear hfz11_3); (try clear hfz11_4); (try clear hfz6_0); (try clear hfz6_1); (try clear hfz6_2); (try clear hfz6_3); (try clear hfz6_4)
      obtain ⟨kq, x18_3, rfl, HA, HJ3, BK120, HB⟩ := hcut
      cases kq with
      | zero => exact absurd HA.out (by simp [conf_Check.j0])
      | succ kj3 =>
        have H := HA.out
        clear HA
        simp only [conf_Check.j0] at H
        by_cases c12 : x18_3 = true
        · subst c12
          have H1 : (some 3) = some r := by rw [if_pos rfl] at H; exact H
          clear H
          have H := H1
          clear H1
          obtain rfl := Option.some.inj H
          go_wp2
          go_ret
          exact ⟨by first | rfl | (simp [errW_none, errW_some] <;> rfl) | (simp [*, errW_none, errW_some] <;> rfl), by repeat (first | (with_reducible first | exact HB.out | apply below_alloc | apply pw_below_drewN | apply below_drew1 | refine below_set ?_ GE120.out) | exact HB.out)⟩
        · replace c12 := Bool.eq_false_iff.mpr c12
          subst c12
          have H1 : ((conf_within.f a0_3 1 t123).bind fun t127 => (if t127 = true then ((conf_within.f a0_4 2 1099511627775).bind fun t128 => (if t128 = true then (some 0) else (some 3))) else (some 3))) = some r := by rw [if_neg (show ¬ (false = true) by decide)] at H; exact H
          clear H
          have H := H1
          clear H1
          replace H := Option.bind_eq_some_iff.mp H
          obtain ⟨t127, A130, H⟩ := H
          replace H : (if t127 = true then ((conf_within.f a0_4 2 1099511627775).bind fun t128 => (if t128 = true then (some 0) else (some 3))) else (some 3)) = some r := H
          have A13 := Aside0.mk A130
          clear A130
          by_cases c14 : t127 = true
          · subst c14
            have H1 : ((conf_within.f a0_4 2 1099511627775).bind fun t128 => (if t128 = true then (some 0) else (some 3))) = some r := by rw [if_pos rfl] at H; exact H
            clear H
            have H := H1
            clear H1
            replace H := Option.bind_eq_some_iff.mp H
            obtain ⟨t128, A150, H⟩ := H
            replace H : (if t128 = true then (some 0) else (some 3)) = some r := H
            have A15 := Aside0.mk A150
            clear A150
            by_cases c16 : t128 = true
            · subst c16
              have H1 : (some 0) = some r := by rw [if_pos rfl] at H; exact H
              clear H
              have H := H1
              clear H1
              obtain rfl := Option.some.inj H
              have hcz17_0 : wc.cell? ⟨gb120, 0, none⟩ = some (.int .i64 a0_0) := (blk_cell BK120.out 0).trans rfl
              have hcz17_1 : wc.cell? ⟨gb120, 1, none⟩ = some (.int .i64 a0_1) := (blk_cell BK120.out 1).trans rfl
              have hcz17_2 : wc.cell? ⟨gb120, 2, none⟩ = some (.int .i64 a0_2) := (blk_cell BK120.out 2).trans rfl
              have hcz17_3 : wc.cell? ⟨gb120, 3, none⟩ = some (.int .i64 a0_3) := (blk_cell BK120.out 3).trans rfl
              have hcz17_4 : wc.cell? ⟨gb120, 4, none⟩ = some (.int .i64 a0_4) := (blk_cell BK120.out 4).trans rfl
              have hfz17_0 := blk_frozen BK120.out 0
              have hfz17_1 := blk_frozen BK120.out 1
              have hfz17_2 := blk_frozen BK120.out 2
              have hfz17_3 := blk_frozen BK120.out 3
              have hfz17_4 := blk_frozen BK120.out 4
              go_wp2_with (first | ((with_reducible refine gate_callee (f := 55) rfl ?_); refine goesL_ (some 35) rfl rfl Try.func55 (by kernel_rfl) rfl #[.int .i64 a0_3, .int .i64 1, .int .i64 t123] rfl (by (try simp only [List.map_toArray, List.map_cons, List.map_nil]); first | done | rfl | (simp only [List.length_drop, List.length_take]; rfl)) ?_; (with_reducible refine (conf_within.calls a0_3 1 t123 true _ A13.out).mono ?_); rintro e w' ⟨rfl, ⟨nd, rfl⟩⟩; refine ⟨_, rfl, ?_⟩) | (go_at_call 55; (with_reducible refine (conf_within.calls a0_4 2 1099511627775 true _ A15.out).mono ?_); rintro e w' ⟨rfl, ⟨nd, rfl⟩⟩))
              go_ret
              exact ⟨by first | rfl | (simp [errW_none, errW_some] <;> rfl) | (simp [*, errW_none, errW_some] <;> rfl), by repeat (first | (with_reducible first | exact HB.out | apply below_alloc | apply pw_below_drewN | apply below_drew1 | refine below_set ?_ GE120.out) | exact HB.out)⟩
            · replace c16 := Bool.eq_false_iff.mpr c16
              subst c16
              have H1 : (some 3) = some r := by rw [if_neg (show ¬ (false = true) by decide)] at H; exact H
              clear H
              have H := H1
              clear H1
              obtain rfl := Option.some.inj H
              have hcz18_0 : wc.cell? ⟨gb120, 0, none⟩ = some (.int .i64 a0_0) := (blk_cell BK120.out 0).trans rfl
              have hcz18_1 : wc.cell? ⟨gb120, 1, none⟩ = some (.int .i64 a0_1) := (blk_cell BK120.out 1).trans rfl
              have hcz18_2 : wc.cell? ⟨gb120, 2, none⟩ = some (.int .i64 a0_2) := (blk_cell BK120.out 2).trans rfl
              have hcz18_3 : wc.cell? ⟨gb120, 3, none⟩ = some (.int .i64 a0_3) := (blk_cell BK120.out 3).trans rfl
              have hcz18_4 : wc.cell? ⟨gb120, 4, none⟩ = some (.int .i64 a0_4) := (blk_cell BK120.out 4).trans rfl
              have hfz18_0 := blk_frozen BK120.out 0
              have hfz18_1 := blk_frozen BK120.out 1
              have hfz18_2 := blk_frozen BK120.out 2
              have hfz18_3 := blk_frozen BK120.out 3
              have hfz18_4 := blk_frozen BK120.out 4
              go_wp2_with (first | ((with_reducible refine gate_callee (f := 55) rfl ?_); refine goesL_ (some 35) rfl rfl Try.func55 (by kernel_rfl) rfl #[.int .i64 a0_3, .int .i64 1, .int .i64 t123] rfl (by (try simp only [List.map_toArray, List.map_cons, List.map_nil]); first | done | rfl | (simp only [List.length_drop, List.length_take]; rfl)) ?_; (with_reducible refine (conf_within.calls a0_3 1 t123 true _ A13.out).mono ?_); rintro e w' ⟨rfl, ⟨nd, rfl⟩⟩; refine ⟨_, rfl, ?_⟩) | (go_at_call 55; (with_reducible refine (conf_within.calls a0_4 2 1099511627775 false _ A15.out).mono ?_); rintro e w' ⟨rfl, ⟨nd, rfl⟩⟩))
              go_ret
              exact ⟨by first | rfl | (simp [errW_none, errW_some] <;> rfl) | (simp [*, errW_none, errW_some] <;> rfl), by repeat (first | (with_reducible first | exact HB.out | apply below_alloc | apply pw_below_drewN | apply below_drew1 | refine below_set ?_ GE120.out) | exact HB.out)⟩
          · replace c14 := Bool.eq_false_iff.mpr c14
            subst c14
            have H1 : (some 3) = some r := by rw [if_neg (show ¬ (false = true) by decide)] at H; exact H
            clear H
            have H := H1
            clear H1
            obtain rfl := Option.some.inj H
            have hcz19_0 : wc.cell? ⟨gb120, 0, none⟩ = some (.int .i64 a0_0) := (blk_cell BK120.out 0).trans rfl
            have hcz19_1 : wc.cell? ⟨gb120, 1, none⟩ = some (.int .i64 a0_1) := (blk_cell BK120.out 1).trans rfl
            have hcz19_2 : wc.cell? ⟨gb120, 2, none⟩ = some (.int .i64 a0_2) := (blk_cell BK120.out 2).trans rfl
            have hcz19_3 : wc.cell? ⟨gb120, 3, none⟩ = some (.int .i64 a0_3) := (blk_cell BK120.out 3).trans rfl
            have hcz19_4 : wc.cell? ⟨gb120, 4, none⟩ = some (.int .i64 a0_4) := (blk_cell BK120.out 4).trans rfl
            have hfz19_0 := blk_frozen BK120.out 0
            have hfz19_1 := blk_frozen BK120.out 1
            have hfz19_2 := blk_frozen BK120.out 2
            have hfz19_3 := blk_frozen BK120.out 3
            have hfz19_4 := blk_frozen BK120.out 4
            go_wp2_with (first | ((with_reducible refine gate_callee (f := 55) rfl ?_); refine goesL_ (some 35) rfl rfl Try.func55 (by kernel_rfl) rfl #[.int .i64 a0_3, .int .i64 1, .int .i64 t123] rfl (by (try simp only [List.map_toArray, List.map_cons, List.map_nil]); first | done | rfl | (simp only [List.length_drop, List.length_take]; rfl)) ?_; (with_reducible refine (conf_within.calls a0_3 1 t123 false _ A13.out).mono ?_); rintro e w' ⟨rfl, ⟨nd, rfl⟩⟩; refine ⟨_, rfl, ?_⟩))
            go_ret
            exact ⟨by first | rfl | (simp [errW_none, errW_some] <;> rfl) | (simp [*, errW_none, errW_some] <;> rfl), by repeat (first | (with_reducible first | exact HB.out | apply below_alloc | apply pw_below_drewN | apply below_drew1 | refine below_set ?_ GE120.out) | exact HB.out)⟩
  · replace c3 := Bool.eq_false_iff.mpr c3
    subst c3
    have H1 : (some 8) = some r := by rw [if_neg (show ¬ (false = true) by decide)] at H; exact H
    clear H
    have H := H1
    clear H1
    obtain rfl := Option.some.inj H
    go_enter Try.func38, Try.ntmps38
    go_wp2_with (first | ((with_reducible refine gate_dst (N := 1) rfl ?_); refine box_event ?hg (N := 1) ?hd (cs := #[.int .i64 a0_0, .int .i64 a0_1, .int .i64 a0_2, .int .i64 a0_3, .int .i64 a0_4]) (t := 31) ?hr ?_; (case hd => rfl); (case hg => rfl); (case hr => first | (go_simp; done) | (go_simp; rfl)); intro gb120 hg w20 hbox hb; have n0_ := Aside0.mk (below_step (by repeat (first | (with_reducible first | exact HB.out | apply below_alloc | apply pw_below_drewN | apply below_drew1) | exact HB.out)) hb); have n1_ := Aside0.mk (hbox); have n2_ := Aside0.mk ((by rw [hg]; exact (below_size (by repeat (first | (with_reducible first | exact HB.out | apply below_alloc | apply pw_below_drewN | apply below_drew1) | exact HB.out))) : w.heap.size ≤ gb120)); have n3_ := Aside0.mk ((by rw [hg]; exact (below_size (by repeat (first | (with_reducible first | exact HB.out | apply below_alloc | apply pw_below_drewN | apply below_drew1) | exact HB.out))) : w.heap.size ≤ gb120)); clear HB; have HB := n0_; have BK120 := n1_; have GW120 := n2_; have GE120 := n3_; clear n0_ n1_ n2_ n3_; clear hb hbox hg; have hcz21_0 : w20.cell? ⟨gb120, 0, none⟩ = some (.int .i64 a0_0) := (blk_cell BK120.out 0).trans rfl; have hcz21_1 : w20.cell? ⟨gb120, 1, none⟩ = some (.int .i64 a0_1) := (blk_cell BK120.out 1).trans rfl; have hcz21_2 : w20.cell? ⟨gb120, 2, none⟩ = some (.int .i64 a0_2) := (blk_cell BK120.out 2).trans rfl; have hcz21_3 : w20.cell? ⟨gb120, 3, none⟩ = some (.int .i64 a0_3) := (blk_cell BK120.out 3).trans rfl; have hcz21_4 : w20.cell? ⟨gb120, 4, none⟩ = some (.int .i64 a0_4) := (blk_cell BK120.out 4).trans rfl; have hfz21_0 := blk_frozen BK120.out 0; have hfz21_1 := blk_frozen BK120.out 1; have hfz21_2 := blk_frozen BK120.out 2; have hfz21_3 := blk_frozen BK120.out 3; have hfz21_4 := blk_frozen BK120.out 4) | ((with_reducible refine gate_callee (f := 54) rfl ?_); refine goesL_ (some 10) rfl rfl Try.func54 (by kernel_rfl) rfl #[.int .i64 a0_0] rfl (by (try simp only [List.map_toArray, List.map_cons, List.map_nil]); first | done | rfl | (simp only [List.length_drop, List.length_take]; rfl)) ?_; (with_reducible refine (conf_sizes.calls a0_0 t121 t122 t123 false _ A2.out).mono ?_); rintro e w' ⟨rfl, ⟨nd, rfl⟩⟩; refine ⟨_, rfl, ?_⟩))
    go_ret
    exact ⟨by first | rfl | (simp [errW_none, errW_some] <;> rfl) | (simp [*, errW_none, errW_some] <;> rfl), by repeat (first | (with_reducible first | exact HB.out | apply below_alloc | apply pw_below_drewN | apply below_drew1 | refine below_set ?_ GE120.out) | exact HB.out)⟩

/-! ### mint_Mint_kind: function 39 -/
def mint_Mint_kind.f (s0_0 : Int) (a1_0 : Int) (a1_1 : Int) (a1_2 : Int) (a1_3 : Int) (a1_4 : Int) : Option (Int × Int) := (mint_Mint_Below.f s0_0 16).bind fun bt130 => (if bt130.1 = 0 then (some (8, bt130.2)) else (if a1_0 = 2 then ((mint_Mint_Below.f bt130.2 4).bind fun bt132 => (some (wrap64 (4 + bt132.1), bt132.2))) else ((mint_Mint_Below.f bt130.2 3).bind fun bt134 => (some (wrap64 (1 + bt134.1), bt134.2)))))
set_option maxHeartbeats 8000000 in
set_option maxRecDepth 100000 in
theorem mint_Mint_kind.calls (g : Nat) (s0_0 : Int) (a1_0 : Int) (a1_1 : Int) (a1_2 : Int) (a1_3 : Int) (a1_4 : Int) (r1 : Int) (r2 : Int) (w0 w : World) (hI : IsS71 w0 w g s0_0) (hB : Below w0.heap.size w0 w) (h : mint_Mint_kind.f s0_0 a1_0 a1_1 a1_2 a1_3 a1_4 = some (r1, r2)) :
    Calls Try.prog 39 #[.pointer (some ⟨g, 0, none⟩), .agg #[.int .i64 a1_0, .int .i64 a1_1, .int .i64 a1_2, .int .i64 a1_3, .int .i64 a1_4]] w fun e w' => e = .returned (.int .i64 r1) ∧ IsS71 w0 w' g r2 ∧ Below w0.heap.size w0 w' ∧ KeepBut w w' g none := by
  have hu31 := Try.underlying31
  have HI0 := Aside0.mk hI
  have HK := Aside0.mk (KeepBut.refl w g none)
  have HL := Aside0.mk hB.size
  clear hI
  have HW0 := Aside0.mk hB.size
  have HB := Aside0.mk hB
  clear hB
  have H : ((mint_Mint_Below.f s0_0 16).bind fun bt130 => (if bt130.1 = 0 then (some (8, bt130.2)) else (if a1_0 = 2 then ((mint_Mint_Below.f bt130.2 4).bind fun bt132 => (some (wrap64 (4 + bt132.1), bt132.2))) else ((mint_Mint_Below.f bt130.2 3).bind fun bt134 => (some (wrap64 (1 + bt134.1), bt134.2)))))) = some (r1, r2) := h
  clear h
  replace H := Option.bind_eq_some_iff.mp H
  obtain ⟨⟨t130, t131⟩, A30, H⟩ := H
  replace H : (if t130 = 0 then (some (8, t131)) else (if a1_0 = 2 then ((mint_Mint_Below.f t131 4).bind fun bt132 => (some (wrap64 (4 + bt132.1), bt132.2))) else ((mint_Mint_Below.f t131 3).bind fun bt134 => (some (wrap64 (1 + bt134.1), bt134.2))))) = some (r1, r2) := H
  have A3 := Aside0.mk A30
  clear A30
  by_cases c4 : t130 = 0
  · rw [if_pos c4] at H
    have c4b0 : (t130 == 0) = true := beq_iff_eq.mpr c4
    have c4b1 : (t130 != 0) = false := bne_eq_false_iff_eq.mpr c4
    clear c4
    simp only [Option.some.injEq, Prod.mk.injEq] at H
    obtain ⟨rfl, rfl⟩ := H
    go_enter Try.func39, Try.ntmps39
    go_wp2_with (first | ((with_reducible refine gate_dst (N := 3) rfl ?_); refine box_event ?hg (N := 3) ?hd (cs := #[.int .i64 a1_0, .int .i64 a1_1, .int .i64 a1_2, .int .i64 a1_3, .int .i64 a1_4]) (t := 31) ?hr ?_; (case hd => rfl); (case hg => rfl); (case hr => first | (go_simp; done) | (go_simp; rfl)); intro gb129 hg w5 hbox hb; have n0_ := Aside0.mk (IsS71.below (by repeat (first | (with_reducible first | exact HI0.out | apply IsS71.alloc | apply IsS71.drewN | apply IsS71.drew | apply IsS71.set_0) | exact HI0.out)) hb); have n1_ := Aside0.mk (KeepBut.trans (by repeat (first | (with_reducible first | exact HK.out | apply KeepBut.set_ | apply keep_drewN | apply keep_drew | apply keep_alloc) | exact HK.out)) (KeepBut.of_below hb g none) (.inl rfl)); have n2_ := Aside0.mk (below_step (by repeat (first | (with_reducible first | exact HB.out | apply below_alloc | apply pw_below_drewN | apply below_drew1 | refine below_set ?_ (IsS71.ge HI0.out)) | exact HB.out)) hb); have n3_ := Aside0.mk (hbox); have n4_ := Aside0.mk ((by rw [hg]; exact (keep_size (w := w) (g := g) (row := none) (by repeat (first | (with_reducible first | exact HK.out | apply KeepBut.set_ | apply keep_drewN | apply keep_drew | apply keep_alloc) | exact HK.out))) : w.heap.size ≤ gb129)); have n5_ := Aside0.mk ((Nat.le_trans HW0.out (by rw [hg]; exact (keep_size (w := w) (g := g) (row := none) (by repeat (first | (with_reducible first | exact HK.out | apply KeepBut.set_ | apply keep_drewN | apply keep_drew | apply keep_alloc) | exact HK.out))) : w.heap.size ≤ gb129) : w0.heap.size ≤ gb129)); have n6_ := Aside0.mk ((by rw [hg]; exact Nat.ne_of_lt (IsS71.lt (show IsS71 w0 _ g s0_0 from by repeat (first | (with_reducible first | exact HI0.out | apply IsS71.alloc | apply IsS71.drewN | apply IsS71.drew | apply IsS71.set_0) | exact HI0.out))) : g ≠ gb129)); have n7_ := Aside0.mk ((by rw [hg]; exact Nat.ne_of_gt (IsS71.lt (show IsS71 w0 _ g s0_0 from by repeat (first | (with_reducible first | exact HI0.out | apply IsS71.alloc | apply IsS71.drewN | apply IsS71.drew | apply IsS71.set_0) | exact HI0.out))) : gb129 ≠ g)); clear HI0; clear HK; clear HB; have HI0 := n0_; have HK := n1_; have HB := n2_; have BK129 := n3_; have GW129 := n4_; have GE129 := n5_; have NB0_129 := n6_; have NB129_0 := n7_; clear n0_ n1_ n2_ n3_ n4_ n5_ n6_ n7_; clear hb hbox hg) | ((with_reducible refine gate_callee (f := 15) rfl ?_); refine goesL_ (some 7) rfl rfl Try.func15 (by kernel_rfl) rfl #[.pointer (some ⟨g, 0, none⟩), .int .i64 16] rfl (by (try simp only [List.map_toArray, List.map_cons, List.map_nil]); first | done | rfl | (simp only [List.length_drop, List.length_take]; rfl)) ?_; (with_reducible refine (mint_Mint_Below.calls g s0_0 16 t130 t131 w0 _ ?side1 ?side2 A3.out).mono ?_); (case side1 => repeat (first | (with_reducible first | exact HI0.out | apply IsS71.alloc | apply IsS71.drewN | apply IsS71.drew | apply IsS71.set_0 | refine IsS71.far ?_ NB0_129.out _) | exact HI0.out)); (case side2 => repeat (first | (with_reducible first | exact HB.out | apply below_alloc | apply pw_below_drewN | apply below_drew1 | refine below_set ?_ (IsS71.ge HI0.out) | refine below_set ?_ GE129.out) | exact HB.out)); rintro e w6 ⟨rfl, hi, hb, hk⟩; refine ⟨_, rfl, ?_⟩; have n0_ := Aside0.mk (KeepBut.blk hk (g' := gb129) (o := .cells #[.int .i64 a1_0, .int .i64 a1_1, .int .i64 a1_2, .int .i64 a1_3, .int .i64 a1_4] 31 (0, 0)) (by (with_reducible repeat (first | refine blk_drewN ?_ _ | refine blk_drew ?_ | refine blk_alloc ?_ _)); exact BK129.out) NB129_0.out (by simp)); have n1_ := Aside0.mk (KeepBut.trans (by repeat (first | (with_reducible first | exact HK.out | apply KeepBut.set_ | apply keep_drewN | apply keep_drew | apply keep_alloc | refine keep_far ?_ GW129.out _) | exact HK.out)) hk (.inl rfl)); have n2_ := Aside0.mk (hb); have n3_ := Aside0.mk (hi); clear BK129; clear HK; clear HB; clear HI0; have BK129 := n0_; have HK := n1_; have HB := n2_; have HI0 := n3_; clear n0_ n1_ n2_ n3_; (try clear hb); (try clear hb2); (try clear hk); (try clear hi)))
    go_ret
    exact ⟨by first | rfl | (simp [errW_none, errW_some] <;> rfl) | (simp [*, errW_none, errW_some] <;> rfl), by repeat (first | (with_reducible first | exact HI0.out | apply IsS71.alloc | apply IsS71.drewN | apply IsS71.drew | apply IsS71.set_0 | refine IsS71.far ?_ NB0_129.out _) | exact HI0.out), by repeat (first | (with_reducible first | exact HB.out | apply below_alloc | apply pw_below_drewN | apply below_drew1 | refine below_set ?_ (IsS71.ge HI0.out) | refine below_set ?_ GE129.out) | exact HB.out), by repeat (first | (with_reducible first | exact HK.out | apply KeepBut.set_ | apply keep_drewN | apply keep_drew | apply keep_alloc | refine keep_far ?_ GW129.out _) | exact HK.out)⟩
  · rw [if_neg c4] at H
    have c4b0 : (t130 == 0) = false := beq_eq_false_iff_ne.mpr c4
    have c4b1 : (t130 != 0) = true := bne_iff_ne.mpr c4
    by_cases c7 : a1_0 = 2
    · rw [if_pos c7] at H
      have c7b0 : (a1_0 == 2) = true := beq_iff_eq.mpr c7
      have c7b1 : (a1_0 != 2) = false := bne_eq_false_iff_eq.mpr c7
      clear c7
      replace H := Option.bind_eq_some_iff.mp H
      obtain ⟨⟨t132, t133⟩, A80, H⟩ := H
      replace H : (some (wrap64 (4 + t132), t133)) = some (r1, r2) := H
      have A8 := Aside0.mk A80
      clear A80
      simp only [Option.some.injEq, Prod.mk.injEq] at H
      obtain ⟨rfl, rfl⟩ := H
      go_enter Try.func39, Try.ntmps39
      go_wp2_with (first | ((with_reducible refine gate_dst (N := 3) rfl ?_); refine box_event ?hg (N := 3) ?hd (cs := #[.int .i64 a1_0, .int .i64 a1_1, .int .i64 a1_2, .int .i64 a1_3, .int .i64 a1_4]) (t := 31) ?hr ?_; (case hd => rfl); (case hg => rfl); (case hr => first | (go_simp; done) | (go_simp; rfl)); intro gb129 hg w9 hbox hb; have n0_ := Aside0.mk (IsS71.below (by repeat (first | (with_reducible first | exact HI0.out | apply IsS71.alloc | apply IsS71.drewN | apply IsS71.drew | apply IsS71.set_0) | exact HI0.out)) hb); have n1_ := Aside0.mk (KeepBut.trans (by repeat (first | (with_reducible first | exact HK.out | apply KeepBut.set_ | apply keep_drewN | apply keep_drew | apply keep_alloc) | exact HK.out)) (KeepBut.of_below hb g none) (.inl rfl)); have n2_ := Aside0.mk (below_step (by repeat (first | (with_reducible first | exact HB.out | apply below_alloc | apply pw_below_drewN | apply below_drew1 | refine below_set ?_ (IsS71.ge HI0.out)) | exact HB.out)) hb); have n3_ := Aside0.mk (hbox); have n4_ := Aside0.mk ((by rw [hg]; exact (keep_size (w := w) (g := g) (row := none) (by repeat (first | (with_reducible first | exact HK.out | apply KeepBut.set_ | apply keep_drewN | apply keep_drew | apply keep_alloc) | exact HK.out))) : w.heap.size ≤ gb129)); have n5_ := Aside0.mk ((Nat.le_trans HW0.out (by rw [hg]; exact (keep_size (w := w) (g := g) (row := none) (by repeat (first | (with_reducible first | exact HK.out | apply KeepBut.set_ | apply keep_drewN | apply keep_drew | apply keep_alloc) | exact HK.out))) : w.heap.size ≤ gb129) : w0.heap.size ≤ gb129)); have n6_ := Aside0.mk ((by rw [hg]; exact Nat.ne_of_lt (IsS71.lt (show IsS71 w0 _ g s0_0 from by repeat (first | (with_reducible first | exact HI0.out | apply IsS71.alloc | apply IsS71.drewN | apply IsS71.drew | apply IsS71.set_0) | exact HI0.out))) : g ≠ gb129)); have n7_ := Aside0.mk ((by rw [hg]; exact Nat.ne_of_gt (IsS71.lt (show IsS71 w0 _ g s0_0 from by repeat (first | (with_reducible first | exact HI0.out | apply IsS71.alloc | apply IsS71.drewN | apply IsS71.drew | apply IsS71.set_0) | exact HI0.out))) : gb129 ≠ g)); clear HI0; clear HK; clear HB; have HI0 := n0_; have HK := n1_; have HB := n2_; have BK129 := n3_; have GW129 := n4_; have GE129 := n5_; have NB0_129 := n6_; have NB129_0 := n7_; clear n0_ n1_ n2_ n3_ n4_ n5_ n6_ n7_; clear hb hbox hg) | ((with_reducible refine gate_callee (f := 15) rfl ?_); refine goesL_ (some 7) rfl rfl Try.func15 (by kernel_rfl) rfl #[.pointer (some ⟨g, 0, none⟩), .int .i64 16] rfl (by (try simp only [List.map_toArray, List.map_cons, List.map_nil]); first | done | rfl | (simp only [List.length_drop, List.length_take]; rfl)) ?_; (with_reducible refine (mint_Mint_Below.calls g s0_0 16 t130 t131 w0 _ ?side1 ?side2 A3.out).mono ?_); (case side1 => repeat (first | (with_reducible first | exact HI0.out | apply IsS71.alloc | apply IsS71.drewN | apply IsS71.drew | apply IsS71.set_0 | refine IsS71.far ?_ NB0_129.out _) | exact HI0.out)); (case side2 => repeat (first | (with_reducible first | exact HB.out | apply below_alloc | apply pw_below_drewN | apply below_drew1 | refine below_set ?_ (IsS71.ge HI0.out) | refine below_set ?_ GE129.out) | exact HB.out)); rintro e w10 ⟨rfl, hi, hb, hk⟩; refine ⟨_, rfl, ?_⟩; have n0_ := Aside0.mk (KeepBut.blk hk (g' := gb129) (o := .cells #[.int .i64 a1_0, .int .i64 a1_1, .int .i64 a1_2, .int .i64 a1_3, .int .i64 a1_4] 31 (0, 0)) (by (with_reducible repeat (first | refine blk_drewN ?_ _ | refine blk_drew ?_ | refine blk_alloc ?_ _)); exact BK129.out) NB129_0.out (by simp)); have n1_ := Aside0.mk (KeepBut.trans (by repeat (first | (with_reducible first | exact HK.out | apply KeepBut.set_ | apply keep_drewN | apply keep_drew | apply keep_alloc | refine keep_far ?_ GW129.out _) | exact HK.out)) hk (.inl rfl)); have n2_ := Aside0.mk (hb); have n3_ := Aside0.mk (hi); clear BK129; clear HK; clear HB; clear HI0; have BK129 := n0_; have HK := n1_; have HB := n2_; have HI0 := n3_; clear n0_ n1_ n2_ n3_; (try clear hb); (try clear hb2); (try clear hk); (try clear hi); have hnb11 := NB129_0.out; have hnc11 := NB0_129.out; have hcz12_0 : w10.cell? ⟨gb129, 0, none⟩ = some (.int .i64 a1_0) := (blk_cell BK129.out 0).trans rfl; have hcz12_1 : w10.cell? ⟨gb129, 1, none⟩ = some (.int .i64 a1_1) := (blk_cell BK129.out 1).trans rfl; have hcz12_2 : w10.cell? ⟨gb129, 2, none⟩ = some (.int .i64 a1_2) := (blk_cell BK129.out 2).trans rfl; have hcz12_3 : w10.cell? ⟨gb129, 3, none⟩ = some (.int .i64 a1_3) := (blk_cell BK129.out 3).trans rfl; have hcz12_4 : w10.cell? ⟨gb129, 4, none⟩ = some (.int .i64 a1_4) := (blk_cell BK129.out 4).trans rfl; have hfz12_0 := blk_frozen BK129.out 0; have hfz12_1 := blk_frozen BK129.out 1; have hfz12_2 := blk_frozen BK129.out 2; have hfz12_3 := blk_frozen BK129.out 3; have hfz12_4 := blk_frozen BK129.out 4) | ((with_reducible refine gate_callee (f := 15) rfl ?_); refine goesL_ (some 14) rfl rfl Try.func15 (by kernel_rfl) rfl #[.pointer (some ⟨g, 0, none⟩), .int .i64 4] rfl (by (try simp only [List.map_toArray, List.map_cons, List.map_nil]); first | done | rfl | (simp only [List.length_drop, List.length_take]; rfl)) ?_; (with_reducible refine (mint_Mint_Below.calls g t131 4 t132 t133 w0 _ ?side1 ?side2 A8.out).mono ?_); (case side1 => repeat (first | (with_reducible first | exact HI0.out | apply IsS71.alloc | apply IsS71.drewN | apply IsS71.drew | apply IsS71.set_0 | refine IsS71.far ?_ NB0_129.out _) | exact HI0.out)); (case side2 => repeat (first | (with_reducible first | exact HB.out | apply below_alloc | apply pw_below_drewN | apply below_drew1 | refine below_set ?_ (IsS71.ge HI0.out) | refine below_set ?_ GE129.out) | exact HB.out)); rintro e w13 ⟨rfl, hi, hb, hk⟩; refine ⟨_, rfl, ?_⟩; have n0_ := Aside0.mk (KeepBut.blk hk (g' := gb129) (o := .cells #[.int .i64 a1_0, .int .i64 a1_1, .int .i64 a1_2, .int .i64 a1_3, .int .i64 a1_4] 31 (0, 0)) (by (with_reducible repeat (first | refine blk_drewN ?_ _ | refine blk_drew ?_ | refine blk_alloc ?_ _)); exact BK129.out) NB129_0.out (by simp)); have n1_ := Aside0.mk (KeepBut.trans (by repeat (first | (with_reducible first | exact HK.out | apply KeepBut.set_ | apply keep_drewN | apply keep_drew | apply keep_alloc | refine keep_far ?_ GW129.out _) | exact HK.out)) hk (.inl rfl)); have n2_ := Aside0.mk (hb); have n3_ := Aside0.mk (hi); clear BK129; clear HK; clear HB; clear HI0; have BK129 := n0_; have HK := n1_; have HB := n2_; have HI0 := n3_; clear n0_ n1_ n2_ n3_; (try clear hb); (try clear hb2); (try clear hk); (try clear hi)))
      go_ret
      exact ⟨by first | rfl | (simp [errW_none, errW_some] <;> rfl) | (simp [*, errW_none, errW_some] <;> rfl), by repeat (first | (with_reducible first | exact HI0.out | apply IsS71.alloc | apply IsS71.drewN | apply IsS71.drew | apply IsS71.set_0 | refine IsS71.far ?_ NB0_129.out _) | exact HI0.out), by repeat (first | (with_reducible first | exact HB.out | apply below_alloc | apply pw_below_drewN | apply below_drew1 | refine below_set ?_ (IsS71.ge HI0.out) | refine below_set ?_ GE129.out) | exact HB.out), by repeat (first | (with_reducible first | exact HK.out | apply KeepBut.set_ | apply keep_drewN | apply keep_drew | apply keep_alloc | refine keep_far ?_ GW129.out _) | exact HK.out)⟩
    · rw [if_neg c7] at H
      have c7b0 : (a1_0 == 2) = false := beq_eq_false_iff_ne.mpr c7
      have c7b1 : (a1_0 != 2) = true := bne_iff_ne.mpr c7
      replace H := Option.bind_eq_some_iff.mp H
      obtain ⟨⟨t134, t135⟩, A140, H⟩ := H
      replace H : (some (wrap64 (1 + t134), t135)) = some (r1, r2) := H
      have A14 := Aside0.mk A140
      clear A140
      simp only [Option.some.injEq, Prod.mk.injEq] at H
      obtain ⟨rfl, rfl⟩ := H
      go_enter Try.func39, Try.ntmps39
      go_wp2_with (first | ((with_reducible refine gate_dst (N := 3) rfl ?_); refine box_event ?hg (N := 3) ?hd (cs := #[.int .i64 a1_0, .int .i64 a1_1, .int .i64 a1_2, .int .i64 a1_3, .int .i64 a1_4]) (t := 31) ?hr ?_; (case hd => rfl); (case hg => rfl); (case hr => first | (go_simp; done) | (go_simp; rfl)); intro gb129 hg w15 hbox hb; have n0_ := Aside0.mk (IsS71.below (by repeat (first | (with_reducible first | exact HI0.out | apply IsS71.alloc | apply IsS71.drewN | apply IsS71.drew | apply IsS71.set_0) | exact HI0.out)) hb); have n1_ := Aside0.mk (KeepBut.trans (by repeat (first | (with_reducible first | exact HK.out | apply KeepBut.set_ | apply keep_drewN | apply keep_drew | apply keep_alloc) | exact HK.out)) (KeepBut.of_below hb g none) (.inl rfl)); have n2_ := Aside0.mk (below_step (by repeat (first | (with_reducible first | exact HB.out | apply below_alloc | apply pw_below_drewN | apply below_drew1 | refine below_set ?_ (IsS71.ge HI0.out)) | exact HB.out)) hb); have n3_ := Aside0.mk (hbox); have n4_ := Aside0.mk ((by rw [hg]; exact (keep_size (w := w) (g := g) (row := none) (by repeat (first | (with_reducible first | exact HK.out | apply KeepBut.set_ | apply keep_drewN | apply keep_drew | apply keep_alloc) | exact HK.out))) : w.heap.size ≤ gb129)); have n5_ := Aside0.mk ((Nat.le_trans HW0.out (by rw [hg]; exact (keep_size (w := w) (g := g) (row := none) (by repeat (first | (with_reducible first | exact HK.out | apply KeepBut.set_ | apply keep_drewN | apply keep_drew | apply keep_alloc) | exact HK.out))) : w.heap.size ≤ gb129) : w0.heap.size ≤ gb129)); have n6_ := Aside0.mk ((by rw [hg]; exact Nat.ne_of_lt (IsS71.lt (show IsS71 w0 _ g s0_0 from by repeat (first | (with_reducible first | exact HI0.out | apply IsS71.alloc | apply IsS71.drewN | apply IsS71.drew | apply IsS71.set_0) | exact HI0.out))) : g ≠ gb129)); have n7_ := Aside0.mk ((by rw [hg]; exact Nat.ne_of_gt (IsS71.lt (show IsS71 w0 _ g s0_0 from by repeat (first | (with_reducible first | exact HI0.out | apply IsS71.alloc | apply IsS71.drewN | apply IsS71.drew | apply IsS71.set_0) | exact HI0.out))) : gb129 ≠ g)); clear HI0; clear HK; clear HB; have HI0 := n0_; have HK := n1_; have HB := n2_; have BK129 := n3_; have GW129 := n4_; have GE129 := n5_; have NB0_129 := n6_; have NB129_0 := n7_; clear n0_ n1_ n2_ n3_ n4_ n5_ n6_ n7_; clear hb hbox hg) | ((with_reducible refine gate_callee (f := 15) rfl ?_); refine goesL_ (some 7) rfl rfl Try.func15 (by kernel_rfl) rfl #[.pointer (some ⟨g, 0, none⟩), .int .i64 16] rfl (by (try simp only [List.map_toArray, List.map_cons, List.map_nil]); first | done | rfl | (simp only [List.length_drop, List.length_take]; rfl)) ?_; (with_reducible refine (mint_Mint_Below.calls g s0_0 16 t130 t131 w0 _ ?side1 ?side2 A3.out).mono ?_); (case side1 => repeat (first | (with_reducible first | exact HI0.out | apply IsS71.alloc | apply IsS71.drewN | apply IsS71.drew | apply IsS71.set_0 | refine IsS71.far ?_ NB0_129.out _) | exact HI0.out)); (case side2 => repeat (first | (with_reducible first | exact HB.out | apply below_alloc | apply pw_below_drewN | apply below_drew1 | refine below_set ?_ (IsS71.ge HI0.out) | refine below_set ?_ GE129.out) | exact HB.out)); rintro e w16 ⟨rfl, hi, hb, hk⟩; refine ⟨_, rfl, ?_⟩; have n0_ := Aside0.mk (KeepBut.blk hk (g' := gb129) (o := .cells #[.int .i64 a1_0, .int .i64 a1_1, .int .i64 a1_2, .int .i64 a1_3, .int .i64 a1_4] 31 (0, 0)) (by (with_reducible repeat (first | refine blk_drewN ?_ _ | refine blk_drew ?_ | refine blk_alloc ?_ _)); exact BK129.out) NB129_0.out (by simp)); have n1_ := Aside0.mk (KeepBut.trans (by repeat (first | (with_reducible first | exact HK.out | apply KeepBut.set_ | apply keep_drewN | apply keep_drew | apply keep_alloc | refine keep_far ?_ GW129.out _) | exact HK.out)) hk (.inl rfl)); have n2_ := Aside0.mk (hb); have n3_ := Aside0.mk (hi); clear BK129; clear HK; clear HB; clear HI0; have BK129 := n0_; have HK := n1_; have HB := n2_; have HI0 := n3_; clear n0_ n1_ n2_ n3_; (try clear hb); (try clear hb2); (try clear hk); (try clear hi); have hnb17 := NB129_0.out; have hnc17 := NB0_129.out; have hcz18_0 : w16.cell? ⟨gb129, 0, none⟩ = some (.int .i64 a1_0) := (blk_cell BK129.out 0).trans rfl; have hcz18_1 : w16.cell? ⟨gb129, 1, none⟩ = some (.int .i64 a1_1) := (blk_cell BK129.out 1).trans rfl; have hcz18_2 : w16.cell? ⟨gb129, 2, none⟩ = some (.int .i64 a1_2) := (blk_cell BK129.out 2).trans rfl; have hcz18_3 : w16.cell? ⟨gb129, 3, none⟩ = some (.int .i64 a1_3) := (blk_cell BK129.out 3).trans rfl; have hcz18_4 : w16.cell? ⟨gb129, 4, none⟩ = some (.int .i64 a1_4) := (blk_cell BK129.out 4).trans rfl; have hfz18_0 := blk_frozen BK129.out 0; have hfz18_1 := blk_frozen BK129.out 1; have hfz18_2 := blk_frozen BK129.out 2; have hfz18_3 := blk_frozen BK129.out 3; have hfz18_4 := blk_frozen BK129.out 4) | ((with_reducible refine gate_callee (f := 15) rfl ?_); refine goesL_ (some 17) rfl rfl Try.func15 (by kernel_rfl) rfl #[.pointer (some ⟨g, 0, none⟩), .int .i64 3] rfl (by (try simp only [List.map_toArray, List.map_cons, List.map_nil]); first | done | rfl | (simp only [List.length_drop, List.length_take]; rfl)) ?_; (with_reducible refine (mint_Mint_Below.calls g t131 3 t134 t135 w0 _ ?side1 ?side2 A14.out).mono ?_); (case side1 => repeat (first | (with_reducible first | exact HI0.out | apply IsS71.alloc | apply IsS71.drewN | apply IsS71.drew | apply IsS71.set_0 | refine IsS71.far ?_ NB0_129.out _) | exact HI0.out)); (case side2 => repeat (first | (with_reducible first | exact HB.out | apply below_alloc | apply pw_below_drewN | apply below_drew1 | refine below_set ?_ (IsS71.ge HI0.out) | refine below_set ?_ GE129.out) | exact HB.out)); rintro e w19 ⟨rfl, hi, hb, hk⟩; refine ⟨_, rfl, ?_⟩; have n0_ := Aside0.mk (KeepBut.blk hk (g' := gb129) (o := .cells #[.int .i64 a1_0, .int .i64 a1_1, .int .i64 a1_2, .int .i64 a1_3, .int .i64 a1_4] 31 (0, 0)) (by (with_reducible repeat (first | refine blk_drewN ?_ _ | refine blk_drew ?_ | refine blk_alloc ?_ _)); exact BK129.out) NB129_0.out (by simp)); have n1_ := Aside0.mk (KeepBut.trans (by repeat (first | (with_reducible first | exact HK.out | apply KeepBut.set_ | apply keep_drewN | apply keep_drew | apply keep_alloc | refine keep_far ?_ GW129.out _) | exact HK.out)) hk (.inl rfl)); have n2_ := Aside0.mk (hb); have n3_ := Aside0.mk (hi); clear BK129; clear HK; clear HB; clear HI0; have BK129 := n0_; have HK := n1_; have HB := n2_; have HI0 := n3_; clear n0_ n1_ n2_ n3_; (try clear hb); (try clear hb2); (try clear hk); (try clear hi)))
      go_ret
      exact ⟨by first | rfl | (simp [errW_none, errW_some] <;> rfl) | (simp [*, errW_none, errW_some] <;> rfl), by repeat (first | (with_reducible first | exact HI0.out | apply IsS71.alloc | apply IsS71.drewN | apply IsS71.drew | apply IsS71.set_0 | refine IsS71.far ?_ NB0_129.out _) | exact HI0.out), by repeat (first | (with_reducible first | exact HB.out | apply below_alloc | apply pw_below_drewN | apply below_drew1 | refine below_set ?_ (IsS71.ge HI0.out) | refine below_set ?_ GE129.out) | exact HB.out), by repeat (first | (with_reducible first | exact HK.out | apply KeepBut.set_ | apply keep_drewN | apply keep_drew | apply keep_alloc | refine keep_far ?_ GW129.out _) | exact HK.out)⟩

/-! ### mint_Mint_level: function 40 -/
def mint_Mint_level.l0 : Nat → Int → Int → Int → Option (Int × Int)
  | 0, _, _, _ => none
  | k + 1, x1, x5, x1000 => if x5 < x1 then ((mint_Mint_Below.f x1000 2).bind fun bt136 => (if bt136.1 = 0 then (mint_Mint_level.l0 k x1 (wrap64 (x5 + 1)) bt136.2) else (some (x5, bt136.2)))) else (some (x5, x1000))
def mint_Mint_level.f (k : Nat) (s0_0 : Int) (a1 : Int) : Option (Int × Int) := mint_Mint_level.l0 k a1 1 s0_0
set_option maxHeartbeats 8000000 in
set_option maxRecDepth 100000 in
theorem mint_Mint_level.calls (k : Nat) (g : Nat) (s0_0 : Int) (a1 : Int) (r1 : Int) (r2 : Int) (w0 w : World) (hI : IsS71 w0 w g s0_0) (hB : Below w0.heap.size w0 w) (h : mint_Mint_level.f k s0_0 a1 = some (r1, r2)) :
    Calls Try.prog 40 #[.pointer (some ⟨g, 0, none⟩), .int .i64 a1] w fun e w' => e = .returned (.int .i64 r1) ∧ IsS71 w0 w' g r2 ∧ Below w0.heap.size w0 w' ∧ KeepBut w w' g none := by
  have HI0 := Aside0.mk hI
  have HK := Aside0.mk (KeepBut.refl w g none)
  have HL := Aside0.mk hB.size
  clear hI
  have HW0 := Aside0.mk hB.size
  have HB := Aside0.mk hB
  clear hB
  have H : (mint_Mint_level.l0 k a1 1 s0_0) = some (r1, r2) := h
  clear h
  have H' := Aside0.mk H
  clear H
  go_enter Try.func40, Try.ntmps40
  go_wp2
  go_loopg [5] k (fun kq v5 w' => ∃ (x5_1 : Int) (x1000_1 : Int), v5 = .int .i64 x5_1 ∧ Aside0 (mint_Mint_level.l0 kq a1 x5_1 x1000_1 = some (r1, r2)) ∧ Aside0 (kq ≤ k) ∧ Aside0 (IsS71 w0 w' g x1000_1) ∧ Aside0 (KeepBut w w' g none) ∧ Aside0 (Below w0.heap.size w0 w'))
  case atStart => exact ⟨(1), (s0_0), (by first | rfl | (simp; done) | (simp [*]; done)), H', ⟨Nat.le_refl _⟩, ⟨by repeat (first | (with_reducible first | exact HI0.out | apply IsS71.alloc | apply IsS71.drewN | apply IsS71.drew | apply IsS71.set_0) | exact HI0.out)⟩, ⟨by repeat (first | (with_reducible first | exact HK.out | apply KeepBut.set_ | apply keep_drewN | apply keep_drew | apply keep_alloc) | exact HK.out)⟩, ⟨by repeat (first | (with_reducible first | exact HB.out | apply below_alloc | apply pw_below_drewN | apply below_drew1 | refine below_set ?_ (IsS71.ge HI0.out)) | exact HB.out)⟩⟩
  case round =>
    clear H'
    try clear p2
    obtain ⟨x5_1, x1000_1, rfl, HA, HK1, HI0, HK, HB⟩ := hrel
    cases gk with
    | zero => exact absurd HA.out (by simp [mint_Mint_level.l0])
    | succ k1 =>
      have H := HA.out
      clear HA
      simp only [mint_Mint_level.l0] at H
      by_cases c3 : x5_1 < a1
      · rw [if_pos c3] at H
        have c3b0 : decide (x5_1 < a1) = true := decide_eq_true c3
        clear c3
        replace H := Option.bind_eq_some_iff.mp H
        obtain ⟨⟨t136, t137⟩, A40, H⟩ := H
        replace H : (if t136 = 0 then (mint_Mint_level.l0 k1 a1 (wrap64 (x5_1 + 1)) t137) else (some (x5_1, t137))) = some (r1, r2) := H
        have A4 := Aside0.mk A40
        clear A40
        by_cases c5 : t136 = 0
        · rw [if_pos c5] at H
          have c5b0 : (t136 == 0) = true := beq_iff_eq.mpr c5
          have c5b1 : (t136 != 0) = false := bne_eq_false_iff_eq.mpr c5
          clear c5
          have H' := Aside0.mk H
          clear H
          go_wp2_with (first | (go_at_call 15; (with_reducible refine (mint_Mint_Below.calls g x1000_1 2 t136 t137 w0 _ ?side1 ?side2 A4.out).mono ?_); (case side1 => repeat (first | (with_reducible first | exact HI0.out | apply IsS71.alloc | apply IsS71.drewN | apply IsS71.drew | apply IsS71.set_0) | exact HI0.out)); (case side2 => repeat (first | (with_reducible first | exact HB.out | apply below_alloc | apply pw_below_drewN | apply below_drew1 | refine below_set ?_ (IsS71.ge HI0.out)) | exact HB.out)); rintro e w6 ⟨rfl, hi, hb, hk⟩; have n0_ := Aside0.mk (KeepBut.trans (by repeat (first | (with_reducible first | exact HK.out | apply KeepBut.set_ | apply keep_drewN | apply keep_drew | apply keep_alloc) | exact HK.out)) hk (.inl rfl)); have n1_ := Aside0.mk (hb); have n2_ := Aside0.mk (hi); clear HK; clear HB; clear HI0; have HK := n0_; have HB := n1_; have HI0 := n2_; clear n0_ n1_ n2_; (try clear hb); (try clear hb2); (try clear hk); (try clear hi)))
          go_roundg k1
          case measure => have := HK1.out; omega
          case rel => exact ⟨(wrap64 (x5_1 + 1)), (t137), (by first | rfl | (simp; done) | (simp [*]; done)), H', ⟨by have := HK1.out; omega⟩, ⟨by repeat (first | (with_reducible first | exact HI0.out | apply IsS71.alloc | apply IsS71.drewN | apply IsS71.drew | apply IsS71.set_0) | exact HI0.out)⟩, ⟨by repeat (first | (with_reducible first | exact HK.out | apply KeepBut.set_ | apply keep_drewN | apply keep_drew | apply keep_alloc) | exact HK.out)⟩, ⟨by repeat (first | (with_reducible first | exact HB.out | apply below_alloc | apply pw_below_drewN | apply below_drew1 | refine below_set ?_ (IsS71.ge HI0.out)) | exact HB.out)⟩⟩
        · rw [if_neg c5] at H
          have c5b0 : (t136 == 0) = false := beq_eq_false_iff_ne.mpr c5
          have c5b1 : (t136 != 0) = true := bne_iff_ne.mpr c5
          simp only [Option.some.injEq, Prod.mk.injEq] at H
          obtain ⟨rfl, rfl⟩ := H
          go_wp2_with (first | (go_at_call 15; (with_reducible refine (mint_Mint_Below.calls g x1000_1 2 t136 t137 w0 _ ?side1 ?side2 A4.out).mono ?_); (case side1 => repeat (first | (with_reducible first | exact HI0.out | apply IsS71.alloc | apply IsS71.drewN | apply IsS71.drew | apply IsS71.set_0) | exact HI0.out)); (case side2 => repeat (first | (with_reducible first | exact HB.out | apply below_alloc | apply pw_below_drewN | apply below_drew1 | refine below_set ?_ (IsS71.ge HI0.out)) | exact HB.out)); rintro e w7 ⟨rfl, hi, hb, hk⟩; have n0_ := Aside0.mk (KeepBut.trans (by repeat (first | (with_reducible first | exact HK.out | apply KeepBut.set_ | apply keep_drewN | apply keep_drew | apply keep_alloc) | exact HK.out)) hk (.inl rfl)); have n1_ := Aside0.mk (hb); have n2_ := Aside0.mk (hi); clear HK; clear HB; clear HI0; have HK := n0_; have HB := n1_; have HI0 := n2_; clear n0_ n1_ n2_; (try clear hb); (try clear hb2); (try clear hk); (try clear hi)))
          go_ret
          exact ⟨by first | rfl | (simp [errW_none, errW_some] <;> rfl) | (simp [*, errW_none, errW_some] <;> rfl), by repeat (first | (with_reducible first | exact HI0.out | apply IsS71.alloc | apply IsS71.drewN | apply IsS71.drew | apply IsS71.set_0) | exact HI0.out), by repeat (first | (with_reducible first | exact HB.out | apply below_alloc | apply pw_below_drewN | apply below_drew1 | refine below_set ?_ (IsS71.ge HI0.out)) | exact HB.out), by repeat (first | (with_reducible first | exact HK.out | apply KeepBut.set_ | apply keep_drewN | apply keep_drew | apply keep_alloc) | exact HK.out)⟩
      · rw [if_neg c3] at H
        have c3b0 : decide (x5_1 < a1) = false := decide_eq_false c3
        clear c3
        simp only [Option.some.injEq, Prod.mk.injEq] at H
        obtain ⟨rfl, rfl⟩ := H
        go_wp2
        go_ret
        exact ⟨by first | rfl | (simp [errW_none, errW_some] <;> rfl) | (simp [*, errW_none, errW_some] <;> rfl), by repeat (first | (with_reducible first | exact HI0.out | apply IsS71.alloc | apply IsS71.drewN | apply IsS71.drew | apply IsS71.set_0) | exact HI0.out), by repeat (first | (with_reducible first | exact HB.out | apply below_alloc | apply pw_below_drewN | apply below_drew1 | refine below_set ?_ (IsS71.ge HI0.out)) | exact HB.out), by repeat (first | (with_reducible first | exact HK.out | apply KeepBut.set_ | apply keep_drewN | apply keep_drew | apply keep_alloc) | exact HK.out)⟩

end Go.Proofs.Ytcphmelmieedfaa.PMintScripts
