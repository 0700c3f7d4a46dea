import Derived.Test.YtmdncdepdnpjiaaPMixExactx0
import Derived.Test.YtmdncdepdnpjiaaPMixExactx1
import Derived.Test.YtmdncdepdnpjiaaPMixExactx2
namespace Go.Proofs.Ytmdncdepdnpjiaa.PMixExact
open Go.RowKit Go.Proofs.YtmdncdepdnpjiaaW.PrintWords Go.Proofs.YtmdncdepdnpjiaaW.PrintLast Go.Proofs.YtmdncdepdnpjiaaW.PrintMore
attribute [local go_sem] max2_int min2_int max_two min_two max_three min_three max_four min_four   -- for this text's walks alone
set_option linter.unusedVariables false
set_option linter.unusedSimpArgs false

/-! ### revenantref12_turn: function 58 -/
def revenantref12_turn.f (a0 : Int) : Option (Int) := some (Go.bits .xor .u64 a0 (IntKind.u64.wrap (Int.tdiv a0 8589934592)))
set_option maxHeartbeats 8000000 in
set_option maxRecDepth 100000 in
theorem revenantref12_turn.calls (a0 : Int) (r : Int) (w : World) (h : revenantref12_turn.f a0 = some r) :
    Calls Try.prog 58 #[.int .u64 a0] w fun e w' => e = .returned (.int .u64 r) ∧ Drawn0 w w' := by
  have H : (some (Go.bits .xor .u64 a0 (IntKind.u64.wrap (Int.tdiv a0 8589934592)))) = some r := h
  clear h
  obtain rfl := Option.some.inj H
  go_enter Try.func58, Try.ntmps58
  go_wp2
  go_ret
  exact ⟨by first | rfl | (simp; done) | (simp [*]; done), by repeat (first | exact Drawn0.refl _ | apply Drawn0.step)⟩

/-! ### revenantref12_Mix: function 38 -/
def revenantref12_Mix.f (a0 : Int) : Option (Int) := (revenantref12_turn.f a0).bind fun t158 => ((revenantref12_turn.f (IntKind.u64.wrap (t158 * 18397679294719823053))).bind fun t159 => ((revenantref12_turn.f (IntKind.u64.wrap (t159 * 14181476777654086739))).bind fun t160 => (some t160)))
set_option maxHeartbeats 8000000 in
set_option maxRecDepth 100000 in
theorem revenantref12_Mix.calls (a0 : Int) (r : Int) (w : World) (h : revenantref12_Mix.f a0 = some r) :
    Calls Try.prog 38 #[.int .u64 a0] w fun e w' => e = .returned (.int .u64 r) ∧ Drawn0 w w' := by
  have H : ((revenantref12_turn.f a0).bind fun t158 => ((revenantref12_turn.f (IntKind.u64.wrap (t158 * 18397679294719823053))).bind fun t159 => ((revenantref12_turn.f (IntKind.u64.wrap (t159 * 14181476777654086739))).bind fun t160 => (some t160)))) = some r := h
  clear h
  replace H := Option.bind_eq_some_iff.mp H
  obtain ⟨t158, A20, H⟩ := H
  replace H : ((revenantref12_turn.f (IntKind.u64.wrap (t158 * 18397679294719823053))).bind fun t159 => ((revenantref12_turn.f (IntKind.u64.wrap (t159 * 14181476777654086739))).bind fun t160 => (some t160))) = some r := H
  have A2 := Aside0.mk A20
  clear A20
  replace H := Option.bind_eq_some_iff.mp H
  obtain ⟨t159, A30, H⟩ := H
  replace H : ((revenantref12_turn.f (IntKind.u64.wrap (t159 * 14181476777654086739))).bind fun t160 => (some t160)) = some r := H
  have A3 := Aside0.mk A30
  clear A30
  replace H := Option.bind_eq_some_iff.mp H
  obtain ⟨t160, A40, H⟩ := H
  replace H : (some t160) = some r := H
  have A4 := Aside0.mk A40
  clear A40
  obtain rfl := Option.some.inj H
  go_enter Try.func38, Try.ntmps38
  go_wp2_with (first | ((with_reducible refine gate_callee (f := 58) rfl ?_); refine goesL_ (some 5) rfl rfl Try.func58 (by kernel_rfl) rfl #[.int .u64 a0] rfl (by (try simp only [List.map_toArray, List.map_cons, List.map_nil]); first | done | rfl | (simp only [List.length_drop, List.length_take]; rfl)) ?_; (with_reducible refine (revenantref12_turn.calls a0 t158 _ A2.out).mono ?_); rintro e w' ⟨rfl, ⟨nd, rfl⟩⟩; refine ⟨_, rfl, ?_⟩) | ((with_reducible refine gate_callee (f := 58) rfl ?_); refine goesL_ (some 9) rfl rfl Try.func58 (by kernel_rfl) rfl #[.int .u64 (IntKind.u64.wrap (t158 * 18397679294719823053))] rfl (by (try simp only [List.map_toArray, List.map_cons, List.map_nil]); first | done | rfl | (simp only [List.length_drop, List.length_take]; rfl)) ?_; (with_reducible refine (revenantref12_turn.calls (IntKind.u64.wrap (t158 * 18397679294719823053)) t159 _ A3.out).mono ?_); rintro e w' ⟨rfl, ⟨nd, rfl⟩⟩; refine ⟨_, rfl, ?_⟩) | ((with_reducible refine gate_callee (f := 58) rfl ?_); refine goesL_ (some 13) rfl rfl Try.func58 (by kernel_rfl) rfl #[.int .u64 (IntKind.u64.wrap (t159 * 14181476777654086739))] rfl (by (try simp only [List.map_toArray, List.map_cons, List.map_nil]); first | done | rfl | (simp only [List.length_drop, List.length_take]; rfl)) ?_; (with_reducible refine (revenantref12_turn.calls (IntKind.u64.wrap (t159 * 14181476777654086739)) t160 _ A4.out).mono ?_); rintro e w' ⟨rfl, ⟨nd, rfl⟩⟩; refine ⟨_, rfl, ?_⟩))
  go_ret
  exact ⟨by first | rfl | (simp; done) | (simp [*]; done), by repeat (first | exact Drawn0.refl _ | apply Drawn0.step)⟩

/-! ### revenantref12_Bucket: function 36 -/
def revenantref12_Bucket.f (a0 : Int) (a1 : Int) : Option (Int) := (revenantref12_Mix.f a1).bind fun t161 => (some (wrap64 (IntKind.u64.wrap (Int.tdiv (IntKind.u64.wrap ((IntKind.u64.wrap (Int.tdiv t161 4294967296)) * (IntKind.u64.wrap (a0)))) 4294967296))))
set_option maxHeartbeats 8000000 in
set_option maxRecDepth 100000 in
theorem revenantref12_Bucket.calls (a0 : Int) (a1 : Int) (r : Int) (w : World) (h : revenantref12_Bucket.f a0 a1 = some r) :
    Calls Try.prog 36 #[.int .i64 a0, .int .u64 a1] w fun e w' => e = .returned (.int .i64 r) ∧ Drawn0 w w' := by
  have H : ((revenantref12_Mix.f a1).bind fun t161 => (some (wrap64 (IntKind.u64.wrap (Int.tdiv (IntKind.u64.wrap ((IntKind.u64.wrap (Int.tdiv t161 4294967296)) * (IntKind.u64.wrap (a0)))) 4294967296))))) = some r := h
  clear h
  replace H := Option.bind_eq_some_iff.mp H
  obtain ⟨t161, A30, H⟩ := H
  replace H : (some (wrap64 (IntKind.u64.wrap (Int.tdiv (IntKind.u64.wrap ((IntKind.u64.wrap (Int.tdiv t161 4294967296)) * (IntKind.u64.wrap (a0)))) 4294967296)))) = some r := H
  have A3 := Aside0.mk A30
  clear A30
  obtain rfl := Option.some.inj H
  go_enter Try.func36, Try.ntmps36
  go_wp2_with (first | ((with_reducible refine gate_callee (f := 38) rfl ?_); refine goesL_ (some 6) rfl rfl Try.func38 (by kernel_rfl) rfl #[.int .u64 a1] rfl (by (try simp only [List.map_toArray, List.map_cons, List.map_nil]); first | done | rfl | (simp only [List.length_drop, List.length_take]; rfl)) ?_; (with_reducible refine (revenantref12_Mix.calls a1 t161 _ A3.out).mono ?_); rintro e w' ⟨rfl, ⟨nd, rfl⟩⟩; refine ⟨_, rfl, ?_⟩))
  go_ret
  exact ⟨by first | rfl | (simp; done) | (simp [*]; done), by repeat (first | exact Drawn0.refl _ | apply Drawn0.step)⟩

/-! ### revenantlaw12_MixExact: function 8 -/
def revenantlaw12_MixExact.j0 : Nat → Int → Int → Bool → Int → Int → Int → Int → Int → Option (Bool)
  | 0, _, _, _, _, _, _, _, _ => none
  | k + 1, x0, x5, x15, x163000, x163001, x163002, x163003, x163004 => if x15 = true then ((revenantref12_Bucket.f x163002 x0).bind fun t165 => ((mix_Mix.f x0).bind fun t166 => ((revenantref12_Mix.f x0).bind fun t167 => (if t166 = t167 then ((mix_Bucket.f k x163000 x163001 x163002 x163003 x163004 x0).bind fun t168 => (if t168 = t165 then (if t165 ≥ 0 then (some (decide (t165 < (mx x163002 1)))) else (some false)) else (some false))) else (some false))))) else ((mix_Mix.f x0).bind fun t169 => ((revenantref12_Mix.f x0).bind fun t170 => (if t169 = t170 then ((mix_Bucket.f k x163000 x163001 x163002 x163003 x163004 x0).bind fun t171 => (if t171 = x5 then (if x5 ≥ 0 then (some (decide (x5 < (mx x163002 1)))) else (some false)) else (some false))) else (some false))))
def revenantlaw12_MixExact.f (k : Nat) (a0 : Int) (a1_0 : Int) (a1_1 : Int) (a1_2 : Int) (a1_3 : Int) (a1_4 : Int) : Option (Bool) := (revenantlaw12_awake.f k).bind fun t163 => (if t163 = true then ((revenantref03_Check.f k a1_0 a1_1 a1_2 a1_3 a1_4).bind fun t164 => (if t164 = 0 then (revenantlaw12_MixExact.j0 k a0 0 (a1_0 == 2) a1_0 a1_1 a1_2 a1_3 a1_4) else (revenantlaw12_MixExact.j0 k a0 0 false a1_0 a1_1 a1_2 a1_3 a1_4))) else (some false))
theorem revenantlaw12_MixExact.mono_l : ∀ k, (∀ y0 y1 y2 y3 y4 y5 y6 y7, LeO (revenantlaw12_MixExact.j0 k y0 y1 y2 y3 y4 y5 y6 y7) (revenantlaw12_MixExact.j0 (k + 1) y0 y1 y2 y3 y4 y5 y6 y7))
  | 0 => fun _ _ _ _ _ _ _ _ r h => by simp [revenantlaw12_MixExact.j0] at h
  | k + 1 => by
    have ih0 := revenantlaw12_MixExact.mono_l k
    · intro y0 y1 y2 y3 y4 y5 y6 y7
      unfold revenantlaw12_MixExact.j0
      repeat' first
      | (with_reducible exact ih0 _ _ _ _ _ _ _ _)
      | (with_reducible exact mix_Bucket.mono _ _ _ _ _ _ _)
      | (with_reducible exact revenantlaw12_awake.mono _)
      | (with_reducible exact revenantref03_Check.mono _ _ _ _ _ _)
      | (with_reducible exact LeO.refl _)
      | (with_reducible exact LeO.none _)
      | (with_reducible refine LeO.ite ?_ ?_)
      | (with_reducible refine LeO.bind ?_ (fun _ => ?_))
      | exact ih0 _ _ _ _ _ _ _ _
      | exact mix_Bucket.mono _ _ _ _ _ _ _
      | exact revenantlaw12_awake.mono _
      | exact revenantref03_Check.mono _ _ _ _ _ _
      | exact LeO.none _
      | refine LeO.ite ?_ ?_
      | refine LeO.bind ?_ (fun _ => ?_)
theorem revenantlaw12_MixExact.mono : ∀ a0 a1 a2 a3 a4 a5 k, LeO (revenantlaw12_MixExact.f k a0 a1 a2 a3 a4 a5) (revenantlaw12_MixExact.f (k + 1) a0 a1 a2 a3 a4 a5) := by
  intro a0 a1 a2 a3 a4 a5 k
  have ih0 := revenantlaw12_MixExact.mono_l k
  unfold revenantlaw12_MixExact.f
  repeat' first
      | (with_reducible exact ih0 _ _ _ _ _ _ _ _)
      | (with_reducible exact mix_Bucket.mono _ _ _ _ _ _ _)
      | (with_reducible exact revenantlaw12_awake.mono _)
      | (with_reducible exact revenantref03_Check.mono _ _ _ _ _ _)
      | (with_reducible exact LeO.refl _)
      | (with_reducible exact LeO.none _)
      | (with_reducible refine LeO.ite ?_ ?_)
      | (with_reducible refine LeO.bind ?_ (fun _ => ?_))
      | exact ih0 _ _ _ _ _ _ _ _
      | exact mix_Bucket.mono _ _ _ _ _ _ _
      | exact revenantlaw12_awake.mono _
      | exact revenantref03_Check.mono _ _ _ _ _ _
      | exact LeO.none _
      | refine LeO.ite ?_ ?_
      | refine LeO.bind ?_ (fun _ => ?_)
set_option maxHeartbeats 8000000 in
set_option maxRecDepth 100000 in
theorem revenantlaw12_MixExact.callsT (k : Nat) (a0 : Int) (a1_0 : Int) (a1_1 : Int) (a1_2 : Int) (a1_3 : Int) (a1_4 : Int) (r : Bool) (w : World) (hr0 : r = true) (h : revenantlaw12_MixExact.f k a0 a1_0 a1_1 a1_2 a1_3 a1_4 = some r) :
    Calls Try.prog 8 #[.int .u64 a0, .agg #[.int .i64 a1_0, .int .i64 a1_1, .int .i64 a1_2, .int .i64 a1_3, .int .i64 a1_4]] w fun e w' => e = .returned (.bool r) ∧ Below w.heap.size w w' := by
  have hu42 := Try.underlying42
  have HB := Aside0.mk (Below.refl w.heap.size w)
  have HR := Aside0.mk hr0
  clear hr0
  have H : ((revenantlaw12_awake.f k).bind fun t163 => (if t163 = true then ((revenantref03_Check.f k a1_0 a1_1 a1_2 a1_3 a1_4).bind fun t164 => (if t164 = 0 then (revenantlaw12_MixExact.j0 k a0 0 (a1_0 == 2) a1_0 a1_1 a1_2 a1_3 a1_4) else (revenantlaw12_MixExact.j0 k a0 0 false a1_0 a1_1 a1_2 a1_3 a1_4))) else (some false))) = some r := h
  clear h
  replace H := Option.bind_eq_some_iff.mp H
  obtain ⟨t163, A30, H⟩ := H
  replace H : (if t163 = true then ((revenantref03_Check.f k a1_0 a1_1 a1_2 a1_3 a1_4).bind fun t164 => (if t164 = 0 then (revenantlaw12_MixExact.j0 k a0 0 (a1_0 == 2) a1_0 a1_1 a1_2 a1_3 a1_4) else (revenantlaw12_MixExact.j0 k a0 0 false a1_0 a1_1 a1_2 a1_3 a1_4))) else (some false)) = some r := H
  have A3 := Aside0.mk A30
  clear A30
  by_cases c4 : t163 = true
  · subst c4
    have H1 : ((revenantref03_Check.f k a1_0 a1_1 a1_2 a1_3 a1_4).bind fun t164 => (if t164 = 0 then (revenantlaw12_MixExact.j0 k a0 0 (a1_0 == 2) a1_0 a1_1 a1_2 a1_3 a1_4) else (revenantlaw12_MixExact.j0 k a0 0 false a1_0 a1_1 a1_2 a1_3 a1_4))) = some r := by rw [if_pos rfl] at H; exact H
    clear H
    have H := H1
    clear H1
    have HC5 := Aside0.mk H
    clear H
    go_enter Try.func8, Try.ntmps8
    go_upto_region 4 with (first | ((with_reducible refine gate_dst (N := 3) rfl ?_); (try (refine gate_guard (by rfl) ?_; dsimp only)); refine box_event ?hg (N := 3) ?hd (cs := #[.int .i64 a1_0, .int .i64 a1_1, .int .i64 a1_2, .int .i64 a1_3, .int .i64 a1_4]) (t := 42) ?hr ?_; (case hd => rfl); (case hg => rfl); (case hr => first | (go_simp; done) | (go_simp; rfl)); intro gb162 hg w6 hbox hb; have n0_ := Aside0.mk (below_step (by repeat (first | (with_reducible first | exact HB.out | apply below_alloc | apply pw_below_drewN | apply below_drew1) | exact HB.out)) hb); have n1_ := Aside0.mk (hbox); have n2_ := Aside0.mk ((by rw [hg]; exact (below_size (by repeat (first | (with_reducible first | exact HB.out | apply below_alloc | apply pw_below_drewN | apply below_drew1) | exact HB.out))) : w.heap.size ≤ gb162)); have n3_ := Aside0.mk ((by rw [hg]; exact (below_size (by repeat (first | (with_reducible first | exact HB.out | apply below_alloc | apply pw_below_drewN | apply below_drew1) | exact HB.out))) : w.heap.size ≤ gb162)); clear HB; have HB := n0_; have BK162 := n1_; have GW162 := n2_; have GE162 := n3_; clear n0_ n1_ n2_ n3_; clear hb hbox hg) | ((with_reducible refine gate_callee (f := 34) rfl ?_); refine goesL_ (some 6) rfl rfl Try.func34 (by kernel_rfl) rfl #[] rfl (by (try simp only [List.map_toArray, List.map_cons, List.map_nil]); first | done | rfl | (simp only [List.length_drop, List.length_take]; rfl)) ?_; (with_reducible refine (revenantlaw12_awake.calls k  true _ A3.out).mono ?_); rintro e w7 ⟨rfl, hb⟩; refine ⟨_, rfl, ?_⟩; have n0_ := Aside0.mk (blk_below (g := gb162) (o := .cells #[.int .i64 a1_0, .int .i64 a1_1, .int .i64 a1_2, .int .i64 a1_3, .int .i64 a1_4] 42 (0, 0)) (by (with_reducible repeat (first | refine blk_drewN ?_ _ | refine blk_drew ?_ | refine blk_alloc ?_ _)); exact BK162.out) hb); have n1_ := Aside0.mk (below_step (by repeat (first | (with_reducible first | exact HB.out | apply below_alloc | apply pw_below_drewN | apply below_drew1 | refine below_set ?_ GE162.out) | exact HB.out)) hb); clear BK162; clear HB; have BK162 := n0_; have HB := n1_; clear n0_ n1_; (try clear hb); (try clear hb2); (try clear hk); (try clear hi)))
    (try simp only [Act.put, List.setIfInBounds_toArray, List.set_cons_zero, List.set_cons_succ])
    go_cut [15] (fun v15 wc => ∃ (kq : Nat) (x15_4 : Bool), v15 = .bool x15_4 ∧ Aside0 (revenantlaw12_MixExact.j0 kq a0 0 x15_4 a1_0 a1_1 a1_2 a1_3 a1_4 = some r) ∧ Aside0 (kq ≤ k) ∧ Aside0 (wc.heap[gb162]? = some (.cells #[.int .i64 a1_0, .int .i64 a1_1, .int .i64 a1_2, .int .i64 a1_3, .int .i64 a1_4] 42 (0, 0))) ∧ Aside0 (Below w.heap.size w wc))
    case first =>
      have H := HC5.out
      clear HC5
      replace H := Option.bind_eq_some_iff.mp H
      obtain ⟨t164, A80, H⟩ := H
      replace H : (if t164 = 0 then (revenantlaw12_MixExact.j0 k a0 0 (a1_0 == 2) a1_0 a1_1 a1_2 a1_3 a1_4) else (revenantlaw12_MixExact.j0 k a0 0 false a1_0 a1_1 a1_2 a1_3 a1_4)) = some r := H
      have A8 := Aside0.mk A80
      clear A80
      by_cases c9 : t164 = 0
      · rw [if_pos c9] at H
        have c9b0 : (t164 == 0) = true := beq_iff_eq.mpr c9
        have c9b1 : (t164 != 0) = false := bne_eq_false_iff_eq.mpr c9
        clear c9
        (first | rw [c9b0] | (simp only [i64_w, i32_w]; rw [c9b0]) | skip)
        have H' := Aside0.mk H
        clear H
        have hcz10_0 : w7.cell? ⟨gb162, 0, none⟩ = some (.int .i64 a1_0) := (blk_cell BK162.out 0).trans rfl
        have hcz10_1 : w7.cell? ⟨gb162, 1, none⟩ = some (.int .i64 a1_1) := (blk_cell BK162.out 1).trans rfl
        have hcz10_2 : w7.cell? ⟨gb162, 2, none⟩ = some (.int .i64 a1_2) := (blk_cell BK162.out 2).trans rfl
        have hcz10_3 : w7.cell? ⟨gb162, 3, none⟩ = some (.int .i64 a1_3) := (blk_cell BK162.out 3).trans rfl
        have hcz10_4 : w7.cell? ⟨gb162, 4, none⟩ = some (.int .i64 a1_4) := (blk_cell BK162.out 4).trans rfl
        have hfz10_0 := blk_frozen BK162.out 0
        have hfz10_1 := blk_frozen BK162.out 1
        have hfz10_2 := blk_frozen BK162.out 2
        have hfz10_3 := blk_frozen BK162.out 3
        have hfz10_4 := blk_frozen BK162.out 4
        go_wp2_with (first | ((with_reducible refine gate_callee (f := 35) rfl ?_); refine goesL_ (some 9) rfl rfl Try.func35 (by kernel_rfl) rfl #[.agg #[.int .i64 a1_0, .int .i64 a1_1, .int .i64 a1_2, .int .i64 a1_3, .int .i64 a1_4]] rfl (by (try simp only [List.map_toArray, List.map_cons, List.map_nil]); first | done | rfl | (simp only [List.length_drop, List.length_take]; rfl)) ?_; (with_reducible refine (revenantref03_Check.calls k a1_0 a1_1 a1_2 a1_3 a1_4 t164 _ A8.out).mono ?_); rintro e w11 ⟨rfl, hb⟩; refine ⟨_, rfl, ?_⟩; have n0_ := Aside0.mk (blk_below (g := gb162) (o := .cells #[.int .i64 a1_0, .int .i64 a1_1, .int .i64 a1_2, .int .i64 a1_3, .int .i64 a1_4] 42 (0, 0)) (by (with_reducible repeat (first | refine blk_drewN ?_ _ | refine blk_drew ?_ | refine blk_alloc ?_ _)); exact BK162.out) hb); have n1_ := Aside0.mk (below_step (by repeat (first | (with_reducible first | exact HB.out | apply below_alloc | apply pw_below_drewN | apply below_drew1 | refine below_set ?_ GE162.out) | exact HB.out)) hb); clear BK162; clear HB; have BK162 := n0_; have HB := n1_; clear n0_ n1_; (try clear hb); (try clear hb2); (try clear hk); (try clear hi); have hcz12_0 : w11.cell? ⟨gb162, 0, none⟩ = some (.int .i64 a1_0) := (blk_cell BK162.out 0).trans rfl; have hcz12_1 : w11.cell? ⟨gb162, 1, none⟩ = some (.int .i64 a1_1) := (blk_cell BK162.out 1).trans rfl; have hcz12_2 : w11.cell? ⟨gb162, 2, none⟩ = some (.int .i64 a1_2) := (blk_cell BK162.out 2).trans rfl; have hcz12_3 : w11.cell? ⟨gb162, 3, none⟩ = some (.int .i64 a1_3) := (blk_cell BK162.out 3).trans rfl; have hcz12_4 : w11.cell? ⟨gb162, 4, none⟩ = some (.int .i64 a1_4) := (blk_cell BK162.out 4).trans rfl; have hfz12_0 := blk_frozen BK162.out 0; have hfz12_1 := blk_frozen BK162.out 1; have hfz12_2 := blk_frozen BK162.out 2; have hfz12_3 := blk_frozen BK162.out 3; have hfz12_4 := blk_frozen BK162.out 4))
        go_meet
        case rel => exact ⟨_, ((a1_0 == 2)), (by first | rfl | (simp; done) | (simp [*]; done)), H', ⟨by first | omega | exact Nat.le_refl _⟩, ⟨by (with_reducible repeat (first | refine blk_drewN ?_ _ | refine blk_drew ?_ | refine blk_alloc ?_ _)); exact BK162.out⟩, ⟨by repeat (first | (with_reducible first | exact HB.out | apply below_alloc | apply pw_below_drewN | apply below_drew1 | refine below_set ?_ GE162.out) | exact HB.out)⟩⟩
      · rw [if_neg c9] at H
        have c9b0 : (t164 == 0) = false := beq_eq_false_iff_ne.mpr c9
        have c9b1 : (t164 != 0) = true := bne_iff_ne.mpr c9
        (first | rw [c9b0] | (simp only [i64_w, i32_w]; rw [c9b0]) | skip)
        have H' := Aside0.mk H
        clear H
        have hcz13_0 : w7.cell? ⟨gb162, 0, none⟩ = some (.int .i64 a1_0) := (blk_cell BK162.out 0).trans rfl
        have hcz13_1 : w7.cell? ⟨gb162, 1, none⟩ = some (.int .i64 a1_1) := (blk_cell BK162.out 1).trans rfl
        have hcz13_2 : w7.cell? ⟨gb162, 2, none⟩ = some (.int .i64 a1_2) := (blk_cell BK162.out 2).trans rfl
        have hcz13_3 : w7.cell? ⟨gb162, 3, none⟩ = some (.int .i64 a1_3) := (blk_cell BK162.out 3).trans rfl
        have hcz13_4 : w7.cell? ⟨gb162, 4, none⟩ = some (.int .i64 a1_4) := (blk_cell BK162.out 4).trans rfl
        have hfz13_0 := blk_frozen BK162.out 0
        have hfz13_1 := blk_frozen BK162.out 1
        have hfz13_2 := blk_frozen BK162.out 2
        have hfz13_3 := blk_frozen BK162.out 3
        have hfz13_4 := blk_frozen BK162.out 4
        go_wp2_with (first | ((with_reducible refine gate_callee (f := 35) rfl ?_); refine goesL_ (some 9) rfl rfl Try.func35 (by kernel_rfl) rfl #[.agg #[.int .i64 a1_0, .int .i64 a1_1, .int .i64 a1_2, .int .i64 a1_3, .int .i64 a1_4]] rfl (by (try simp only [List.map_toArray, List.map_cons, List.map_nil]); first | done | rfl | (simp only [List.length_drop, List.length_take]; rfl)) ?_; (with_reducible refine (revenantref03_Check.calls k a1_0 a1_1 a1_2 a1_3 a1_4 t164 _ A8.out).mono ?_); rintro e w14 ⟨rfl, hb⟩; refine ⟨_, rfl, ?_⟩; have n0_ := Aside0.mk (blk_below (g := gb162) (o := .cells #[.int .i64 a1_0, .int .i64 a1_1, .int .i64 a1_2, .int .i64 a1_3, .int .i64 a1_4] 42 (0, 0)) (by (with_reducible repeat (first | refine blk_drewN ?_ _ | refine blk_drew ?_ | refine blk_alloc ?_ _)); exact BK162.out) hb); have n1_ := Aside0.mk (below_step (by repeat (first | (with_reducible first | exact HB.out | apply below_alloc | apply pw_below_drewN | apply below_drew1 | refine below_set ?_ GE162.out) | exact HB.out)) hb); clear BK162; clear HB; have BK162 := n0_; have HB := n1_; clear n0_ n1_; (try clear hb); (try clear hb2); (try clear hk); (try clear hi)))
        go_meet
        case rel => exact ⟨_, (false), (by first | rfl | (simp; done) | (simp [*]; done)), H', ⟨by first | omega | exact Nat.le_refl _⟩, ⟨by (with_reducible repeat (first | refine blk_drewN ?_ _ | refine blk_drew ?_ | refine blk_alloc ?_ _)); exact BK162.out⟩, ⟨by repeat (first | (with_reducible first | exact HB.out | apply below_alloc | apply pw_below_drewN | apply below_drew1 | refine below_set ?_ GE162.out) | exact HB.out)⟩⟩
    case rest =>
      clear HC5
      try clear p2
      try clear c3
      try clear c4
      try clear c8
      try clear c9
      try clear c9b0
      try clear c9b1
      try clear hcz10_0
      try clear hcz10_1
      try clear hcz10_2
      try clear hcz10_3
      try clear hcz10_4
      try clear hcz12_0
      try clear hcz12_1
      try clear hcz12_2
      try clear hcz12_3
      try clear hcz12_4
      try clear hcz13_0
      try clear hcz13_1
      try clear hcz13_2
      try clear hcz13_3
      try clear hcz13_4
      try clear hfz10_0
      try clear hfz10_1
      try clear hfz10_2
      try clear hfz10_3
      try clear hfz10_4
      try clear hfz12_0
      try clear hfz12_1
      try clear hfz12_2
      try clear hfz12_3
      try clear hfz12_4
      try clear hfz13_0
      try clear hfz13_1
      try clear hfz13_2
      try clear hfz13_3
      try clear hfz13_4
      obtain ⟨kq, x15_4, rfl, HA, HJ4, BK162, HB⟩ := hcut
      cases kq with
      | zero => exact absurd HA.out (by simp [revenantlaw12_MixExact.j0])
      | succ kj4 =>
        have H := HA.out
        clear HA
        simp only [revenantlaw12_MixExact.j0] at H
        by_cases c15 : x15_4 = true
        · subst c15
          have H1 : ((revenantref12_Bucket.f a1_2 a0).bind fun t165 => ((mix_Mix.f a0).bind fun t166 => ((revenantref12_Mix.f a0).bind fun t167 => (if t166 = t167 then ((mix_Bucket.f kj4 a1_0 a1_1 a1_2 a1_3 a1_4 a0).bind fun t168 => (if t168 = t165 then (if t165 ≥ 0 then (some (decide (t165 < (mx a1_2 1)))) else (some false)) else (some false))) else (some false))))) = some r := by rw [if_pos rfl] at H; exact H
          clear H
          have H := H1
          clear H1
          replace H := Option.bind_eq_some_iff.mp H
          obtain ⟨t165, A160, H⟩ := H
          replace H : ((mix_Mix.f a0).bind fun t166 => ((revenantref12_Mix.f a0).bind fun t167 => (if t166 = t167 then ((mix_Bucket.f kj4 a1_0 a1_1 a1_2 a1_3 a1_4 a0).bind fun t168 => (if t168 = t165 then (if t165 ≥ 0 then (some (decide (t165 < (mx a1_2 1)))) else (some false)) else (some false))) else (some false)))) = some r := H
          have A16 := Aside0.mk A160
          clear A160
          replace H := Option.bind_eq_some_iff.mp H
          obtain ⟨t166, A170, H⟩ := H
          replace H : ((revenantref12_Mix.f a0).bind fun t167 => (if t166 = t167 then ((mix_Bucket.f kj4 a1_0 a1_1 a1_2 a1_3 a1_4 a0).bind fun t168 => (if t168 = t165 then (if t165 ≥ 0 then (some (decide (t165 < (mx a1_2 1)))) else (some false)) else (some false))) else (some false))) = some r := H
          have A17 := Aside0.mk A170
          clear A170
          replace H := Option.bind_eq_some_iff.mp H
          obtain ⟨t167, A180, H⟩ := H
          replace H : (if t166 = t167 then ((mix_Bucket.f kj4 a1_0 a1_1 a1_2 a1_3 a1_4 a0).bind fun t168 => (if t168 = t165 then (if t165 ≥ 0 then (some (decide (t165 < (mx a1_2 1)))) else (some false)) else (some false))) else (some false)) = some r := H
          have A18 := Aside0.mk A180
          clear A180
          by_cases c19 : t166 = t167
          · rw [if_pos c19] at H
            have c19b0 : (t166 == t167) = true := beq_iff_eq.mpr c19
            have c19b1 : (t166 != t167) = false := bne_eq_false_iff_eq.mpr c19
            clear c19
            replace H := Option.bind_eq_some_iff.mp H
            obtain ⟨t168, A200, H⟩ := H
            replace H : (if t168 = t165 then (if t165 ≥ 0 then (some (decide (t165 < (mx a1_2 1)))) else (some false)) else (some false)) = some r := H
            have A20 := Aside0.mk A200
            clear A200
            by_cases c21 : t168 = t165
            · rw [if_pos c21] at H
              have c21b0 : (t168 == t165) = true := beq_iff_eq.mpr c21
              have c21b1 : (t168 != t165) = false := bne_eq_false_iff_eq.mpr c21
              clear c21
              by_cases c22 : t165 ≥ 0
              · rw [if_pos c22] at H
                have c22b0 : decide (0 ≤ t165) = true := decide_eq_true c22
                clear c22
                obtain ⟨ji23, hji23⟩ : ∃ j_ : Int, (mx a1_2 1) = j_ := ⟨_, rfl⟩
                replace H : (some (decide (t165 < (ji23)))) = some r := by first | (rw [hji23] at H; exact H) | (simp only [hji23] at H ⊢; exact H)
                (try rw [hji23] at A16)
                (try rw [hji23] at A17)
                (try rw [hji23] at A18)
                (try rw [hji23] at A20)
                have hji23_ : (if a1_2 < 1 then 1 else a1_2) = ji23 := hji23
                obtain rfl := Option.some.inj H
                have hcz24_0 : wc.cell? ⟨gb162, 0, none⟩ = some (.int .i64 a1_0) := (blk_cell BK162.out 0).trans rfl
                have hcz24_1 : wc.cell? ⟨gb162, 1, none⟩ = some (.int .i64 a1_1) := (blk_cell BK162.out 1).trans rfl
                have hcz24_2 : wc.cell? ⟨gb162, 2, none⟩ = some (.int .i64 a1_2) := (blk_cell BK162.out 2).trans rfl
                have hcz24_3 : wc.cell? ⟨gb162, 3, none⟩ = some (.int .i64 a1_3) := (blk_cell BK162.out 3).trans rfl
                have hcz24_4 : wc.cell? ⟨gb162, 4, none⟩ = some (.int .i64 a1_4) := (blk_cell BK162.out 4).trans rfl
                have hfz24_0 := blk_frozen BK162.out 0
                have hfz24_1 := blk_frozen BK162.out 1
                have hfz24_2 := blk_frozen BK162.out 2
                have hfz24_3 := blk_frozen BK162.out 3
                have hfz24_4 := blk_frozen BK162.out 4
                go_wp2_with (first | ((with_reducible refine gate_callee (f := 36) rfl ?_); refine goesL_ (some 19) rfl rfl Try.func36 (by kernel_rfl) rfl #[.int .i64 a1_2, .int .u64 a0] rfl (by (try simp only [List.map_toArray, List.map_cons, List.map_nil]); first | done | rfl | (simp only [List.length_drop, List.length_take]; rfl)) ?_; (with_reducible refine (revenantref12_Bucket.calls a1_2 a0 t165 _ A16.out).mono ?_); rintro e w' ⟨rfl, ⟨nd, rfl⟩⟩; refine ⟨_, rfl, ?_⟩) | ((with_reducible refine gate_callee (f := 37) rfl ?_); refine goesL_ (some 21) rfl rfl Try.func37 (by kernel_rfl) rfl #[.int .u64 a0] rfl (by (try simp only [List.map_toArray, List.map_cons, List.map_nil]); first | done | rfl | (simp only [List.length_drop, List.length_take]; rfl)) ?_; (with_reducible refine (mix_Mix.calls a0 t166 _ A17.out).mono ?_); rintro e w' ⟨rfl, ⟨nd, rfl⟩⟩; refine ⟨_, rfl, ?_⟩) | ((with_reducible refine gate_callee (f := 38) rfl ?_); refine goesL_ (some 23) rfl rfl Try.func38 (by kernel_rfl) rfl #[.int .u64 a0] rfl (by (try simp only [List.map_toArray, List.map_cons, List.map_nil]); first | done | rfl | (simp only [List.length_drop, List.length_take]; rfl)) ?_; (with_reducible refine (revenantref12_Mix.calls a0 t167 _ A18.out).mono ?_); rintro e w' ⟨rfl, ⟨nd, rfl⟩⟩; refine ⟨_, rfl, ?_⟩) | (go_at_call 39; (with_reducible refine (mix_Bucket.calls kj4 a1_0 a1_1 a1_2 a1_3 a1_4 a0 t168 _ A20.out).mono ?_); rintro e w25 ⟨rfl, hb⟩; have n0_ := Aside0.mk (blk_below (g := gb162) (o := .cells #[.int .i64 a1_0, .int .i64 a1_1, .int .i64 a1_2, .int .i64 a1_3, .int .i64 a1_4] 42 (0, 0)) (by (with_reducible repeat (first | refine blk_drewN ?_ _ | refine blk_drew ?_ | refine blk_alloc ?_ _)); exact BK162.out) hb); have n1_ := Aside0.mk (below_step (by repeat (first | (with_reducible first | exact HB.out | apply below_alloc | apply pw_below_drewN | apply below_drew1 | refine below_set ?_ GE162.out) | exact HB.out)) hb); clear BK162; clear HB; have BK162 := n0_; have HB := n1_; clear n0_ n1_; (try clear hb); (try clear hb2); (try clear hk); (try clear hi); have hcz26_0 : w25.cell? ⟨gb162, 0, none⟩ = some (.int .i64 a1_0) := (blk_cell BK162.out 0).trans rfl; have hcz26_1 : w25.cell? ⟨gb162, 1, none⟩ = some (.int .i64 a1_1) := (blk_cell BK162.out 1).trans rfl; have hcz26_2 : w25.cell? ⟨gb162, 2, none⟩ = some (.int .i64 a1_2) := (blk_cell BK162.out 2).trans rfl; have hcz26_3 : w25.cell? ⟨gb162, 3, none⟩ = some (.int .i64 a1_3) := (blk_cell BK162.out 3).trans rfl; have hcz26_4 : w25.cell? ⟨gb162, 4, none⟩ = some (.int .i64 a1_4) := (blk_cell BK162.out 4).trans rfl; have hfz26_0 := blk_frozen BK162.out 0; have hfz26_1 := blk_frozen BK162.out 1; have hfz26_2 := blk_frozen BK162.out 2; have hfz26_3 := blk_frozen BK162.out 3; have hfz26_4 := blk_frozen BK162.out 4))
                go_ret
                exact ⟨by first | rfl | (simp [errW_none, errW_some] <;> rfl) | (simp only [← hji23]; first | rfl | (simp [errW_none, errW_some] <;> rfl)) | (simp [*, errW_none, errW_some] <;> rfl), by repeat (first | (with_reducible first | exact HB.out | apply below_alloc | apply pw_below_drewN | apply below_drew1 | refine below_set ?_ GE162.out) | exact HB.out)⟩
              · rw [if_neg c22] at H
                have c22b0 : decide (0 ≤ t165) = false := decide_eq_false c22
                clear c22
                exact absurd ((Option.some.inj H).trans HR.out) (by decide)
            · rw [if_neg c21] at H
              have c21b0 : (t168 == t165) = false := beq_eq_false_iff_ne.mpr c21
              have c21b1 : (t168 != t165) = true := bne_iff_ne.mpr c21
              exact absurd ((Option.some.inj H).trans HR.out) (by decide)
          · rw [if_neg c19] at H
            have c19b0 : (t166 == t167) = false := beq_eq_false_iff_ne.mpr c19
            have c19b1 : (t166 != t167) = true := bne_iff_ne.mpr c19
            exact absurd ((Option.some.inj H).trans HR.out) (by decide)
        · replace c15 := Bool.eq_false_iff.mpr c15
          subst c15
          have H1 : ((mix_Mix.f a0).bind fun t169 => ((revenantref12_Mix.f a0).bind fun t170 => (if t169 = t170 then ((mix_Bucket.f kj4 a1_0 a1_1 a1_2 a1_3 a1_4 a0).bind fun t171 => (if t171 = 0 then (if 0 ≥ 0 then (some (decide (0 < (mx a1_2 1)))) else (some false)) else (some false))) else (some false)))) = some r := by rw [if_neg (show ¬ (false = true) by decide)] at H; exact H
          clear H
          have H := H1
          clear H1
          replace H := Option.bind_eq_some_iff.mp H
          obtain ⟨t169, A320, H⟩ := H
          replace H : ((revenantref12_Mix.f a0).bind fun t170 => (if t169 = t170 then ((mix_Bucket.f kj4 a1_0 a1_1 a1_2 a1_3 a1_4 a0).bind fun t171 => (if t171 = 0 then (if 0 ≥ 0 then (some (decide (0 < (mx a1_2 1)))) else (some false)) else (some false))) else (some false))) = some r := H
          have A32 := Aside0.mk A320
          clear A320
          replace H := Option.bind_eq_some_iff.mp H
          obtain ⟨t170, A330, H⟩ := H
          replace H : (if t169 = t170 then ((mix_Bucket.f kj4 a1_0 a1_1 a1_2 a1_3 a1_4 a0).bind fun t171 => (if t171 = 0 then (if 0 ≥ 0 then (some (decide (0 < (mx a1_2 1)))) else (some false)) else (some false))) else (some false)) = some r := H
          have A33 := Aside0.mk A330
          clear A330
          by_cases c34 : t169 = t170
          · rw [if_pos c34] at H
            have c34b0 : (t169 == t170) = true := beq_iff_eq.mpr c34
            have c34b1 : (t169 != t170) = false := bne_eq_false_iff_eq.mpr c34
            clear c34
            replace H := Option.bind_eq_some_iff.mp H
            obtain ⟨t171, A350, H⟩ := H
            replace H : (if t171 = 0 then (if 0 ≥ 0 then (some (decide (0 < (mx a1_2 1)))) else (some false)) else (some false)) = some r := H
            have A35 := Aside0.mk A350
            clear A350
            by_cases c36 : t171 = 0
            · rw [if_pos c36] at H
              have c36b0 : (t171 == 0) = true := beq_iff_eq.mpr c36
              have c36b1 : (t171 != 0) = false := bne_eq_false_iff_eq.mpr c36
              clear c36
              by_cases c37 : 0 ≥ 0
              · rw [if_pos c37] at H
                have c37b0 : decide (0 ≤ 0) = true := decide_eq_true c37
                clear c37
                obtain ⟨ji38, hji38⟩ : ∃ j_ : Int, (mx a1_2 1) = j_ := ⟨_, rfl⟩
                replace H : (some (decide (0 < (ji38)))) = some r := by first | (rw [hji38] at H; exact H) | (simp only [hji38] at H ⊢; exact H)
                (try rw [hji38] at A32)
                (try rw [hji38] at A33)
                (try rw [hji38] at A35)
                have hji38_ : (if a1_2 < 1 then 1 else a1_2) = ji38 := hji38
                obtain rfl := Option.some.inj H
                go_wp2_with (first | ((with_reducible refine gate_callee (f := 37) rfl ?_); refine goesL_ (some 21) rfl rfl Try.func37 (by kernel_rfl) rfl #[.int .u64 a0] rfl (by (try simp only [List.map_toArray, List.map_cons, List.map_nil]); first | done | rfl | (simp only [List.length_drop, List.length_take]; rfl)) ?_; (with_reducible refine (mix_Mix.calls a0 t169 _ A32.out).mono ?_); rintro e w' ⟨rfl, ⟨nd, rfl⟩⟩; refine ⟨_, rfl, ?_⟩) | ((with_reducible refine gate_callee (f := 38) rfl ?_); refine goesL_ (some 23) rfl rfl Try.func38 (by kernel_rfl) rfl #[.int .u64 a0] rfl (by (try simp only [List.map_toArray, List.map_cons, List.map_nil]); first | done | rfl | (simp only [List.length_drop, List.length_take]; rfl)) ?_; (with_reducible refine (revenantref12_Mix.calls a0 t170 _ A33.out).mono ?_); rintro e w' ⟨rfl, ⟨nd, rfl⟩⟩; refine ⟨_, rfl, ?_⟩; have hcz39_0 : wc.cell? ⟨gb162, 0, none⟩ = some (.int .i64 a1_0) := (blk_cell BK162.out 0).trans rfl; have hcz39_1 : wc.cell? ⟨gb162, 1, none⟩ = some (.int .i64 a1_1) := (blk_cell BK162.out 1).trans rfl; have hcz39_2 : wc.cell? ⟨gb162, 2, none⟩ = some (.int .i64 a1_2) := (blk_cell BK162.out 2).trans rfl; have hcz39_3 : wc.cell? ⟨gb162, 3, none⟩ = some (.int .i64 a1_3) := (blk_cell BK162.out 3).trans rfl; have hcz39_4 : wc.cell? ⟨gb162, 4, none⟩ = some (.int .i64 a1_4) := (blk_cell BK162.out 4).trans rfl; have hfz39_0 := blk_frozen BK162.out 0; have hfz39_1 := blk_frozen BK162.out 1; have hfz39_2 := blk_frozen BK162.out 2; have hfz39_3 := blk_frozen BK162.out 3; have hfz39_4 := blk_frozen BK162.out 4) | (go_at_call 39; (with_reducible refine (mix_Bucket.calls kj4 a1_0 a1_1 a1_2 a1_3 a1_4 a0 t171 _ A35.out).mono ?_); rintro e w40 ⟨rfl, hb⟩; have n0_ := Aside0.mk (blk_below (g := gb162) (o := .cells #[.int .i64 a1_0, .int .i64 a1_1, .int .i64 a1_2, .int .i64 a1_3, .int .i64 a1_4] 42 (0, 0)) (by (with_reducible repeat (first | refine blk_drewN ?_ _ | refine blk_drew ?_ | refine blk_alloc ?_ _)); exact BK162.out) hb); have n1_ := Aside0.mk (below_step (by repeat (first | (with_reducible first | exact HB.out | apply below_alloc | apply pw_below_drewN | apply below_drew1 | refine below_set ?_ GE162.out) | exact HB.out)) hb); clear BK162; clear HB; have BK162 := n0_; have HB := n1_; clear n0_ n1_; (try clear hb); (try clear hb2); (try clear hk); (try clear hi); have hcz41_0 : w40.cell? ⟨gb162, 0, none⟩ = some (.int .i64 a1_0) := (blk_cell BK162.out 0).trans rfl; have hcz41_1 : w40.cell? ⟨gb162, 1, none⟩ = some (.int .i64 a1_1) := (blk_cell BK162.out 1).trans rfl; have hcz41_2 : w40.cell? ⟨gb162, 2, none⟩ = some (.int .i64 a1_2) := (blk_cell BK162.out 2).trans rfl; have hcz41_3 : w40.cell? ⟨gb162, 3, none⟩ = some (.int .i64 a1_3) := (blk_cell BK162.out 3).trans rfl; have hcz41_4 : w40.cell? ⟨gb162, 4, none⟩ = some (.int .i64 a1_4) := (blk_cell BK162.out 4).trans rfl; have hfz41_0 := blk_frozen BK162.out 0; have hfz41_1 := blk_frozen BK162.out 1; have hfz41_2 := blk_frozen BK162.out 2; have hfz41_3 := blk_frozen BK162.out 3; have hfz41_4 := blk_frozen BK162.out 4))
                go_ret
                exact ⟨by first | rfl | (simp [errW_none, errW_some] <;> rfl) | (simp only [← hji38]; first | rfl | (simp [errW_none, errW_some] <;> rfl)) | (simp [*, errW_none, errW_some] <;> rfl), by repeat (first | (with_reducible first | exact HB.out | apply below_alloc | apply pw_below_drewN | apply below_drew1 | refine below_set ?_ GE162.out) | exact HB.out)⟩
              · rw [if_neg c37] at H
                have c37b0 : decide (0 ≤ 0) = false := decide_eq_false c37
                clear c37
                exact absurd ((Option.some.inj H).trans HR.out) (by decide)
            · rw [if_neg c36] at H
              have c36b0 : (t171 == 0) = false := beq_eq_false_iff_ne.mpr c36
              have c36b1 : (t171 != 0) = true := bne_iff_ne.mpr c36
              exact absurd ((Option.some.inj H).trans HR.out) (by decide)
          · rw [if_neg c34] at H
            have c34b0 : (t169 == t170) = false := beq_eq_false_iff_ne.mpr c34
            have c34b1 : (t169 != t170) = true := bne_iff_ne.mpr c34
            exact absurd ((Option.some.inj H).trans HR.out) (by decide)
  · replace c4 := Bool.eq_false_iff.mpr c4
    subst c4
    have H1 : (some false) = some r := by rw [if_neg (show ¬ (false = true) by decide)] at H; exact H
    clear H
    have H := H1
    clear H1
    exact absurd ((Option.some.inj H).trans HR.out) (by decide)

end Go.Proofs.Ytmdncdepdnpjiaa.PMixExact
