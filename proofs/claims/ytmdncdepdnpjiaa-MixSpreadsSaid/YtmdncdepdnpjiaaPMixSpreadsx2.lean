-- PRINTED BY print.sh 35421559b90ae4d0a3588c463048766b98c2df88dd9212a6774a882060cdf62d: not written by this session
import Derived.Test.YtmdncdepdnpjiaaPMixSpreadsx0
import Derived.Test.YtmdncdepdnpjiaaPMixSpreadsx1
namespace Go.Proofs.Ytmdncdepdnpjiaa.PMixSpreads
open Go.RowKit Go.Proofs.YtmdncdepdnpjiaaW.PrintWords Go.Proofs.YtmdncdepdnpjiaaW.PrintLast Go.Proofs.YtmdncdepdnpjiaaW.PrintMore
attribute [local go_sem] max2_int min2_int max_two min_two max_three min_three max_four min_four   -- for this text's walks alone
set_option linter.unusedVariables false
set_option linter.unusedSimpArgs false

/-! ### revenantlaw12_awake: function 34 -/
def revenantlaw12_awake.f (k : Nat)  : Option (Bool) := (mix_Mix.f 0).bind fun t133 => (if t133 = 0 then ((mix_Mix.f 1).bind fun t134 => (if t134 = 1 then (some false) else ((mix_Invert.f k 1).bind fun t135 => (if t135 = 1 then ((mix_Invert.f k 3).bind fun t136 => (if t136 = 12297829382473034411 then ((mix_Invert.f k 2).bind fun t137 => (if t137 = 0 then ((mix_Mix.f 5).bind fun t138 => ((mix_Unmix.f k t138).bind fun t139 => (if t139 = 5 then ((revenantlaw12_hash.f 64).bind fun bt140 => ((mix_Bucket.f k bt140.1 bt140.2.1 bt140.2.2.1 bt140.2.2.2.1 bt140.2.2.2.2 0).bind fun t145 => (if t145 = 0 then ((revenantlaw12_hash.f 7).bind fun bt146 => ((mix_Spread.f k bt146.1 bt146.2.1 bt146.2.2.1 bt146.2.2.2.1 bt146.2.2.2.2 (([1, 2] : List Int))).bind fun t154 => (some ((t154.length : Int) == 7)))) else (some false)))) else (some false)))) else (some false))) else (some false))) else (some false))))) else (some false))
theorem revenantlaw12_awake.mono : ∀ k, LeO (revenantlaw12_awake.f k ) (revenantlaw12_awake.f (k + 1) ) := by
  intro  k
  unfold revenantlaw12_awake.f
  repeat' first
      | (with_reducible exact mix_Bucket.mono _ _ _ _ _ _ _)
      | (with_reducible exact mix_Invert.mono _ _)
      | (with_reducible exact mix_Spread.mono _ _ _ _ _ _ _)
      | (with_reducible exact mix_Unmix.mono _ _)
      | (with_reducible exact LeO.refl _)
      | (with_reducible exact LeO.none _)
      | (with_reducible refine LeO.ite ?_ ?_)
      | (with_reducible refine LeO.bind ?_ (fun _ => ?_))
      | exact mix_Bucket.mono _ _ _ _ _ _ _
      | exact mix_Invert.mono _ _
      | exact mix_Spread.mono _ _ _ _ _ _ _
      | exact mix_Unmix.mono _ _
      | exact LeO.none _
      | refine LeO.ite ?_ ?_
      | refine LeO.bind ?_ (fun _ => ?_)
set_option maxHeartbeats 8000000 in
set_option maxRecDepth 100000 in
theorem revenantlaw12_awake.calls (k : Nat)  (r : Bool) (w : World) (h : revenantlaw12_awake.f k  = some r) :
    Calls Try.prog 34 #[] w fun e w' => e = .returned (.bool r) ∧ Below w.heap.size w w' := by
  have HB := Aside0.mk (Below.refl w.heap.size w)
  have H : ((mix_Mix.f 0).bind fun t133 => (if t133 = 0 then ((mix_Mix.f 1).bind fun t134 => (if t134 = 1 then (some false) else ((mix_Invert.f k 1).bind fun t135 => (if t135 = 1 then ((mix_Invert.f k 3).bind fun t136 => (if t136 = 12297829382473034411 then ((mix_Invert.f k 2).bind fun t137 => (if t137 = 0 then ((mix_Mix.f 5).bind fun t138 => ((mix_Unmix.f k t138).bind fun t139 => (if t139 = 5 then ((revenantlaw12_hash.f 64).bind fun bt140 => ((mix_Bucket.f k bt140.1 bt140.2.1 bt140.2.2.1 bt140.2.2.2.1 bt140.2.2.2.2 0).bind fun t145 => (if t145 = 0 then ((revenantlaw12_hash.f 7).bind fun bt146 => ((mix_Spread.f k bt146.1 bt146.2.1 bt146.2.2.1 bt146.2.2.2.1 bt146.2.2.2.2 (([1, 2] : List Int))).bind fun t154 => (some ((t154.length : Int) == 7)))) else (some false)))) else (some false)))) else (some false))) else (some false))) else (some false))))) else (some false))) = some r := h
  clear h
  replace H := Option.bind_eq_some_iff.mp H
  obtain ⟨t133, A10, H⟩ := H
  replace H : (if t133 = 0 then ((mix_Mix.f 1).bind fun t134 => (if t134 = 1 then (some false) else ((mix_Invert.f k 1).bind fun t135 => (if t135 = 1 then ((mix_Invert.f k 3).bind fun t136 => (if t136 = 12297829382473034411 then ((mix_Invert.f k 2).bind fun t137 => (if t137 = 0 then ((mix_Mix.f 5).bind fun t138 => ((mix_Unmix.f k t138).bind fun t139 => (if t139 = 5 then ((revenantlaw12_hash.f 64).bind fun bt140 => ((mix_Bucket.f k bt140.1 bt140.2.1 bt140.2.2.1 bt140.2.2.2.1 bt140.2.2.2.2 0).bind fun t145 => (if t145 = 0 then ((revenantlaw12_hash.f 7).bind fun bt146 => ((mix_Spread.f k bt146.1 bt146.2.1 bt146.2.2.1 bt146.2.2.2.1 bt146.2.2.2.2 (([1, 2] : List Int))).bind fun t154 => (some ((t154.length : Int) == 7)))) else (some false)))) else (some false)))) else (some false))) else (some false))) else (some false))))) else (some false)) = some r := H
  have A1 := Aside0.mk A10
  clear A10
  by_cases c2 : t133 = 0
  · rw [if_pos c2] at H
    have c2b0 : (t133 == 0) = true := beq_iff_eq.mpr c2
    have c2b1 : (t133 != 0) = false := bne_eq_false_iff_eq.mpr c2
    clear c2
    replace H := Option.bind_eq_some_iff.mp H
    obtain ⟨t134, A30, H⟩ := H
    replace H : (if t134 = 1 then (some false) else ((mix_Invert.f k 1).bind fun t135 => (if t135 = 1 then ((mix_Invert.f k 3).bind fun t136 => (if t136 = 12297829382473034411 then ((mix_Invert.f k 2).bind fun t137 => (if t137 = 0 then ((mix_Mix.f 5).bind fun t138 => ((mix_Unmix.f k t138).bind fun t139 => (if t139 = 5 then ((revenantlaw12_hash.f 64).bind fun bt140 => ((mix_Bucket.f k bt140.1 bt140.2.1 bt140.2.2.1 bt140.2.2.2.1 bt140.2.2.2.2 0).bind fun t145 => (if t145 = 0 then ((revenantlaw12_hash.f 7).bind fun bt146 => ((mix_Spread.f k bt146.1 bt146.2.1 bt146.2.2.1 bt146.2.2.2.1 bt146.2.2.2.2 (([1, 2] : List Int))).bind fun t154 => (some ((t154.length : Int) == 7)))) else (some false)))) else (some false)))) else (some false))) else (some false))) else (some false)))) = some r := H
    have A3 := Aside0.mk A30
    clear A30
    by_cases c4 : t134 = 1
    · rw [if_pos c4] at H
      have c4b0 : (t134 == 1) = true := beq_iff_eq.mpr c4
      have c4b1 : (t134 != 1) = false := bne_eq_false_iff_eq.mpr c4
      clear c4
      obtain rfl := Option.some.inj H
      go_enter Try.func34, Try.ntmps34
      go_wp2_with (first | ((with_reducible refine gate_callee (f := 37) rfl ?_); refine goesL_ (some 1) rfl rfl Try.func37 (by kernel_rfl) rfl #[.int .u64 0] rfl (by (try simp only [List.map_toArray, List.map_cons, List.map_nil]); first | done | rfl | (simp only [List.length_drop, List.length_take]; rfl)) ?_; (with_reducible refine (mix_Mix.calls 0 t133 _ A1.out).mono ?_); rintro e w' ⟨rfl, ⟨nd, rfl⟩⟩; refine ⟨_, rfl, ?_⟩) | (go_at_call 37; (with_reducible refine (mix_Mix.calls 1 t134 _ A3.out).mono ?_); rintro e w' ⟨rfl, ⟨nd, rfl⟩⟩))
      go_ret
      exact ⟨by first | rfl | (simp [errW_none, errW_some] <;> rfl) | (simp [*, errW_none, errW_some] <;> rfl), by repeat (first | (with_reducible first | exact HB.out | apply below_alloc | apply pw_below_drewN | apply below_drew1) | exact HB.out)⟩
    · rw [if_neg c4] at H
      have c4b0 : (t134 == 1) = false := beq_eq_false_iff_ne.mpr c4
      have c4b1 : (t134 != 1) = true := bne_iff_ne.mpr c4
      replace H := Option.bind_eq_some_iff.mp H
      obtain ⟨t135, A50, H⟩ := H
      replace H : (if t135 = 1 then ((mix_Invert.f k 3).bind fun t136 => (if t136 = 12297829382473034411 then ((mix_Invert.f k 2).bind fun t137 => (if t137 = 0 then ((mix_Mix.f 5).bind fun t138 => ((mix_Unmix.f k t138).bind fun t139 => (if t139 = 5 then ((revenantlaw12_hash.f 64).bind fun bt140 => ((mix_Bucket.f k bt140.1 bt140.2.1 bt140.2.2.1 bt140.2.2.2.1 bt140.2.2.2.2 0).bind fun t145 => (if t145 = 0 then ((revenantlaw12_hash.f 7).bind fun bt146 => ((mix_Spread.f k bt146.1 bt146.2.1 bt146.2.2.1 bt146.2.2.2.1 bt146.2.2.2.2 (([1, 2] : List Int))).bind fun t154 => (some ((t154.length : Int) == 7)))) else (some false)))) else (some false)))) else (some false))) else (some false))) else (some false)) = some r := H
      have A5 := Aside0.mk A50
      clear A50
      by_cases c6 : t135 = 1
      · rw [if_pos c6] at H
        have c6b0 : (t135 == 1) = true := beq_iff_eq.mpr c6
        have c6b1 : (t135 != 1) = false := bne_eq_false_iff_eq.mpr c6
        clear c6
        replace H := Option.bind_eq_some_iff.mp H
        obtain ⟨t136, A70, H⟩ := H
        replace H : (if t136 = 12297829382473034411 then ((mix_Invert.f k 2).bind fun t137 => (if t137 = 0 then ((mix_Mix.f 5).bind fun t138 => ((mix_Unmix.f k t138).bind fun t139 => (if t139 = 5 then ((revenantlaw12_hash.f 64).bind fun bt140 => ((mix_Bucket.f k bt140.1 bt140.2.1 bt140.2.2.1 bt140.2.2.2.1 bt140.2.2.2.2 0).bind fun t145 => (if t145 = 0 then ((revenantlaw12_hash.f 7).bind fun bt146 => ((mix_Spread.f k bt146.1 bt146.2.1 bt146.2.2.1 bt146.2.2.2.1 bt146.2.2.2.2 (([1, 2] : List Int))).bind fun t154 => (some ((t154.length : Int) == 7)))) else (some false)))) else (some false)))) else (some false))) else (some false)) = some r := H
        have A7 := Aside0.mk A70
        clear A70
        by_cases c8 : t136 = 12297829382473034411
        · rw [if_pos c8] at H
          have c8b0 : (t136 == 12297829382473034411) = true := beq_iff_eq.mpr c8
          have c8b1 : (t136 != 12297829382473034411) = false := bne_eq_false_iff_eq.mpr c8
          clear c8
          replace H := Option.bind_eq_some_iff.mp H
          obtain ⟨t137, A90, H⟩ := H
          replace H : (if t137 = 0 then ((mix_Mix.f 5).bind fun t138 => ((mix_Unmix.f k t138).bind fun t139 => (if t139 = 5 then ((revenantlaw12_hash.f 64).bind fun bt140 => ((mix_Bucket.f k bt140.1 bt140.2.1 bt140.2.2.1 bt140.2.2.2.1 bt140.2.2.2.2 0).bind fun t145 => (if t145 = 0 then ((revenantlaw12_hash.f 7).bind fun bt146 => ((mix_Spread.f k bt146.1 bt146.2.1 bt146.2.2.1 bt146.2.2.2.1 bt146.2.2.2.2 (([1, 2] : List Int))).bind fun t154 => (some ((t154.length : Int) == 7)))) else (some false)))) else (some false)))) else (some false)) = some r := H
          have A9 := Aside0.mk A90
          clear A90
          by_cases c10 : t137 = 0
          · rw [if_pos c10] at H
            have c10b0 : (t137 == 0) = true := beq_iff_eq.mpr c10
            have c10b1 : (t137 != 0) = false := bne_eq_false_iff_eq.mpr c10
            clear c10
            replace H := Option.bind_eq_some_iff.mp H
            obtain ⟨t138, A110, H⟩ := H
            replace H : ((mix_Unmix.f k t138).bind fun t139 => (if t139 = 5 then ((revenantlaw12_hash.f 64).bind fun bt140 => ((mix_Bucket.f k bt140.1 bt140.2.1 bt140.2.2.1 bt140.2.2.2.1 bt140.2.2.2.2 0).bind fun t145 => (if t145 = 0 then ((revenantlaw12_hash.f 7).bind fun bt146 => ((mix_Spread.f k bt146.1 bt146.2.1 bt146.2.2.1 bt146.2.2.2.1 bt146.2.2.2.2 (([1, 2] : List Int))).bind fun t154 => (some ((t154.length : Int) == 7)))) else (some false)))) else (some false))) = some r := H
            have A11 := Aside0.mk A110
            clear A110
            replace H := Option.bind_eq_some_iff.mp H
            obtain ⟨t139, A120, H⟩ := H
            replace H : (if t139 = 5 then ((revenantlaw12_hash.f 64).bind fun bt140 => ((mix_Bucket.f k bt140.1 bt140.2.1 bt140.2.2.1 bt140.2.2.2.1 bt140.2.2.2.2 0).bind fun t145 => (if t145 = 0 then ((revenantlaw12_hash.f 7).bind fun bt146 => ((mix_Spread.f k bt146.1 bt146.2.1 bt146.2.2.1 bt146.2.2.2.1 bt146.2.2.2.2 (([1, 2] : List Int))).bind fun t154 => (some ((t154.length : Int) == 7)))) else (some false)))) else (some false)) = some r := H
            have A12 := Aside0.mk A120
            clear A120
            by_cases c13 : t139 = 5
            · rw [if_pos c13] at H
              have c13b0 : (t139 == 5) = true := beq_iff_eq.mpr c13
              have c13b1 : (t139 != 5) = false := bne_eq_false_iff_eq.mpr c13
              clear c13
              replace H := Option.bind_eq_some_iff.mp H
              obtain ⟨⟨t140, t141, t142, t143, t144⟩, A140, H⟩ := H
              replace H : ((mix_Bucket.f k t140 t141 t142 t143 t144 0).bind fun t145 => (if t145 = 0 then ((revenantlaw12_hash.f 7).bind fun bt146 => ((mix_Spread.f k bt146.1 bt146.2.1 bt146.2.2.1 bt146.2.2.2.1 bt146.2.2.2.2 (([1, 2] : List Int))).bind fun t154 => (some ((t154.length : Int) == 7)))) else (some false))) = some r := H
              have A14 := Aside0.mk A140
              clear A140
              replace H := Option.bind_eq_some_iff.mp H
              obtain ⟨t145, A150, H⟩ := H
              replace H : (if t145 = 0 then ((revenantlaw12_hash.f 7).bind fun bt146 => ((mix_Spread.f k bt146.1 bt146.2.1 bt146.2.2.1 bt146.2.2.2.1 bt146.2.2.2.2 (([1, 2] : List Int))).bind fun t154 => (some ((t154.length : Int) == 7)))) else (some false)) = some r := H
              have A15 := Aside0.mk A150
              clear A150
              by_cases c16 : t145 = 0
              · rw [if_pos c16] at H
                have c16b0 : (t145 == 0) = true := beq_iff_eq.mpr c16
                have c16b1 : (t145 != 0) = false := bne_eq_false_iff_eq.mpr c16
                clear c16
                replace H := Option.bind_eq_some_iff.mp H
                obtain ⟨⟨t146, t147, t148, t149, t150⟩, A170, H⟩ := H
                replace H : ((mix_Spread.f k t146 t147 t148 t149 t150 (([1, 2] : List Int))).bind fun t154 => (some ((t154.length : Int) == 7))) = some r := H
                have A17 := Aside0.mk A170
                clear A170
                obtain ⟨y151, hy151⟩ : ∃ y_ : List Int, y_ = (([1, 2] : List Int)) := ⟨_, rfl⟩
                replace H : ((mix_Spread.f k t146 t147 t148 t149 t150 y151).bind fun t154 => (some ((t154.length : Int) == 7))) = some r := by first | (rw [hy151]; with_reducible exact H) | (have H2_ := (Option.bind_some _ _).symm.trans H; rw [hy151]; with_reducible exact H2_) | (have H2_ := (Option.bind_some _ _).symm.trans H; with_reducible exact H2_) | with_reducible exact H | (rw [hy151]; exact H) | exact H
                have Ny151 := Aside0.mk hy151
                clear hy151
                replace H := Option.bind_eq_some_iff.mp H
                obtain ⟨t154, A180, H⟩ := H
                replace H : (some ((t154.length : Int) == 7)) = some r := H
                have A18 := Aside0.mk A180
                clear A180
                obtain rfl := Option.some.inj H
                go_enter Try.func34, Try.ntmps34
                go_wp2_with (first | ((with_reducible refine gate_callee (f := 37) rfl ?_); refine goesL_ (some 1) rfl rfl Try.func37 (by kernel_rfl) rfl #[.int .u64 0] rfl (by (try simp only [List.map_toArray, List.map_cons, List.map_nil]); first | done | rfl | (simp only [List.length_drop, List.length_take]; rfl)) ?_; (with_reducible refine (mix_Mix.calls 0 t133 _ A1.out).mono ?_); rintro e w' ⟨rfl, ⟨nd, rfl⟩⟩; refine ⟨_, rfl, ?_⟩) | (go_at_call 37; (with_reducible refine (mix_Mix.calls 1 t134 _ A3.out).mono ?_); rintro e w' ⟨rfl, ⟨nd, rfl⟩⟩) | (go_at_call 42; (with_reducible refine (mix_Invert.calls k 1 t135 _ A5.out).mono ?_); rintro e w' ⟨rfl, ⟨nd, rfl⟩⟩) | (go_at_call 42; (with_reducible refine (mix_Invert.calls k 3 t136 _ A7.out).mono ?_); rintro e w' ⟨rfl, ⟨nd, rfl⟩⟩) | (go_at_call 42; (with_reducible refine (mix_Invert.calls k 2 t137 _ A9.out).mono ?_); rintro e w' ⟨rfl, ⟨nd, rfl⟩⟩) | (go_at_call 37; (with_reducible refine (mix_Mix.calls 5 t138 _ A11.out).mono ?_); rintro e w' ⟨rfl, ⟨nd, rfl⟩⟩) | (go_at_call 43; (with_reducible refine (mix_Unmix.calls k t138 t139 _ A12.out).mono ?_); rintro e w' ⟨rfl, ⟨nd, rfl⟩⟩) | (go_at_call 44; (with_reducible refine (revenantlaw12_hash.calls 64 t140 t141 t142 t143 t144 _ A14.out).mono ?_); rintro e w19 ⟨rfl, hb⟩; have n0_ := Aside0.mk (below_step (by repeat (first | (with_reducible first | exact HB.out | apply below_alloc | apply pw_below_drewN | apply below_drew1) | exact HB.out)) hb); clear HB; have HB := n0_; clear n0_; (try clear hb); (try clear hb2); (try clear hk); (try clear hi)) | (go_at_call 39; (with_reducible refine (mix_Bucket.calls k t140 t141 t142 t143 t144 0 t145 _ A15.out).mono ?_); rintro e w20 ⟨rfl, hb⟩; have n0_ := Aside0.mk (below_step (by repeat (first | (with_reducible first | exact HB.out | apply below_alloc | apply pw_below_drewN | apply below_drew1) | exact HB.out)) hb); clear HB; have HB := n0_; clear n0_; (try clear hb); (try clear hb2); (try clear hk); (try clear hi)) | (go_at_call 44; (with_reducible refine (revenantlaw12_hash.calls 7 t146 t147 t148 t149 t150 _ A17.out).mono ?_); rintro e w21 ⟨rfl, hb⟩; have n0_ := Aside0.mk (below_step (by repeat (first | (with_reducible first | exact HB.out | apply below_alloc | apply pw_below_drewN | apply below_drew1) | exact HB.out)) hb); clear HB; have HB := n0_; clear n0_; (try clear hb); (try clear hb2); (try clear hk); (try clear hi)) | ((with_reducible refine gate_dst (N := 31) rfl ?_); (try (refine gate_guard (by rfl) ?_; dsimp only)); refine Kd.R_lit (Kd.int .u64) _ 24 ?hg (N := 31) ?hd (xs := ([1, 2] : List Int)) (inner := [.int .u64 1, .int .u64 2]) (ok := fun _ => True) (okp := fun _ => True) ?hr ?hp (fun _ hk => hk) trivial (Below.refl _ _) (Nat.le_refl _) (by simp) ?_; (case hd => rfl); (case hg => rfl); (case hr => first | (go_simp; done) | (go_simp; rfl)); (case hp => exact (Reps.one (show Kd.M (Kd.int .u64) _ _ _ 1 [.int .u64 1] from rfl) (Reps.one (show Kd.M (Kd.int .u64) _ _ _ 2 [.int .u64 2] from rfl) (Reps.none _ _)))); intro v152 w22 ho23 hb hg_ hnew_; clear hg_ hnew_; (first | rw [← Ny151.out] at ho23 | (simp only [Int.reduceToNat] at ho23; rw [← Ny151.out] at ho23)); have n0_ := Aside0.mk (Kd.R_lower ho23 (below_size (by repeat (first | (with_reducible first | exact HB.out | apply below_alloc | apply pw_below_drewN | apply below_drew1) | exact HB.out)))); have n1_ := Aside0.mk (below_step (by repeat (first | (with_reducible first | exact HB.out | apply below_alloc | apply pw_below_drewN | apply below_drew1) | exact HB.out)) hb); clear HB; have HO153 := n0_; have HB := n1_; clear n0_ n1_; clear hb ho23; obtain ⟨Ao24, co24, eo24⟩ := Kd.R_slice HO153.out; subst eo24) | (go_at_call 40; (with_reducible refine (mix_Spread.calls k t146 t147 t148 t149 t150 _ _ y151 t154 _ ?side1 ?side2 A18.out).mono ?_); (case side1 => repeat (first | exact (Kd.R_reads' HO153.out).2.2 | (with_reducible refine Kd.C_alloc ?_ _) | (with_reducible refine Kd.C_drewN ?_ _) | (with_reducible refine Kd.C_drew ?_))); (case side2 => exact (Kd.R_reads' HO153.out).2.1); rintro e w25 ⟨v155, rfl, ho0, hb⟩; have n0_ := Aside0.mk (Kd.R_below (by (with_reducible repeat (first | apply Kd.R_alloc | apply Kd.R_drewN | apply Kd.R_drew)); exact HO153.out) hb); have n1_ := Aside0.mk (Kd.R_lower ho0 (below_size (by repeat (first | (with_reducible first | exact HB.out | apply below_alloc | apply pw_below_drewN | apply below_drew1) | exact HB.out)))); have n2_ := Aside0.mk (below_step (by repeat (first | (with_reducible first | exact HB.out | apply below_alloc | apply pw_below_drewN | apply below_drew1) | exact HB.out)) hb); clear HO153; clear HB; have HO153 := n0_; have HO156 := n1_; have HB := n2_; clear n0_ n1_ n2_; (try clear hb); (try clear hb2); (try clear hk); (try clear hi); (try clear ho0); obtain ⟨Ao26, co26, eo26⟩ := Kd.R_slice HO156.out; subst eo26))
                go_ret
                exact ⟨by first | rfl | (simp [errW_none, errW_some] <;> rfl) | (simp [*, errW_none, errW_some] <;> rfl), by repeat (first | (with_reducible first | exact HB.out | apply below_alloc | apply pw_below_drewN | apply below_drew1) | exact HB.out)⟩
              · rw [if_neg c16] at H
                have c16b0 : (t145 == 0) = false := beq_eq_false_iff_ne.mpr c16
                have c16b1 : (t145 != 0) = true := bne_iff_ne.mpr c16
                obtain rfl := Option.some.inj H
                go_enter Try.func34, Try.ntmps34
                go_wp2_with (first | ((with_reducible refine gate_callee (f := 37) rfl ?_); refine goesL_ (some 1) rfl rfl Try.func37 (by kernel_rfl) rfl #[.int .u64 0] rfl (by (try simp only [List.map_toArray, List.map_cons, List.map_nil]); first | done | rfl | (simp only [List.length_drop, List.length_take]; rfl)) ?_; (with_reducible refine (mix_Mix.calls 0 t133 _ A1.out).mono ?_); rintro e w' ⟨rfl, ⟨nd, rfl⟩⟩; refine ⟨_, rfl, ?_⟩) | (go_at_call 37; (with_reducible refine (mix_Mix.calls 1 t134 _ A3.out).mono ?_); rintro e w' ⟨rfl, ⟨nd, rfl⟩⟩) | (go_at_call 42; (with_reducible refine (mix_Invert.calls k 1 t135 _ A5.out).mono ?_); rintro e w' ⟨rfl, ⟨nd, rfl⟩⟩) | (go_at_call 42; (with_reducible refine (mix_Invert.calls k 3 t136 _ A7.out).mono ?_); rintro e w' ⟨rfl, ⟨nd, rfl⟩⟩) | (go_at_call 42; (with_reducible refine (mix_Invert.calls k 2 t137 _ A9.out).mono ?_); rintro e w' ⟨rfl, ⟨nd, rfl⟩⟩) | (go_at_call 37; (with_reducible refine (mix_Mix.calls 5 t138 _ A11.out).mono ?_); rintro e w' ⟨rfl, ⟨nd, rfl⟩⟩) | (go_at_call 43; (with_reducible refine (mix_Unmix.calls k t138 t139 _ A12.out).mono ?_); rintro e w' ⟨rfl, ⟨nd, rfl⟩⟩) | (go_at_call 44; (with_reducible refine (revenantlaw12_hash.calls 64 t140 t141 t142 t143 t144 _ A14.out).mono ?_); rintro e w27 ⟨rfl, hb⟩; have n0_ := Aside0.mk (below_step (by repeat (first | (with_reducible first | exact HB.out | apply below_alloc | apply pw_below_drewN | apply below_drew1) | exact HB.out)) hb); clear HB; have HB := n0_; clear n0_; (try clear hb); (try clear hb2); (try clear hk); (try clear hi)) | (go_at_call 39; (with_reducible refine (mix_Bucket.calls k t140 t141 t142 t143 t144 0 t145 _ A15.out).mono ?_); rintro e w28 ⟨rfl, hb⟩; have n0_ := Aside0.mk (below_step (by repeat (first | (with_reducible first | exact HB.out | apply below_alloc | apply pw_below_drewN | apply below_drew1) | exact HB.out)) hb); clear HB; have HB := n0_; clear n0_; (try clear hb); (try clear hb2); (try clear hk); (try clear hi)))
                go_ret
                exact ⟨by first | rfl | (simp [errW_none, errW_some] <;> rfl) | (simp [*, errW_none, errW_some] <;> rfl), by repeat (first | (with_reducible first | exact HB.out | apply below_alloc | apply pw_below_drewN | apply below_drew1) | exact HB.out)⟩
            · rw [if_neg c13] at H
              have c13b0 : (t139 == 5) = false := beq_eq_false_iff_ne.mpr c13
              have c13b1 : (t139 != 5) = true := bne_iff_ne.mpr c13
              obtain rfl := Option.some.inj H
              go_enter Try.func34, Try.ntmps34
              go_wp2_with (first | ((with_reducible refine gate_callee (f := 37) rfl ?_); refine goesL_ (some 1) rfl rfl Try.func37 (by kernel_rfl) rfl #[.int .u64 0] rfl (by (try simp only [List.map_toArray, List.map_cons, List.map_nil]); first | done | rfl | (simp only [List.length_drop, List.length_take]; rfl)) ?_; (with_reducible refine (mix_Mix.calls 0 t133 _ A1.out).mono ?_); rintro e w' ⟨rfl, ⟨nd, rfl⟩⟩; refine ⟨_, rfl, ?_⟩) | (go_at_call 37; (with_reducible refine (mix_Mix.calls 1 t134 _ A3.out).mono ?_); rintro e w' ⟨rfl, ⟨nd, rfl⟩⟩) | (go_at_call 42; (with_reducible refine (mix_Invert.calls k 1 t135 _ A5.out).mono ?_); rintro e w' ⟨rfl, ⟨nd, rfl⟩⟩) | (go_at_call 42; (with_reducible refine (mix_Invert.calls k 3 t136 _ A7.out).mono ?_); rintro e w' ⟨rfl, ⟨nd, rfl⟩⟩) | (go_at_call 42; (with_reducible refine (mix_Invert.calls k 2 t137 _ A9.out).mono ?_); rintro e w' ⟨rfl, ⟨nd, rfl⟩⟩) | (go_at_call 37; (with_reducible refine (mix_Mix.calls 5 t138 _ A11.out).mono ?_); rintro e w' ⟨rfl, ⟨nd, rfl⟩⟩) | (go_at_call 43; (with_reducible refine (mix_Unmix.calls k t138 t139 _ A12.out).mono ?_); rintro e w' ⟨rfl, ⟨nd, rfl⟩⟩))
              go_ret
              exact ⟨by first | rfl | (simp [errW_none, errW_some] <;> rfl) | (simp [*, errW_none, errW_some] <;> rfl), by repeat (first | (with_reducible first | exact HB.out | apply below_alloc | apply pw_below_drewN | apply below_drew1) | exact HB.out)⟩
          · rw [if_neg c10] at H
            have c10b0 : (t137 == 0) = false := beq_eq_false_iff_ne.mpr c10
            have c10b1 : (t137 != 0) = true := bne_iff_ne.mpr c10
            obtain rfl := Option.some.inj H
            go_enter Try.func34, Try.ntmps34
            go_wp2_with (first | ((with_reducible refine gate_callee (f := 37) rfl ?_); refine goesL_ (some 1) rfl rfl Try.func37 (by kernel_rfl) rfl #[.int .u64 0] rfl (by (try simp only [List.map_toArray, List.map_cons, List.map_nil]); first | done | rfl | (simp only [List.length_drop, List.length_take]; rfl)) ?_; (with_reducible refine (mix_Mix.calls 0 t133 _ A1.out).mono ?_); rintro e w' ⟨rfl, ⟨nd, rfl⟩⟩; refine ⟨_, rfl, ?_⟩) | (go_at_call 37; (with_reducible refine (mix_Mix.calls 1 t134 _ A3.out).mono ?_); rintro e w' ⟨rfl, ⟨nd, rfl⟩⟩) | (go_at_call 42; (with_reducible refine (mix_Invert.calls k 1 t135 _ A5.out).mono ?_); rintro e w' ⟨rfl, ⟨nd, rfl⟩⟩) | (go_at_call 42; (with_reducible refine (mix_Invert.calls k 3 t136 _ A7.out).mono ?_); rintro e w' ⟨rfl, ⟨nd, rfl⟩⟩) | (go_at_call 42; (with_reducible refine (mix_Invert.calls k 2 t137 _ A9.out).mono ?_); rintro e w' ⟨rfl, ⟨nd, rfl⟩⟩))
            go_ret
            exact ⟨by first | rfl | (simp [errW_none, errW_some] <;> rfl) | (simp [*, errW_none, errW_some] <;> rfl), by repeat (first | (with_reducible first | exact HB.out | apply below_alloc | apply pw_below_drewN | apply below_drew1) | exact HB.out)⟩
        · rw [if_neg c8] at H
          have c8b0 : (t136 == 12297829382473034411) = false := beq_eq_false_iff_ne.mpr c8
          have c8b1 : (t136 != 12297829382473034411) = true := bne_iff_ne.mpr c8
          obtain rfl := Option.some.inj H
          go_enter Try.func34, Try.ntmps34
          go_wp2_with (first | ((with_reducible refine gate_callee (f := 37) rfl ?_); refine goesL_ (some 1) rfl rfl Try.func37 (by kernel_rfl) rfl #[.int .u64 0] rfl (by (try simp only [List.map_toArray, List.map_cons, List.map_nil]); first | done | rfl | (simp only [List.length_drop, List.length_take]; rfl)) ?_; (with_reducible refine (mix_Mix.calls 0 t133 _ A1.out).mono ?_); rintro e w' ⟨rfl, ⟨nd, rfl⟩⟩; refine ⟨_, rfl, ?_⟩) | (go_at_call 37; (with_reducible refine (mix_Mix.calls 1 t134 _ A3.out).mono ?_); rintro e w' ⟨rfl, ⟨nd, rfl⟩⟩) | (go_at_call 42; (with_reducible refine (mix_Invert.calls k 1 t135 _ A5.out).mono ?_); rintro e w' ⟨rfl, ⟨nd, rfl⟩⟩) | (go_at_call 42; (with_reducible refine (mix_Invert.calls k 3 t136 _ A7.out).mono ?_); rintro e w' ⟨rfl, ⟨nd, rfl⟩⟩))
          go_ret
          exact ⟨by first | rfl | (simp [errW_none, errW_some] <;> rfl) | (simp [*, errW_none, errW_some] <;> rfl), by repeat (first | (with_reducible first | exact HB.out | apply below_alloc | apply pw_below_drewN | apply below_drew1) | exact HB.out)⟩
      · rw [if_neg c6] at H
        have c6b0 : (t135 == 1) = false := beq_eq_false_iff_ne.mpr c6
        have c6b1 : (t135 != 1) = true := bne_iff_ne.mpr c6
        obtain rfl := Option.some.inj H
        go_enter Try.func34, Try.ntmps34
        go_wp2_with (first | ((with_reducible refine gate_callee (f := 37) rfl ?_); refine goesL_ (some 1) rfl rfl Try.func37 (by kernel_rfl) rfl #[.int .u64 0] rfl (by (try simp only [List.map_toArray, List.map_cons, List.map_nil]); first | done | rfl | (simp only [List.length_drop, List.length_take]; rfl)) ?_; (with_reducible refine (mix_Mix.calls 0 t133 _ A1.out).mono ?_); rintro e w' ⟨rfl, ⟨nd, rfl⟩⟩; refine ⟨_, rfl, ?_⟩) | (go_at_call 37; (with_reducible refine (mix_Mix.calls 1 t134 _ A3.out).mono ?_); rintro e w' ⟨rfl, ⟨nd, rfl⟩⟩) | (go_at_call 42; (with_reducible refine (mix_Invert.calls k 1 t135 _ A5.out).mono ?_); rintro e w' ⟨rfl, ⟨nd, rfl⟩⟩))
        go_ret
        exact ⟨by first | rfl | (simp [errW_none, errW_some] <;> rfl) | (simp [*, errW_none, errW_some] <;> rfl), by repeat (first | (with_reducible first | exact HB.out | apply below_alloc | apply pw_below_drewN | apply below_drew1) | exact HB.out)⟩
  · rw [if_neg c2] at H
    have c2b0 : (t133 == 0) = false := beq_eq_false_iff_ne.mpr c2
    have c2b1 : (t133 != 0) = true := bne_iff_ne.mpr c2
    obtain rfl := Option.some.inj H
    go_enter Try.func34, Try.ntmps34
    go_wp2_with (first | ((with_reducible refine gate_callee (f := 37) rfl ?_); refine goesL_ (some 1) rfl rfl Try.func37 (by kernel_rfl) rfl #[.int .u64 0] rfl (by (try simp only [List.map_toArray, List.map_cons, List.map_nil]); first | done | rfl | (simp only [List.length_drop, List.length_take]; rfl)) ?_; (with_reducible refine (mix_Mix.calls 0 t133 _ A1.out).mono ?_); rintro e w' ⟨rfl, ⟨nd, rfl⟩⟩; refine ⟨_, rfl, ?_⟩))
    go_ret
    exact ⟨by first | rfl | (simp [errW_none, errW_some] <;> rfl) | (simp [*, errW_none, errW_some] <;> rfl), by repeat (first | (with_reducible first | exact HB.out | apply below_alloc | apply pw_below_drewN | apply below_drew1) | exact HB.out)⟩

/-! ### revenantref12_turn: function 58 -/
def revenantref12_turn.f (a0 : Int) : Option (Int) := some (Go.bits .xor .u64 a0 (IntKind.u64.wrap (Int.tdiv a0 8589934592)))
set_option maxHeartbeats 8000000 in
set_option maxRecDepth 100000 in
theorem revenantref12_turn.calls (a0 : Int) (r : Int) (w : World) (h : revenantref12_turn.f a0 = some r) :
    Calls Try.prog 58 #[.int .u64 a0] w fun e w' => e = .returned (.int .u64 r) ∧ Drawn0 w w' := by
  have H : (some (Go.bits .xor .u64 a0 (IntKind.u64.wrap (Int.tdiv a0 8589934592)))) = some r := h
  clear h
  obtain rfl := Option.some.inj H
  go_enter Try.func58, Try.ntmps58
  go_wp2
  go_ret
  exact ⟨by first | rfl | (simp; done) | (simp [*]; done), by repeat (first | exact Drawn0.refl _ | apply Drawn0.step)⟩

/-! ### revenantref12_Mix: function 38 -/
def revenantref12_Mix.f (a0 : Int) : Option (Int) := (revenantref12_turn.f a0).bind fun t157 => ((revenantref12_turn.f (IntKind.u64.wrap (t157 * 18397679294719823053))).bind fun t158 => ((revenantref12_turn.f (IntKind.u64.wrap (t158 * 14181476777654086739))).bind fun t159 => (some t159)))
set_option maxHeartbeats 8000000 in
set_option maxRecDepth 100000 in
theorem revenantref12_Mix.calls (a0 : Int) (r : Int) (w : World) (h : revenantref12_Mix.f a0 = some r) :
    Calls Try.prog 38 #[.int .u64 a0] w fun e w' => e = .returned (.int .u64 r) ∧ Drawn0 w w' := by
  have H : ((revenantref12_turn.f a0).bind fun t157 => ((revenantref12_turn.f (IntKind.u64.wrap (t157 * 18397679294719823053))).bind fun t158 => ((revenantref12_turn.f (IntKind.u64.wrap (t158 * 14181476777654086739))).bind fun t159 => (some t159)))) = some r := h
  clear h
  replace H := Option.bind_eq_some_iff.mp H
  obtain ⟨t157, A20, H⟩ := H
  replace H : ((revenantref12_turn.f (IntKind.u64.wrap (t157 * 18397679294719823053))).bind fun t158 => ((revenantref12_turn.f (IntKind.u64.wrap (t158 * 14181476777654086739))).bind fun t159 => (some t159))) = some r := H
  have A2 := Aside0.mk A20
  clear A20
  replace H := Option.bind_eq_some_iff.mp H
  obtain ⟨t158, A30, H⟩ := H
  replace H : ((revenantref12_turn.f (IntKind.u64.wrap (t158 * 14181476777654086739))).bind fun t159 => (some t159)) = some r := H
  have A3 := Aside0.mk A30
  clear A30
  replace H := Option.bind_eq_some_iff.mp H
  obtain ⟨t159, A40, H⟩ := H
  replace H : (some t159) = some r := H
  have A4 := Aside0.mk A40
  clear A40
  obtain rfl := Option.some.inj H
  go_enter Try.func38, Try.ntmps38
  go_wp2_with (first | ((with_reducible refine gate_callee (f := 58) rfl ?_); refine goesL_ (some 5) rfl rfl Try.func58 (by kernel_rfl) rfl #[.int .u64 a0] rfl (by (try simp only [List.map_toArray, List.map_cons, List.map_nil]); first | done | rfl | (simp only [List.length_drop, List.length_take]; rfl)) ?_; (with_reducible refine (revenantref12_turn.calls a0 t157 _ A2.out).mono ?_); rintro e w' ⟨rfl, ⟨nd, rfl⟩⟩; refine ⟨_, rfl, ?_⟩) | ((with_reducible refine gate_callee (f := 58) rfl ?_); refine goesL_ (some 9) rfl rfl Try.func58 (by kernel_rfl) rfl #[.int .u64 (IntKind.u64.wrap (t157 * 18397679294719823053))] rfl (by (try simp only [List.map_toArray, List.map_cons, List.map_nil]); first | done | rfl | (simp only [List.length_drop, List.length_take]; rfl)) ?_; (with_reducible refine (revenantref12_turn.calls (IntKind.u64.wrap (t157 * 18397679294719823053)) t158 _ A3.out).mono ?_); rintro e w' ⟨rfl, ⟨nd, rfl⟩⟩; refine ⟨_, rfl, ?_⟩) | ((with_reducible refine gate_callee (f := 58) rfl ?_); refine goesL_ (some 13) rfl rfl Try.func58 (by kernel_rfl) rfl #[.int .u64 (IntKind.u64.wrap (t158 * 14181476777654086739))] rfl (by (try simp only [List.map_toArray, List.map_cons, List.map_nil]); first | done | rfl | (simp only [List.length_drop, List.length_take]; rfl)) ?_; (with_reducible refine (revenantref12_turn.calls (IntKind.u64.wrap (t158 * 14181476777654086739)) t159 _ A4.out).mono ?_); rintro e w' ⟨rfl, ⟨nd, rfl⟩⟩; refine ⟨_, rfl, ?_⟩))
  go_ret
  exact ⟨by first | rfl | (simp; done) | (simp [*]; done), by repeat (first | exact Drawn0.refl _ | apply Drawn0.step)⟩

/-! ### revenantref12_Bucket: function 36 -/
def revenantref12_Bucket.f (a0 : Int) (a1 : Int) : Option (Int) := (revenantref12_Mix.f a1).bind fun t160 => (some (wrap64 (IntKind.u64.wrap (Int.tdiv (IntKind.u64.wrap ((IntKind.u64.wrap (Int.tdiv t160 4294967296)) * (IntKind.u64.wrap (a0)))) 4294967296))))
set_option maxHeartbeats 8000000 in
set_option maxRecDepth 100000 in
theorem revenantref12_Bucket.calls (a0 : Int) (a1 : Int) (r : Int) (w : World) (h : revenantref12_Bucket.f a0 a1 = some r) :
    Calls Try.prog 36 #[.int .i64 a0, .int .u64 a1] w fun e w' => e = .returned (.int .i64 r) ∧ Drawn0 w w' := by
  have H : ((revenantref12_Mix.f a1).bind fun t160 => (some (wrap64 (IntKind.u64.wrap (Int.tdiv (IntKind.u64.wrap ((IntKind.u64.wrap (Int.tdiv t160 4294967296)) * (IntKind.u64.wrap (a0)))) 4294967296))))) = some r := h
  clear h
  replace H := Option.bind_eq_some_iff.mp H
  obtain ⟨t160, A30, H⟩ := H
  replace H : (some (wrap64 (IntKind.u64.wrap (Int.tdiv (IntKind.u64.wrap ((IntKind.u64.wrap (Int.tdiv t160 4294967296)) * (IntKind.u64.wrap (a0)))) 4294967296)))) = some r := H
  have A3 := Aside0.mk A30
  clear A30
  obtain rfl := Option.some.inj H
  go_enter Try.func36, Try.ntmps36
  go_wp2_with (first | ((with_reducible refine gate_callee (f := 38) rfl ?_); refine goesL_ (some 6) rfl rfl Try.func38 (by kernel_rfl) rfl #[.int .u64 a1] rfl (by (try simp only [List.map_toArray, List.map_cons, List.map_nil]); first | done | rfl | (simp only [List.length_drop, List.length_take]; rfl)) ?_; (with_reducible refine (revenantref12_Mix.calls a1 t160 _ A3.out).mono ?_); rintro e w' ⟨rfl, ⟨nd, rfl⟩⟩; refine ⟨_, rfl, ?_⟩))
  go_ret
  exact ⟨by first | rfl | (simp; done) | (simp [*]; done), by repeat (first | exact Drawn0.refl _ | apply Drawn0.step)⟩

end Go.Proofs.Ytmdncdepdnpjiaa.PMixSpreads
