-- PRINTED BY print.sh 35421559b90ae4d0a3588c463048766b98c2df88dd9212a6774a882060cdf62d: not written by this session
import Derived.Test.YtmdncdepdnpjiaaPFieldTurnsx0
import Derived.Test.YtmdncdepdnpjiaaPFieldTurnsx1
namespace Go.Proofs.Ytmdncdepdnpjiaa.PFieldTurns
open Go.RowKit Go.Proofs.YtmdncdepdnpjiaaW.PrintWords Go.Proofs.YtmdncdepdnpjiaaW.PrintLast Go.Proofs.YtmdncdepdnpjiaaW.PrintMore
attribute [local go_sem] max2_int min2_int max_two min_two max_three min_three max_four min_four   -- for this text's walks alone
set_option linter.unusedVariables false
set_option linter.unusedSimpArgs false

/-! ### revenantref01_Bit: function 55 -/
def revenantref01_Bit.l0 : Nat → Int → Int → Int → Option (Int)
  | 0, _, _, _ => none
  | k + 1, x0, x1, x5 => if x5 < x1 then (revenantref01_Bit.l0 k (IntKind.u64.wrap (Int.tdiv x0 2)) x1 (wrap64 (x5 + 1))) else (some (Int.tmod x0 2))
def revenantref01_Bit.f (k : Nat) (a0 : Int) (a1 : Int) : Option (Int) := revenantref01_Bit.l0 k a0 a1 0
theorem revenantref01_Bit.mono_l : ∀ k, (∀ y0 y1 y2, LeO (revenantref01_Bit.l0 k y0 y1 y2) (revenantref01_Bit.l0 (k + 1) y0 y1 y2))
  | 0 => fun _ _ _ r h => by simp [revenantref01_Bit.l0] at h
  | k + 1 => by
    have ih0 := revenantref01_Bit.mono_l k
    · intro y0 y1 y2
      unfold revenantref01_Bit.l0
      repeat' first
      | (with_reducible exact ih0 _ _ _)
      | (with_reducible exact LeO.refl _)
      | (with_reducible exact LeO.none _)
      | (with_reducible refine LeO.ite ?_ ?_)
      | (with_reducible refine LeO.bind ?_ (fun _ => ?_))
      | exact ih0 _ _ _
      | exact LeO.none _
      | refine LeO.ite ?_ ?_
      | refine LeO.bind ?_ (fun _ => ?_)
theorem revenantref01_Bit.mono : ∀ a0 a1 k, LeO (revenantref01_Bit.f k a0 a1) (revenantref01_Bit.f (k + 1) a0 a1) := by
  intro a0 a1 k
  have ih0 := revenantref01_Bit.mono_l k
  unfold revenantref01_Bit.f
  repeat' first
      | (with_reducible exact ih0 _ _ _)
      | (with_reducible exact LeO.refl _)
      | (with_reducible exact LeO.none _)
      | (with_reducible refine LeO.ite ?_ ?_)
      | (with_reducible refine LeO.bind ?_ (fun _ => ?_))
      | exact ih0 _ _ _
      | exact LeO.none _
      | refine LeO.ite ?_ ?_
      | refine LeO.bind ?_ (fun _ => ?_)
set_option maxHeartbeats 8000000 in
set_option maxRecDepth 100000 in
theorem revenantref01_Bit.calls (k : Nat) (a0 : Int) (a1 : Int) (r : Int) (w : World) (h : revenantref01_Bit.f k a0 a1 = some r) :
    Calls Try.prog 55 #[.int .u64 a0, .int .i64 a1] w fun e w' => e = .returned (.int .u64 r) ∧ Drawn0 w w' := by
  have H : (revenantref01_Bit.l0 k a0 a1 0) = some r := h
  clear h
  have H' := Aside0.mk H
  clear H
  go_enter Try.func55, Try.ntmps55
  go_wp2
  go_loopg [0, 5] k (fun kq v0 v5 w' => ∃ (x0_1 : Int) (x5_1 : Int), v0 = .int .u64 x0_1 ∧ v5 = .int .i64 x5_1 ∧ Aside0 (revenantref01_Bit.l0 kq x0_1 a1 x5_1 = some r) ∧ Aside0 (kq ≤ k) ∧ Drawn0 w w')
  case atStart => exact ⟨(a0), (0), (by first | rfl | (simp; done) | (simp [*]; done)), (by first | rfl | (simp; done) | (simp [*]; done)), H', ⟨Nat.le_refl _⟩, by repeat (first | exact Drawn0.refl _ | apply Drawn0.step)⟩
  case round =>
    clear H'
    try clear p2
    obtain ⟨x0_1, x5_1, rfl, rfl, HA, HK1, ⟨m1, rfl⟩⟩ := hrel
    cases gk with
    | zero => exact absurd HA.out (by simp [revenantref01_Bit.l0])
    | succ k1 =>
      have H := HA.out
      clear HA
      simp only [revenantref01_Bit.l0] at H
      by_cases c3 : x5_1 < a1
      · rw [if_pos c3] at H
        have c3b0 : decide (x5_1 < a1) = true := decide_eq_true c3
        clear c3
        have H' := Aside0.mk H
        clear H
        go_wp2
        go_roundg k1
        case measure => have := HK1.out; omega
        case rel => exact ⟨(IntKind.u64.wrap (Int.tdiv x0_1 2)), (wrap64 (x5_1 + 1)), (by first | rfl | (simp; done) | (simp [*]; done)), (by first | rfl | (simp; done) | (simp [*]; done)), H', ⟨by have := HK1.out; omega⟩, by repeat (first | exact Drawn0.refl _ | apply Drawn0.step)⟩
      · rw [if_neg c3] at H
        have c3b0 : decide (x5_1 < a1) = false := decide_eq_false c3
        clear c3
        obtain rfl := Option.some.inj H
        go_wp2
        go_ret
        exact ⟨by first | rfl | (simp; done) | (simp [*]; done), by repeat (first | exact Drawn0.refl _ | apply Drawn0.step)⟩

/-! ### revenantref01_Turn: function 29 -/
mutual
def revenantref01_Turn.j0 : Nat → Int → Int → Option (Int)
  | 0, _, _ => none
  | k + 1, x0, x5 => revenantref01_Turn.l0 k x0 x5 0 63
def revenantref01_Turn.l0 : Nat → Int → Int → Int → Int → Option (Int)
  | 0, _, _, _, _ => none
  | k + 1, x0, x5, x6, x7 => if x7 ≥ 0 then ((revenantref01_Bit.f k x0 (Int.tmod (wrap64 ((wrap64 (x7 + 64)) - x5)) 64)).bind fun t126 => (revenantref01_Turn.l0 k x0 x5 (IntKind.u64.wrap ((IntKind.u64.wrap (x6 * 2)) + t126)) (wrap64 (x7 - 1)))) else (some x6)
end
def revenantref01_Turn.f (k : Nat) (a0 : Int) (a1 : Int) : Option (Int) := if (Int.tmod a1 64) < 0 then (revenantref01_Turn.j0 k a0 (wrap64 ((Int.tmod a1 64) + 64))) else (revenantref01_Turn.j0 k a0 (Int.tmod a1 64))
theorem revenantref01_Turn.mono_l : ∀ k, (∀ y0 y1, LeO (revenantref01_Turn.j0 k y0 y1) (revenantref01_Turn.j0 (k + 1) y0 y1)) ∧ (∀ y0 y1 y2 y3, LeO (revenantref01_Turn.l0 k y0 y1 y2 y3) (revenantref01_Turn.l0 (k + 1) y0 y1 y2 y3))
  | 0 => ⟨fun _ _ r h => by simp [revenantref01_Turn.j0] at h, fun _ _ _ _ r h => by simp [revenantref01_Turn.l0] at h⟩
  | k + 1 => by
    obtain ⟨ih0, ih1⟩ := revenantref01_Turn.mono_l k
    refine ⟨?_, ?_⟩
    · intro y0 y1
      unfold revenantref01_Turn.j0
      repeat' first
      | (with_reducible exact ih0 _ _)
      | (with_reducible exact ih1 _ _ _ _)
      | (with_reducible exact revenantref01_Bit.mono _ _ _)
      | (with_reducible exact LeO.refl _)
      | (with_reducible exact LeO.none _)
      | (with_reducible refine LeO.ite ?_ ?_)
      | (with_reducible refine LeO.bind ?_ (fun _ => ?_))
      | exact ih0 _ _
      | exact ih1 _ _ _ _
      | exact revenantref01_Bit.mono _ _ _
      | exact LeO.none _
      | refine LeO.ite ?_ ?_
      | refine LeO.bind ?_ (fun _ => ?_)
    · intro y0 y1 y2 y3
      unfold revenantref01_Turn.l0
      repeat' first
      | (with_reducible exact ih0 _ _)
      | (with_reducible exact ih1 _ _ _ _)
      | (with_reducible exact revenantref01_Bit.mono _ _ _)
      | (with_reducible exact LeO.refl _)
      | (with_reducible exact LeO.none _)
      | (with_reducible refine LeO.ite ?_ ?_)
      | (with_reducible refine LeO.bind ?_ (fun _ => ?_))
      | exact ih0 _ _
      | exact ih1 _ _ _ _
      | exact revenantref01_Bit.mono _ _ _
      | exact LeO.none _
      | refine LeO.ite ?_ ?_
      | refine LeO.bind ?_ (fun _ => ?_)
theorem revenantref01_Turn.mono : ∀ a0 a1 k, LeO (revenantref01_Turn.f k a0 a1) (revenantref01_Turn.f (k + 1) a0 a1) := by
  intro a0 a1 k
  obtain ⟨ih0, ih1⟩ := revenantref01_Turn.mono_l k
  unfold revenantref01_Turn.f
  repeat' first
      | (with_reducible exact ih0 _ _)
      | (with_reducible exact ih1 _ _ _ _)
      | (with_reducible exact revenantref01_Bit.mono _ _ _)
      | (with_reducible exact LeO.refl _)
      | (with_reducible exact LeO.none _)
      | (with_reducible refine LeO.ite ?_ ?_)
      | (with_reducible refine LeO.bind ?_ (fun _ => ?_))
      | exact ih0 _ _
      | exact ih1 _ _ _ _
      | exact revenantref01_Bit.mono _ _ _
      | exact LeO.none _
      | refine LeO.ite ?_ ?_
      | refine LeO.bind ?_ (fun _ => ?_)
set_option maxHeartbeats 8000000 in
set_option maxRecDepth 100000 in
theorem revenantref01_Turn.calls (k : Nat) (a0 : Int) (a1 : Int) (r : Int) (w : World) (h : revenantref01_Turn.f k a0 a1 = some r) :
    Calls Try.prog 29 #[.int .u64 a0, .int .i64 a1] w fun e w' => e = .returned (.int .u64 r) ∧ Drawn0 w w' := by
  have H : (if (Int.tmod a1 64) < 0 then (revenantref01_Turn.j0 k a0 (wrap64 ((Int.tmod a1 64) + 64))) else (revenantref01_Turn.j0 k a0 (Int.tmod a1 64))) = some r := h
  clear h
  have HC3 := Aside0.mk H
  clear H
  go_enter Try.func29, Try.ntmps29
  go_upto_if 11 with (fail)
  go_cut [5] (fun v5 wc => ∃ (kq : Nat) (x5_2 : Int), v5 = .int .i64 x5_2 ∧ Aside0 (revenantref01_Turn.j0 kq a0 x5_2 = some r) ∧ Aside0 (kq ≤ k) ∧ Drawn0 w wc)
  case first =>
    have H := HC3.out
    clear HC3
    by_cases c4 : (Int.tmod a1 64) < 0
    · rw [if_pos c4] at H
      have c4b0 : decide ((Int.tmod a1 64) < 0) = true := decide_eq_true c4
      clear c4
      (first | rw [c4b0] | (simp only [i64_w, i32_w]; rw [c4b0]) | skip)
      have H' := Aside0.mk H
      clear H
      go_wp2
      go_meet
      case rel => exact ⟨_, (wrap64 ((Int.tmod a1 64) + 64)), (by first | rfl | (simp; done) | (simp [*]; done)), H', ⟨by first | omega | exact Nat.le_refl _⟩, by repeat (first | exact Drawn0.refl _ | apply Drawn0.step)⟩
    · rw [if_neg c4] at H
      have c4b0 : decide ((Int.tmod a1 64) < 0) = false := decide_eq_false c4
      clear c4
      (first | rw [c4b0] | (simp only [i64_w, i32_w]; rw [c4b0]) | skip)
      have H' := Aside0.mk H
      clear H
      go_wp2
      go_meet
      case rel => exact ⟨_, (Int.tmod a1 64), (by first | rfl | (simp; done) | (simp [*]; done)), H', ⟨by first | omega | exact Nat.le_refl _⟩, by repeat (first | exact Drawn0.refl _ | apply Drawn0.step)⟩
  case rest =>
    clear HC3
    try clear c2
    try clear p2
    try clear c4
    try clear c4b0
    obtain ⟨kq, x5_2, rfl, HA, HJ2, ⟨mc2, rfl⟩⟩ := hcut
    cases kq with
    | zero => exact absurd HA.out (by simp [revenantref01_Turn.j0])
    | succ kj2 =>
      have H := HA.out
      clear HA
      simp only [revenantref01_Turn.j0] at H
      have H' := Aside0.mk H
      clear H
      go_wp2
      go_loopg [6, 7] kj2 (fun kq v6 v7 w' => ∃ (x6_2 : Int) (x7_2 : Int), v6 = .int .u64 x6_2 ∧ v7 = .int .i64 x7_2 ∧ Aside0 (revenantref01_Turn.l0 kq a0 x5_2 x6_2 x7_2 = some r) ∧ Aside0 (kq ≤ kj2) ∧ Drawn0 w w')
      case atStart => exact ⟨(0), (63), (by first | rfl | (simp; done) | (simp [*]; done)), (by first | rfl | (simp; done) | (simp [*]; done)), H', ⟨Nat.le_refl _⟩, by repeat (first | exact Drawn0.refl _ | apply Drawn0.step)⟩
      case round =>
        clear H'
        try clear c2
        try clear p2
        try clear c4
        try clear c4b0
        try clear p2
        obtain ⟨x6_2, x7_2, rfl, rfl, HA, HK2, ⟨m2, rfl⟩⟩ := hrel
        cases gk with
        | zero => exact absurd HA.out (by simp [revenantref01_Turn.l0])
        | succ k2 =>
          have H := HA.out
          clear HA
          simp only [revenantref01_Turn.l0] at H
          by_cases c5 : x7_2 ≥ 0
          · rw [if_pos c5] at H
            have c5b0 : decide (0 ≤ x7_2) = true := decide_eq_true c5
            clear c5
            replace H := Option.bind_eq_some_iff.mp H
            obtain ⟨t126, A60, H⟩ := H
            replace H : (revenantref01_Turn.l0 k2 a0 x5_2 (IntKind.u64.wrap ((IntKind.u64.wrap (x6_2 * 2)) + t126)) (wrap64 (x7_2 - 1))) = some r := H
            have A6 := Aside0.mk A60
            clear A60
            have H' := Aside0.mk H
            clear H
            go_wp2_with (first | ((with_reducible refine gate_callee (f := 55) rfl ?_); refine goesL_ (some 26) rfl rfl Try.func55 (by kernel_rfl) rfl #[.int .u64 a0, .int .i64 (Int.tmod (wrap64 ((wrap64 (x7_2 + 64)) - x5_2)) 64)] rfl (by (try simp only [List.map_toArray, List.map_cons, List.map_nil]); first | done | rfl | (simp only [List.length_drop, List.length_take]; rfl)) ?_; (with_reducible refine (revenantref01_Bit.calls k2 a0 (Int.tmod (wrap64 ((wrap64 (x7_2 + 64)) - x5_2)) 64) t126 _ A6.out).mono ?_); rintro e w' ⟨rfl, ⟨nd, rfl⟩⟩; refine ⟨_, rfl, ?_⟩))
            go_roundg k2
            case measure => have := HJ2.out; have := HK2.out; omega
            case rel => exact ⟨(IntKind.u64.wrap ((IntKind.u64.wrap (x6_2 * 2)) + t126)), (wrap64 (x7_2 - 1)), (by first | rfl | (simp; done) | (simp [*]; done)), (by first | rfl | (simp; done) | (simp [*]; done)), H', ⟨by have := HJ2.out; have := HK2.out; omega⟩, by repeat (first | exact Drawn0.refl _ | apply Drawn0.step)⟩
          · rw [if_neg c5] at H
            have c5b0 : decide (0 ≤ x7_2) = false := decide_eq_false c5
            clear c5
            obtain rfl := Option.some.inj H
            go_wp2
            go_ret
            exact ⟨by first | rfl | (simp; done) | (simp [*]; done), by repeat (first | exact Drawn0.refl _ | apply Drawn0.step)⟩

/-! ### revenantlaw01_FieldTurns: function 4 -/
def revenantlaw01_FieldTurns.j0 : Nat → Int → Int → Bool → Option (Bool)
  | 0, _, _, _ => none
  | k + 1, x0, x1, x34 => if x34 = true then (some false) else ((field_Turn.f x0 x1).bind fun t130 => ((revenantref01_Turn.f k x0 x1).bind fun t131 => (some (t130 == t131))))
def revenantlaw01_FieldTurns.f (k : Nat) (a0 : Int) (a1 : Int) : Option (Bool) := (revenantlaw01_awake.f).bind fun t127 => (if t127 = true then ((field_Int.f a0).bind fun bt128 => (if (bt128.2 != (decide (a0 < 9223372036854775808))) = true then (revenantlaw01_FieldTurns.j0 k a0 a1 true) else (if bt128.2 = true then (if (IntKind.u64.wrap (bt128.1)) = a0 then (revenantlaw01_FieldTurns.j0 k a0 a1 false) else (revenantlaw01_FieldTurns.j0 k a0 a1 true)) else (revenantlaw01_FieldTurns.j0 k a0 a1 (bt128.1 != 0))))) else (some false))
theorem revenantlaw01_FieldTurns.mono_l : ∀ k, (∀ y0 y1 y2, LeO (revenantlaw01_FieldTurns.j0 k y0 y1 y2) (revenantlaw01_FieldTurns.j0 (k + 1) y0 y1 y2))
  | 0 => fun _ _ _ r h => by simp [revenantlaw01_FieldTurns.j0] at h
  | k + 1 => by
    have ih0 := revenantlaw01_FieldTurns.mono_l k
    · intro y0 y1 y2
      unfold revenantlaw01_FieldTurns.j0
      repeat' first
      | (with_reducible exact ih0 _ _ _)
      | (with_reducible exact revenantref01_Turn.mono _ _ _)
      | (with_reducible exact LeO.refl _)
      | (with_reducible exact LeO.none _)
      | (with_reducible refine LeO.ite ?_ ?_)
      | (with_reducible refine LeO.bind ?_ (fun _ => ?_))
      | exact ih0 _ _ _
      | exact revenantref01_Turn.mono _ _ _
      | exact LeO.none _
      | refine LeO.ite ?_ ?_
      | refine LeO.bind ?_ (fun _ => ?_)
theorem revenantlaw01_FieldTurns.mono : ∀ a0 a1 k, LeO (revenantlaw01_FieldTurns.f k a0 a1) (revenantlaw01_FieldTurns.f (k + 1) a0 a1) := by
  intro a0 a1 k
  have ih0 := revenantlaw01_FieldTurns.mono_l k
  unfold revenantlaw01_FieldTurns.f
  repeat' first
      | (with_reducible exact ih0 _ _ _)
      | (with_reducible exact revenantref01_Turn.mono _ _ _)
      | (with_reducible exact LeO.refl _)
      | (with_reducible exact LeO.none _)
      | (with_reducible refine LeO.ite ?_ ?_)
      | (with_reducible refine LeO.bind ?_ (fun _ => ?_))
      | exact ih0 _ _ _
      | exact revenantref01_Turn.mono _ _ _
      | exact LeO.none _
      | refine LeO.ite ?_ ?_
      | refine LeO.bind ?_ (fun _ => ?_)
set_option maxHeartbeats 8000000 in
set_option maxRecDepth 100000 in
theorem revenantlaw01_FieldTurns.calls (k : Nat) (a0 : Int) (a1 : Int) (r : Bool) (w : World) (h : revenantlaw01_FieldTurns.f k a0 a1 = some r) :
    Calls Try.prog 4 #[.int .u64 a0, .int .i64 a1] w fun e w' => e = .returned (.bool r) ∧ Below w.heap.size w w' := by
  have HB := Aside0.mk (Below.refl w.heap.size w)
  have H : ((revenantlaw01_awake.f).bind fun t127 => (if t127 = true then ((field_Int.f a0).bind fun bt128 => (if (bt128.2 != (decide (a0 < 9223372036854775808))) = true then (revenantlaw01_FieldTurns.j0 k a0 a1 true) else (if bt128.2 = true then (if (IntKind.u64.wrap (bt128.1)) = a0 then (revenantlaw01_FieldTurns.j0 k a0 a1 false) else (revenantlaw01_FieldTurns.j0 k a0 a1 true)) else (revenantlaw01_FieldTurns.j0 k a0 a1 (bt128.1 != 0))))) else (some false))) = some r := h
  clear h
  replace H := Option.bind_eq_some_iff.mp H
  obtain ⟨t127, A30, H⟩ := H
  replace H : (if t127 = true then ((field_Int.f a0).bind fun bt128 => (if (bt128.2 != (decide (a0 < 9223372036854775808))) = true then (revenantlaw01_FieldTurns.j0 k a0 a1 true) else (if bt128.2 = true then (if (IntKind.u64.wrap (bt128.1)) = a0 then (revenantlaw01_FieldTurns.j0 k a0 a1 false) else (revenantlaw01_FieldTurns.j0 k a0 a1 true)) else (revenantlaw01_FieldTurns.j0 k a0 a1 (bt128.1 != 0))))) else (some false)) = some r := H
  have A3 := Aside0.mk A30
  clear A30
  by_cases c4 : t127 = true
  · subst c4
    have H1 : ((field_Int.f a0).bind fun bt128 => (if (bt128.2 != (decide (a0 < 9223372036854775808))) = true then (revenantlaw01_FieldTurns.j0 k a0 a1 true) else (if bt128.2 = true then (if (IntKind.u64.wrap (bt128.1)) = a0 then (revenantlaw01_FieldTurns.j0 k a0 a1 false) else (revenantlaw01_FieldTurns.j0 k a0 a1 true)) else (revenantlaw01_FieldTurns.j0 k a0 a1 (bt128.1 != 0))))) = some r := by rw [if_pos rfl] at H; exact H
    clear H
    have H := H1
    clear H1
    replace H := Option.bind_eq_some_iff.mp H
    obtain ⟨⟨t128, t129⟩, A50, H⟩ := H
    replace H : (if (t129 != (decide (a0 < 9223372036854775808))) = true then (revenantlaw01_FieldTurns.j0 k a0 a1 true) else (if t129 = true then (if (IntKind.u64.wrap (t128)) = a0 then (revenantlaw01_FieldTurns.j0 k a0 a1 false) else (revenantlaw01_FieldTurns.j0 k a0 a1 true)) else (revenantlaw01_FieldTurns.j0 k a0 a1 (t128 != 0)))) = some r := H
    have A5 := Aside0.mk A50
    clear A50
    have HC6 := Aside0.mk H
    clear H
    go_enter Try.func4, Try.ntmps4
    go_upto_region 4 with (first | ((with_reducible refine gate_callee (f := 16) rfl ?_); refine goesL_ (some 7) rfl rfl Try.func16 (by kernel_rfl) rfl #[] rfl (by (try simp only [List.map_toArray, List.map_cons, List.map_nil]); first | done | rfl | (simp only [List.length_drop, List.length_take]; rfl)) ?_; (with_reducible refine (revenantlaw01_awake.calls  true _ A3.out).mono ?_); rintro e w7 ⟨rfl, hb⟩; refine ⟨_, rfl, ?_⟩; have n0_ := Aside0.mk (below_step (by repeat (first | (with_reducible first | exact HB.out | apply below_alloc | apply pw_below_drewN | apply below_drew1) | exact HB.out)) hb); clear HB; have HB := n0_; clear n0_; (try clear hb); (try clear hb2); (try clear hk); (try clear hi)) | ((with_reducible refine gate_callee (f := 27) rfl ?_); refine goesL_ (some 11) rfl rfl Try.func27 (by kernel_rfl) rfl #[.int .u64 a0] rfl (by (try simp only [List.map_toArray, List.map_cons, List.map_nil]); first | done | rfl | (simp only [List.length_drop, List.length_take]; rfl)) ?_; (with_reducible refine (field_Int.calls a0 t128 t129 _ A5.out).mono ?_); rintro e w' ⟨rfl, ⟨nd, rfl⟩⟩; refine ⟨_, rfl, ?_⟩))
    (try simp only [Act.put, List.setIfInBounds_toArray, List.set_cons_zero, List.set_cons_succ])
    go_cut [34] (fun v34 wc => ∃ (kq : Nat) (x34_5 : Bool), v34 = .bool x34_5 ∧ Aside0 (revenantlaw01_FieldTurns.j0 kq a0 a1 x34_5 = some r) ∧ Aside0 (kq ≤ k) ∧ Aside0 (Below w.heap.size w wc))
    case first =>
      have H := HC6.out
      clear HC6
      by_cases c8 : (t129 != (decide (a0 < 9223372036854775808))) = true
      · rw [if_pos c8] at H
        have c8b0 : (t129 != (decide (a0 < 9223372036854775808))) = true := c8
        (try (have c8b1 : decide (t129 = (decide (a0 < 9223372036854775808))) = false := by simpa using c8))
        (try (have c8b2 : (t129 == (decide (a0 < 9223372036854775808))) = false := by simpa using c8))
        (try (have c8b3 : ¬ (t129 = (decide (a0 < 9223372036854775808))) := by simpa using c8))
        clear c8
        (first | rw [c8b0] | (simp only [i64_w, i32_w]; rw [c8b0]) | skip)
        have H' := Aside0.mk H
        clear H
        go_wp2
        go_meet
        case rel => exact ⟨_, (true), (by first | rfl | (simp; done) | (simp [*]; done)), H', ⟨by first | omega | exact Nat.le_refl _⟩, ⟨by repeat (first | (with_reducible first | exact HB.out | apply below_alloc | apply pw_below_drewN | apply below_drew1) | exact HB.out)⟩⟩
      · rw [if_neg c8] at H
        have c8b0 : (t129 != (decide (a0 < 9223372036854775808))) = false := by simpa using c8
        (try (have c8b1 : decide (t129 = (decide (a0 < 9223372036854775808))) = true := by simpa using c8))
        (try (have c8b2 : (t129 == (decide (a0 < 9223372036854775808))) = true := by simpa using c8))
        clear c8
        (first | rw [c8b0] | (simp only [i64_w, i32_w]; rw [c8b0]) | skip)
        by_cases c9 : t129 = true
        · subst c9
          have H1 : (if (IntKind.u64.wrap (t128)) = a0 then (revenantlaw01_FieldTurns.j0 k a0 a1 false) else (revenantlaw01_FieldTurns.j0 k a0 a1 true)) = some r := by rw [if_pos rfl] at H; exact H
          clear H
          have H := H1
          clear H1
          by_cases c10 : (IntKind.u64.wrap (t128)) = a0
          · rw [if_pos c10] at H
            have c10b0 : ((IntKind.u64.wrap (t128)) == a0) = true := beq_iff_eq.mpr c10
            have c10b1 : ((IntKind.u64.wrap (t128)) != a0) = false := bne_eq_false_iff_eq.mpr c10
            clear c10
            have H' := Aside0.mk H
            clear H
            go_wp2
            go_meet
            case rel => exact ⟨_, (false), (by first | rfl | (simp; done) | (simp [*]; done)), H', ⟨by first | omega | exact Nat.le_refl _⟩, ⟨by repeat (first | (with_reducible first | exact HB.out | apply below_alloc | apply pw_below_drewN | apply below_drew1) | exact HB.out)⟩⟩
          · rw [if_neg c10] at H
            have c10b0 : ((IntKind.u64.wrap (t128)) == a0) = false := beq_eq_false_iff_ne.mpr c10
            have c10b1 : ((IntKind.u64.wrap (t128)) != a0) = true := bne_iff_ne.mpr c10
            have H' := Aside0.mk H
            clear H
            go_wp2
            go_meet
            case rel => exact ⟨_, (true), (by first | rfl | (simp; done) | (simp [*]; done)), H', ⟨by first | omega | exact Nat.le_refl _⟩, ⟨by repeat (first | (with_reducible first | exact HB.out | apply below_alloc | apply pw_below_drewN | apply below_drew1) | exact HB.out)⟩⟩
        · replace c9 := Bool.eq_false_iff.mpr c9
          subst c9
          have H1 : (revenantlaw01_FieldTurns.j0 k a0 a1 (t128 != 0)) = some r := by rw [if_neg (show ¬ (false = true) by decide)] at H; exact H
          clear H
          have H := H1
          clear H1
          have H' := Aside0.mk H
          clear H
          go_wp2
          go_meet
          case rel => exact ⟨_, ((t128 != 0)), (by first | rfl | (simp; done) | (simp [*]; done)), H', ⟨by first | omega | exact Nat.le_refl _⟩, ⟨by repeat (first | (with_reducible first | exact HB.out | apply below_alloc | apply pw_below_drewN | apply below_drew1) | exact HB.out)⟩⟩
    case rest =>
      clear HC6
      try clear c1
      try clear c2
      try clear p2
      try clear c4
      try clear c8
      try clear c8b0
      try clear c8b1
      try clear c8b2
      try clear c9
      try clear c10
      try clear c10b0
      try clear c10b1
      obtain ⟨kq, x34_5, rfl, HA, HJ5, HB⟩ := hcut
      cases kq with
      | zero => exact absurd HA.out (by simp [revenantlaw01_FieldTurns.j0])
      | succ kj5 =>
        have H := HA.out
        clear HA
        simp only [revenantlaw01_FieldTurns.j0] at H
        by_cases c11 : x34_5 = true
        · subst c11
          have H1 : (some false) = some r := by rw [if_pos rfl] at H; exact H
          clear H
          have H := H1
          clear H1
          obtain rfl := Option.some.inj H
          go_wp2
          go_ret
          exact ⟨by first | rfl | (simp [errW_none, errW_some] <;> rfl) | (simp [*, errW_none, errW_some] <;> rfl), by repeat (first | (with_reducible first | exact HB.out | apply below_alloc | apply pw_below_drewN | apply below_drew1) | exact HB.out)⟩
        · replace c11 := Bool.eq_false_iff.mpr c11
          subst c11
          have H1 : ((field_Turn.f a0 a1).bind fun t130 => ((revenantref01_Turn.f kj5 a0 a1).bind fun t131 => (some (t130 == t131)))) = some r := by rw [if_neg (show ¬ (false = true) by decide)] at H; exact H
          clear H
          have H := H1
          clear H1
          replace H := Option.bind_eq_some_iff.mp H
          obtain ⟨t130, A120, H⟩ := H
          replace H : ((revenantref01_Turn.f kj5 a0 a1).bind fun t131 => (some (t130 == t131))) = some r := H
          have A12 := Aside0.mk A120
          clear A120
          replace H := Option.bind_eq_some_iff.mp H
          obtain ⟨t131, A130, H⟩ := H
          replace H : (some (t130 == t131)) = some r := H
          have A13 := Aside0.mk A130
          clear A130
          obtain rfl := Option.some.inj H
          go_wp2_with (first | ((with_reducible refine gate_callee (f := 28) rfl ?_); refine goesL_ (some 37) rfl rfl Try.func28 (by kernel_rfl) rfl #[.int .u64 a0, .int .i64 a1] rfl (by (try simp only [List.map_toArray, List.map_cons, List.map_nil]); first | done | rfl | (simp only [List.length_drop, List.length_take]; rfl)) ?_; (with_reducible refine (field_Turn.calls a0 a1 t130 _ A12.out).mono ?_); rintro e w' ⟨rfl, ⟨nd, rfl⟩⟩; refine ⟨_, rfl, ?_⟩) | ((with_reducible refine gate_callee (f := 29) rfl ?_); refine goesL_ (some 40) rfl rfl Try.func29 (by kernel_rfl) rfl #[.int .u64 a0, .int .i64 a1] rfl (by (try simp only [List.map_toArray, List.map_cons, List.map_nil]); first | done | rfl | (simp only [List.length_drop, List.length_take]; rfl)) ?_; (with_reducible refine (revenantref01_Turn.calls kj5 a0 a1 t131 _ A13.out).mono ?_); rintro e w' ⟨rfl, ⟨nd, rfl⟩⟩; refine ⟨_, rfl, ?_⟩))
          go_ret
          exact ⟨by first | rfl | (simp [errW_none, errW_some] <;> rfl) | (simp [*, errW_none, errW_some] <;> rfl), by repeat (first | (with_reducible first | exact HB.out | apply below_alloc | apply pw_below_drewN | apply below_drew1) | exact HB.out)⟩
  · replace c4 := Bool.eq_false_iff.mpr c4
    subst c4
    have H1 : (some false) = some r := by rw [if_neg (show ¬ (false = true) by decide)] at H; exact H
    clear H
    have H := H1
    clear H1
    obtain rfl := Option.some.inj H
    go_enter Try.func4, Try.ntmps4
    go_wp2_with (first | ((with_reducible refine gate_callee (f := 16) rfl ?_); refine goesL_ (some 7) rfl rfl Try.func16 (by kernel_rfl) rfl #[] rfl (by (try simp only [List.map_toArray, List.map_cons, List.map_nil]); first | done | rfl | (simp only [List.length_drop, List.length_take]; rfl)) ?_; (with_reducible refine (revenantlaw01_awake.calls  false _ A3.out).mono ?_); rintro e w14 ⟨rfl, hb⟩; refine ⟨_, rfl, ?_⟩; have n0_ := Aside0.mk (below_step (by repeat (first | (with_reducible first | exact HB.out | apply below_alloc | apply pw_below_drewN | apply below_drew1) | exact HB.out)) hb); clear HB; have HB := n0_; clear n0_; (try clear hb); (try clear hb2); (try clear hk); (try clear hi)))
    go_ret
    exact ⟨by first | rfl | (simp [errW_none, errW_some] <;> rfl) | (simp [*, errW_none, errW_some] <;> rfl), by repeat (first | (with_reducible first | exact HB.out | apply below_alloc | apply pw_below_drewN | apply below_drew1) | exact HB.out)⟩

/-- THE ONE PURE STATEMENT of revenantlaw01_FieldTurns: yours. -/
def revenantlaw01_FieldTurns.Pure : Prop := ∀ (a0 : Int) (a1 : Int), (Lit.int .u64 a0).wf = true → (Lit.int .i64 a1).wf = true → ∃ k, revenantlaw01_FieldTurns.f k a0 a1 = some true
theorem revenantlaw01_FieldTurns.walk (P : revenantlaw01_FieldTurns.Pure) (a0 : Int) (a1 : Int) (w : World) (w0 : (Lit.int .u64 a0).wf = true) (w1 : (Lit.int .i64 a1).wf = true) :
    Calls Try.prog 4 #[.int .u64 a0, .int .i64 a1] w fun e w' => e = .returned (.bool true) ∧ Below w.heap.size w w' := by
  obtain ⟨k, h⟩ := P a0 a1 w0 w1
  refine (revenantlaw01_FieldTurns.calls k a0 a1 true w h).mono ?_
  rintro e w' ⟨rfl, hd⟩
  exact ⟨rfl, hd⟩

end Go.Proofs.Ytmdncdepdnpjiaa.PFieldTurns
