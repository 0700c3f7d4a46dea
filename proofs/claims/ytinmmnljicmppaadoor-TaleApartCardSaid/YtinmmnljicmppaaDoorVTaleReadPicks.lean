import Derived.Test.YtinmmnljicmppaaDoorVTaleK
import Derived.Test.YtinmmnljicmppaaDoorVPTaleApartx0
/- Words of this proof. -/
namespace Go.Proofs.YtinmmnljicmppaaDoor.PTaleApart
open Go.RowKit Go.Proofs.YtinmmnljicmppaaDoorW.PrintWords Go.Proofs.YtinmmnljicmppaaDoorW.PrintLast Go.Proofs.YtinmmnljicmppaaDoorW.PrintMore Go.Proofs.YtinmmnljicmppaaDoor.Str
attribute [local go_sem] max2_int min2_int max_two min_two max_three min_three max_four min_four
set_option linter.unusedVariables false
set_option linter.unusedSimpArgs false
mutual
def tale_ReadPicks.l0 : Nat → ByteArray → List Int → List ByteArray → Int → Int → Option (List Int × Int)
 | 0, _, _, _, _, _ => none
 | k + 1, x0, x4, x15, x16, x17 => if x17 < x16 then (if 0 ≤ x17 then (if x17 < (x15.length : Int) then ((strings_Cut.f (rdOf ByteArray.empty x15 x17) (⟨#[42]⟩ : ByteArray)).bind fun bt260 => (if bt260.2.2 = true then ((tale_small.f bt260.2.1).bind fun t263 => (tale_ReadPicks.j1 k x0 x4 bt260.1 t263 x15 x16 x17)) else (tale_ReadPicks.j1 k x0 x4 bt260.1 1 x15 x16 x17))) else (none)) else (none)) else ((tale_Picks.f x4).bind fun bt257 => (if bt257.2 = 0 then (if bt257.1.toList = x0.toList then (some (x4, 0)) else (some (([] : List Int), 4))) else (some (([] : List Int), 4))))
def tale_ReadPicks.j1 : Nat → ByteArray → List Int → ByteArray → Int → List ByteArray → Int → Int → Option (List Int × Int)
 | 0, _, _, _, _, _, _, _ => none
 | k + 1, x0, x4, x7, x10, x15, x16, x17 => if x10 < 1 then (tale_ReadPicks.j2 k x0 x4 x7 x10 x15 x16 x17 true) else (tale_ReadPicks.j2 k x0 x4 x7 x10 x15 x16 x17 (decide (x10 > (wrap64 (262144 - (x4.length : Int))))))
def tale_ReadPicks.j2 : Nat → ByteArray → List Int → ByteArray → Int → List ByteArray → Int → Int → Bool → Option (List Int × Int)
 | 0, _, _, _, _, _, _, _, _ => none
 | k + 1, x0, x4, x7, x10, x15, x16, x17, x38 => if x38 = true then (some (([] : List Int), 4)) else ((tale_small.f x7).bind fun t264 => ((slices_Repeat.f (([t264] : List Int)) x10).bind fun t268 => (if x4.length + t268.length < 17592186044416 then (tale_ReadPicks.l0 k x0 (x4 ++ t268) x15 x16 (wrap64 (x17 + 1))) else (none))))
end
def tale_ReadPicks.f (k : Nat) (a0 : ByteArray) : Option (List Int × Int) := (strings_Split.f a0 (⟨#[32]⟩ : ByteArray)).bind fun t250 => (if 1 ≤ (t250.length : Int) then ((some (t250.drop 1 : List ByteArray)).bind fun y253 => (tale_ReadPicks.l0 k a0 ([] : List Int) y253 (y253.length : Int) 0)) else (none))
theorem tale_ReadPicks.mono_l : ∀ k, (∀ y0 y1 y2 y3 y4, LeO (tale_ReadPicks.l0 k y0 y1 y2 y3 y4) (tale_ReadPicks.l0 (k + 1) y0 y1 y2 y3 y4)) ∧ (∀ y0 y1 y2 y3 y4 y5 y6, LeO (tale_ReadPicks.j1 k y0 y1 y2 y3 y4 y5 y6) (tale_ReadPicks.j1 (k + 1) y0 y1 y2 y3 y4 y5 y6)) ∧ (∀ y0 y1 y2 y3 y4 y5 y6 y7, LeO (tale_ReadPicks.j2 k y0 y1 y2 y3 y4 y5 y6 y7) (tale_ReadPicks.j2 (k + 1) y0 y1 y2 y3 y4 y5 y6 y7))
 | 0 => ⟨fun _ _ _ _ _ r h => by simp [tale_ReadPicks.l0] at h, fun _ _ _ _ _ _ _ r h => by simp [tale_ReadPicks.j1] at h, fun _ _ _ _ _ _ _ _ r h => by simp [tale_ReadPicks.j2] at h⟩
 | k + 1 => by
  obtain ⟨ih0, ih1, ih2⟩ := tale_ReadPicks.mono_l k
  refine ⟨?_, ?_, ?_⟩
  ·intro y0 y1 y2 y3 y4
   unfold tale_ReadPicks.l0
   repeat' first
   | (with_reducible exact ih0 _ _ _ _ _)
   | (with_reducible exact ih1 _ _ _ _ _ _ _)
   | (with_reducible exact ih2 _ _ _ _ _ _ _ _)
   | (with_reducible exact LeO.refl _)
   | (with_reducible exact LeO.none _)
   | (with_reducible refine LeO.ite ?_ ?_)
   | (with_reducible refine LeO.bind ?_ (fun _ => ?_))
   | exact ih0 _ _ _ _ _
   | exact ih1 _ _ _ _ _ _ _
   | exact ih2 _ _ _ _ _ _ _ _
   | exact LeO.none _
   | refine LeO.ite ?_ ?_
   | refine LeO.bind ?_ (fun _ => ?_)
  ·intro y0 y1 y2 y3 y4 y5 y6
   unfold tale_ReadPicks.j1
   repeat' first
   | (with_reducible exact ih0 _ _ _ _ _)
   | (with_reducible exact ih1 _ _ _ _ _ _ _)
   | (with_reducible exact ih2 _ _ _ _ _ _ _ _)
   | (with_reducible exact LeO.refl _)
   | (with_reducible exact LeO.none _)
   | (with_reducible refine LeO.ite ?_ ?_)
   | (with_reducible refine LeO.bind ?_ (fun _ => ?_))
   | exact ih0 _ _ _ _ _
   | exact ih1 _ _ _ _ _ _ _
   | exact ih2 _ _ _ _ _ _ _ _
   | exact LeO.none _
   | refine LeO.ite ?_ ?_
   | refine LeO.bind ?_ (fun _ => ?_)
  ·intro y0 y1 y2 y3 y4 y5 y6 y7
   unfold tale_ReadPicks.j2
   repeat' first
   | (with_reducible exact ih0 _ _ _ _ _)
   | (with_reducible exact ih1 _ _ _ _ _ _ _)
   | (with_reducible exact ih2 _ _ _ _ _ _ _ _)
   | (with_reducible exact LeO.refl _)
   | (with_reducible exact LeO.none _)
   | (with_reducible refine LeO.ite ?_ ?_)
   | (with_reducible refine LeO.bind ?_ (fun _ => ?_))
   | exact ih0 _ _ _ _ _
   | exact ih1 _ _ _ _ _ _ _
   | exact ih2 _ _ _ _ _ _ _ _
   | exact LeO.none _
   | refine LeO.ite ?_ ?_
   | refine LeO.bind ?_ (fun _ => ?_)
theorem tale_ReadPicks.mono : ∀ a0 k, LeO (tale_ReadPicks.f k a0) (tale_ReadPicks.f (k + 1) a0) := by
 intro a0 k
 obtain ⟨ih0, ih1, ih2⟩ := tale_ReadPicks.mono_l k
 unfold tale_ReadPicks.f
 repeat' first
   | (with_reducible exact ih0 _ _ _ _ _)
   | (with_reducible exact ih1 _ _ _ _ _ _ _)
   | (with_reducible exact ih2 _ _ _ _ _ _ _ _)
   | (with_reducible exact LeO.refl _)
   | (with_reducible exact LeO.none _)
   | (with_reducible refine LeO.ite ?_ ?_)
   | (with_reducible refine LeO.bind ?_ (fun _ => ?_))
   | exact ih0 _ _ _ _ _
   | exact ih1 _ _ _ _ _ _ _
   | exact ih2 _ _ _ _ _ _ _ _
   | exact LeO.none _
   | refine LeO.ite ?_ ?_
   | refine LeO.bind ?_ (fun _ => ?_)
set_option maxHeartbeats 8000000 in
set_option maxRecDepth 100000 in
theorem tale_ReadPicks.calls (k : Nat) (a0 : ByteArray) (r1 : List Int) (r2 : Int) (w : World) (h : tale_ReadPicks.f k a0 = some (r1, r2)) {w0 : World} (ht0 : WT w0) (hb0 : Below w0.heap.size w0 w) :
  Calls Tryd.prog 46 #[.string a0] w fun e w' => ∃ v0_ : Value, e = .returned (.tuple #[v0_, .int .i64 r2]) ∧ Kd.R (Kd.int .i64) 3 w' w.heap.size (fun _ => True) v0_ r1 ∧ Below w.heap.size w w' := by
 have HTT := Aside0.mk (WT.below ht0 hb0)
 clear ht0 hb0
 have HB := Aside0.mk (Below.refl w.heap.size w)
 have H : ((strings_Split.f a0 (⟨#[32]⟩ : ByteArray)).bind fun t250 => (if 1 ≤ (t250.length : Int) then ((some (t250.drop 1 : List ByteArray)).bind fun y253 => (tale_ReadPicks.l0 k a0 ([] : List Int) y253 (y253.length : Int) 0)) else (none))) = some (r1, r2) := h
 clear h
 replace H := Option.bind_eq_some_iff.mp H
 obtain ⟨t250, A20, H⟩ := H
 replace H : (if 1 ≤ (t250.length : Int) then ((some (t250.drop 1 : List ByteArray)).bind fun y253 => (tale_ReadPicks.l0 k a0 ([] : List Int) y253 (y253.length : Int) 0)) else (none)) = some (r1, r2) := H
 have A2 := Aside0.mk A20
 clear A20
 by_cases c3 : 1 ≤ (t250.length : Int)
 ·rw [if_pos c3] at H
  have c3b0 := eq_true c3
  have c3b1 : decide (1 ≤ (t250.length : Int)) = true := decide_eq_true c3
  clear c3
  obtain ⟨y253, hy253⟩ : ∃ y_ : List ByteArray, y_ = (t250.drop 1) := ⟨_, rfl⟩
  replace H : (tale_ReadPicks.l0 k a0 ([] : List Int) y253 (y253.length : Int) 0) = some (r1, r2) := by first | (rw [hy253]; with_reducible exact H) | (have H2_ := (Option.bind_some _ _).symm.trans H; rw [hy253]; with_reducible exact H2_) | (have H2_ := (Option.bind_some _ _).symm.trans H; with_reducible exact H2_) | with_reducible exact H | (rw [hy253]; exact H) | exact H
  have Ny253 := Aside0.mk hy253
  clear hy253
  have H' := Aside0.mk H
  clear H
  go_enter Tryd.func46, Tryd.ntmps46
  go_wp2_with (first | ((with_reducible refine gate_callee (f := 26) rfl ?_); refine goesL_ (some 14) rfl rfl Tryd.func26 (by kernel_rfl) rfl #[.string a0, .string (⟨#[32]⟩ : ByteArray)] rfl (by (try simp only [List.map_toArray, List.map_cons, List.map_nil]); first | done | rfl | (simp only [List.length_drop, List.length_take]; rfl)) ?_; (with_reducible refine (strings_Split.calls a0 (⟨#[32]⟩ : ByteArray) t250 _ A2.out HTT.out (upB HB.out)).mono ?_); rintro e w4 ⟨v251, rfl, ho0, hb⟩; refine ⟨_, rfl, ?_⟩; have n0_ := Aside0.mk (Kd.R_lower ho0 (below_size (upB HB.out))); have n1_ := Aside0.mk (below_step (upB HB.out) hb); clear HB; have HO252 := n0_; have HB := n1_; clear n0_ n1_; (try clear hb); (try clear hb2); (try clear hk); (try clear hi); (try clear ho0); obtain ⟨Ao6, co6, eo6⟩ := Kd.R_slice HO252.out; subst eo6; have q5 : (1 : Int) ≤ ((t250.length : Int) : Int) := of_decide_eq_true (by first | (with_reducible assumption) | assumption); obtain ⟨i05, hi05, _, hsz5, _⟩ := info_parts info9; have hroom5 : t250.length ≤ co6 := (Kd.R_reads' HO252.out).2.1; have hC5 : Kd.C Kd.string _ Ao6 t250.length t250 := (Kd.R_reads' HO252.out).2.2; have hcut5 := cut_from (P := Tryd.prog) 55 9 .i64 Tryd.underlying55 hi05 1 hsz5 Ao6 t250.length co6 1 (by omega) q5; have hr5 := Kd.C_drop (m := (1 : Int).toNat) (c := co6) hC5 (by omega) hroom5; obtain ⟨A5, hA5⟩ : ∃ A1, A1 = (if co6 = (1 : Int).toNat then Ao6 else (Ao6 : Option Addr).map (·.add ((1 : Int).toNat * 1))) := ⟨_, rfl⟩; obtain ⟨c5, hc5⟩ : ∃ c1, c1 = co6 - (1 : Int).toNat := ⟨_, rfl⟩; have hy5 : y253.length = t250.length - (1 : Int).toNat := (by rw [Ny253.out, List.length_drop] <;> omega); rw [show (t250).drop (1 : Int).toNat = y253 from Ny253.out.symm] at hr5; replace hr5 : Kd.C Kd.string _ A5 y253.length y253 := (by rw [hA5]; exact hr5); rw [← hy5, ← hA5, ← hc5] at hcut5; have HR256 := Aside0.mk hr5; have HC256 := Aside0.mk (show y253.length ≤ c5 from by rw [hy5, hc5]; exact Nat.sub_le_sub_right hroom5 _); clear hr5 hC5 hroom5 hi05 hsz5 hc5; have KY5 := Aside0.mk hy5; have KA5 := Aside0.mk hA5; clear hy5 hA5; have KL5 := Aside0.mk (show 1 ≤ t250.length from by omega); replace q5 := eq_true q5))
  have HB0 := HB
  clear HB
  have HB := Aside0.mk (Below.refl w4.heap.size w4)
  have HTT4 := Aside0.mk (WT.below HTT.out HB0.out)
  clear HTT
  have HTT := HTT4
  clear HTT4
  go_loopg [4, 17] k (fun kq v4 v17 w' => ∃ (x4_1 : List Int) (x17_1 : Int), v17 = .int .i64 x17_1 ∧ Aside0 (tale_ReadPicks.l0 kq a0 x4_1 y253 (y253.length : Int) x17_1 = some (r1, r2)) ∧ Aside0 (kq ≤ k) ∧ Aside0 (Kd.R (Kd.int .i64) 3 w' w4.heap.size (fun _ => True) v4 x4_1) ∧ Aside0 (Below w4.heap.size w4 w'))
  case atStart => exact ⟨(([] : List Int)), (0), (by first | rfl | exact congrArg Value.bool (Eq.symm (by assumption)) | (simp; done) | (simp [*]; done)), H', ⟨Nat.le_refl _⟩, ⟨by first | exact Kd.R_nil _ _ _ _ _ | exact Kd.N_nil _ _ _ _ _ | exact Kd.V_nil _ _ _ _ _ | exact Kd.Q_nil _ _ _ _ _ | exact Kd.S_nil _ _ _ _ _⟩, ⟨upB HB.out⟩⟩
  case round =>
   clear H'
   try clear c1
   try clear c2
   try clear p2
   try clear c3
   try clear c3b0
   try clear c3b1
   try clear c4
   try clear c5
   try clear q5
   try clear q5
   obtain ⟨x4_1, x17_1, rfl, HA, HK1, HO_4, HB⟩ := hrel
   cases gk with
   | zero => exact absurd HA.out (by simp [tale_ReadPicks.l0])
   | succ k1 =>
    have H := HA.out
    clear HA
    simp only [tale_ReadPicks.l0] at H
    by_cases c7 : x17_1 < (y253.length : Int)
    ·rw [if_pos c7] at H
     have c7b0 : decide (x17_1 < (y253.length : Int)) = true := decide_eq_true c7
     clear c7
     by_cases c8 : 0 ≤ x17_1
     ·rw [if_pos c8] at H
      have c8b0 : decide (0 ≤ x17_1) = true := decide_eq_true c8
      clear c8
      by_cases c9 : x17_1 < (y253.length : Int)
      ·rw [if_pos c9] at H
       have c9b0 : decide (x17_1 < (y253.length : Int)) = true := decide_eq_true c9
       clear c9
       replace H := Option.bind_eq_some_iff.mp H
       obtain ⟨⟨t260, t261, t262⟩, A100, H⟩ := H
       replace H : (if t262 = true then ((tale_small.f t261).bind fun t263 => (tale_ReadPicks.j1 k1 a0 x4_1 t260 t263 y253 (y253.length : Int) x17_1)) else (tale_ReadPicks.j1 k1 a0 x4_1 t260 1 y253 (y253.length : Int) x17_1)) = some (r1, r2) := H
       have A10 := Aside0.mk A100
       clear A100
       have HC11 := Aside0.mk H
       clear H
       have p259 : 0 ≤ (x17_1 : Int) := of_decide_eq_true (by first | (with_reducible assumption) | assumption)
       have q259 : x17_1 < (y253.length : Int) := of_decide_eq_true (by first | (with_reducible assumption) | assumption)
       obtain ⟨ad259, e259, hx259_0⟩ := Kd.at_string HR256.out x17_1 p259 q259
       cases e259
       replace hx259_0 := (HB.out.cell (World.block_lt_of_cell? w4 _ hx259_0)).trans hx259_0
       replace p259 := eq_true p259
       replace q259 := eq_true q259
       go_upto_if 27 with (first | ((with_reducible refine gate_callee (f := 43) rfl ?_); refine goesL_ (some 23) rfl rfl Tryd.func43 (by kernel_rfl) rfl #[.string (rdOf ByteArray.empty y253 x17_1), .string (⟨#[42]⟩ : ByteArray)] rfl (by (try simp only [List.map_toArray, List.map_cons, List.map_nil]); first | done | rfl | (simp only [List.length_drop, List.length_take]; rfl)) ?_; (with_reducible refine (strings_Cut.calls (rdOf ByteArray.empty y253 x17_1) (⟨#[42]⟩ : ByteArray) t260 t261 t262 _ A10.out HTT.out (upB HB.out)).mono ?_); rintro e w12 ⟨rfl, hb⟩; refine ⟨_, rfl, ?_⟩; have n0_ := Aside0.mk (Kd.R_below (by (with_reducible repeat (first | apply Kd.R_alloc | apply Kd.R_drewN | apply Kd.R_drew)); exact HO_4.out) hb); have n1_ := Aside0.mk (below_step (upB HB.out) hb); clear HO_4; clear HB; have HO_4 := n0_; have HB := n1_; clear n0_ n1_; (try clear hb); (try clear hb2); (try clear hk); (try clear hi)))
       (try simp only [Act.put, List.setIfInBounds_toArray, List.set_cons_zero, List.set_cons_succ])
       go_cut [10] (fun v10 wc => ∃ (kq : Nat) (x10_10 : Int), v10 = .int .i64 x10_10 ∧ Aside0 (tale_ReadPicks.j1 kq a0 x4_1 t260 x10_10 y253 (y253.length : Int) x17_1 = some (r1, r2)) ∧ Aside0 (kq ≤ k1) ∧ Aside0 (Kd.R (Kd.int .i64) 3 wc w4.heap.size (fun _ => True) u4 x4_1) ∧ Aside0 (Below w4.heap.size w4 wc))
       case first =>
        have H := HC11.out
        clear HC11
        by_cases c13 : t262 = true
        ·subst c13
         have H1 : ((tale_small.f t261).bind fun t263 => (tale_ReadPicks.j1 k1 a0 x4_1 t260 t263 y253 (y253.length : Int) x17_1)) = some (r1, r2) := by rw [if_pos rfl] at H; exact H
         clear H
         have H := H1
         clear H1
         replace H := Option.bind_eq_some_iff.mp H
         obtain ⟨t263, A140, H⟩ := H
         replace H : (tale_ReadPicks.j1 k1 a0 x4_1 t260 t263 y253 (y253.length : Int) x17_1) = some (r1, r2) := H
         have A14 := Aside0.mk A140
         clear A140
         have H' := Aside0.mk H
         clear H
         go_wp2_with (first | ((with_reducible refine gate_callee (f := 29) rfl ?_); refine goesL_ (some 29) rfl rfl Tryd.func29 (by kernel_rfl) rfl #[.string t261] rfl (by (try simp only [List.map_toArray, List.map_cons, List.map_nil]); first | done | rfl | (simp only [List.length_drop, List.length_take]; rfl)) ?_; (with_reducible refine (tale_small.calls t261 t263 _ A14.out HTT.out (upB HB.out)).mono ?_); rintro e w15 ⟨rfl, hb⟩; refine ⟨_, rfl, ?_⟩; have n0_ := Aside0.mk (Kd.R_below (by (with_reducible repeat (first | apply Kd.R_alloc | apply Kd.R_drewN | apply Kd.R_drew)); exact HO_4.out) hb); have n1_ := Aside0.mk (below_step (upB HB.out) hb); clear HO_4; clear HB; have HO_4 := n0_; have HB := n1_; clear n0_ n1_; (try clear hb); (try clear hb2); (try clear hk); (try clear hi)))
         go_meet
         case rel => exact ⟨_, (t263), (by first | rfl | exact congrArg Value.bool (Eq.symm (by assumption)) | (simp; done) | (simp [*]; done)), H', ⟨by have := HK1.out; first | omega | exact Nat.le_refl _⟩, ⟨by (with_reducible repeat (first | apply Kd.R_alloc | apply Kd.R_drewN | apply Kd.R_drew)); exact HO_4.out⟩, ⟨upB HB.out⟩⟩
        ·replace c13 := Bool.eq_false_iff.mpr c13
         subst c13
         have H1 : (tale_ReadPicks.j1 k1 a0 x4_1 t260 1 y253 (y253.length : Int) x17_1) = some (r1, r2) := by rw [if_neg (show ¬ (false = true) by decide)] at H; exact H
         clear H
         have H := H1
         clear H1
         have H' := Aside0.mk H
         clear H
         go_wp2
         go_meet
         case rel => exact ⟨_, (1), (by first | rfl | exact congrArg Value.bool (Eq.symm (by assumption)) | (simp; done) | (simp [*]; done)), H', ⟨by have := HK1.out; first | omega | exact Nat.le_refl _⟩, ⟨by (with_reducible repeat (first | apply Kd.R_alloc | apply Kd.R_drewN | apply Kd.R_drew)); exact HO_4.out⟩, ⟨upB HB.out⟩⟩
       case rest =>
        clear HC11
        try clear c1
        try clear c2
        try clear p2
        try clear q2
        try clear hx2
        try clear c3
        try clear c3b0
        try clear c3b1
        try clear c4
        try clear c5
        try clear q5
        try clear c7
        try clear c7b0
        try clear c8
        try clear c8b0
        try clear c9
        try clear c9b0
        try clear c13
        try clear hx259_0
        try clear p2
        try clear p259
        try clear q259
        try clear q5
        obtain ⟨kq, x10_10, rfl, HA, HJ10, HO_4, HB⟩ := hcut
        cases kq with
        | zero => exact absurd HA.out (by simp [tale_ReadPicks.j1])
        | succ kj10 =>
         have H := HA.out
         clear HA
         simp only [tale_ReadPicks.j1] at H
         have HC16 := Aside0.mk H
         clear H
         go_upto_region 9 with (fail)
         go_cut [38] (fun v38 wc => ∃ (kq : Nat) (x38_15 : Bool), v38 = .bool x38_15 ∧ Aside0 (tale_ReadPicks.j2 kq a0 x4_1 t260 x10_10 y253 (y253.length : Int) x17_1 x38_15 = some (r1, r2)) ∧ Aside0 (kq ≤ kj10) ∧ Aside0 (Kd.R (Kd.int .i64) 3 wc w4.heap.size (fun _ => True) u4 x4_1) ∧ Aside0 (Below w4.heap.size w4 wc))
         case first =>
          have H := HC16.out
          clear HC16
          by_cases c17 : x10_10 < 1
          ·rw [if_pos c17] at H
           have c17b0 : decide (x10_10 < 1) = true := decide_eq_true c17
           clear c17
           (first | rw [c17b0] | (simp only [i64_w, i32_w]; rw [c17b0]) | skip)
           have H' := Aside0.mk H
           clear H
           go_wp2
           go_meet
           case rel => exact ⟨_, (true), (by first | rfl | exact congrArg Value.bool (Eq.symm (by assumption)) | (simp; done) | (simp [*]; done)), H', ⟨by have := HK1.out; have := HJ10.out; first | omega | exact Nat.le_refl _⟩, ⟨by (with_reducible repeat (first | apply Kd.R_alloc | apply Kd.R_drewN | apply Kd.R_drew)); exact HO_4.out⟩, ⟨upB HB.out⟩⟩
          ·rw [if_neg c17] at H
           have c17b0 : decide (x10_10 < 1) = false := decide_eq_false c17
           clear c17
           (first | rw [c17b0] | (simp only [i64_w, i32_w]; rw [c17b0]) | skip)
           have H' := Aside0.mk H
           clear H
           obtain ⟨Ao18, co18, eo18⟩ := Kd.R_slice HO_4.out
           subst eo18
           go_wp2
           go_meet
           case rel => exact ⟨_, (decide (x10_10 > (wrap64 (262144 - (x4_1.length : Int))))), (by first | rfl | exact congrArg Value.bool (Eq.symm (by assumption)) | (simp; done) | (simp [*]; done)), H', ⟨by have := HK1.out; have := HJ10.out; first | omega | exact Nat.le_refl _⟩, ⟨by (with_reducible repeat (first | apply Kd.R_alloc | apply Kd.R_drewN | apply Kd.R_drew)); exact HO_4.out⟩, ⟨upB HB.out⟩⟩
         case rest =>
          clear HC16
          try clear c1
          try clear c2
          try clear p2
          try clear q2
          try clear hx2
          try clear c3
          try clear c3b0
          try clear c3b1
          try clear c4
          try clear c5
          try clear q5
          try clear p6
          try clear c7
          try clear c7b0
          try clear c8
          try clear c8b0
          try clear c9
          try clear c9b0
          try clear c13
          try clear c17
          try clear c17b0
          try clear hx259_0
          try clear p2
          try clear p259
          try clear q2
          try clear q259
          try clear q5
          obtain ⟨kq, x38_15, rfl, HA, HJ15, HO_4, HB⟩ := hcut
          cases kq with
          | zero => exact absurd HA.out (by simp [tale_ReadPicks.j2])
          | succ kj15 =>
           have H := HA.out
           clear HA
           simp only [tale_ReadPicks.j2] at H
           by_cases c19 : x38_15 = true
           ·subst c19
            have H1 : (some (([] : List Int), 4)) = some (r1, r2) := by rw [if_pos rfl] at H; exact H
            clear H
            have H := H1
            clear H1
            simp only [Option.some.injEq, Prod.mk.injEq] at H
            obtain ⟨rfl, rfl⟩ := H
            go_wp2
            go_ret2
            exact ⟨_, by first | rfl | (simp [errW_none, errW_some] <;> rfl) | (simp [*, errW_none, errW_some] <;> rfl), by first | exact Kd.R_nil _ _ _ _ _ | exact Kd.N_nil _ _ _ _ _ | exact Kd.V_nil _ _ _ _ _ | exact Kd.Q_nil _ _ _ _ _ | exact Kd.S_nil _ _ _ _ _, by refine below_step HB0.out ?_; repeat (first | (with_reducible first | exact HB.out | apply below_alloc | apply pw_below_drewN | apply below_drew1) | exact HB.out)⟩
           ·replace c19 := Bool.eq_false_iff.mpr c19
            subst c19
            have H1 : ((tale_small.f t260).bind fun t264 => ((slices_Repeat.f (([t264] : List Int)) x10_10).bind fun t268 => (if x4_1.length + t268.length < 17592186044416 then (tale_ReadPicks.l0 kj15 a0 (x4_1 ++ t268) y253 (y253.length : Int) (wrap64 (x17_1 + 1))) else (none)))) = some (r1, r2) := by rw [if_neg (show ¬ (false = true) by decide)] at H; exact H
            clear H
            have H := H1
            clear H1
            replace H := Option.bind_eq_some_iff.mp H
            obtain ⟨t264, A200, H⟩ := H
            replace H : ((slices_Repeat.f (([t264] : List Int)) x10_10).bind fun t268 => (if x4_1.length + t268.length < 17592186044416 then (tale_ReadPicks.l0 kj15 a0 (x4_1 ++ t268) y253 (y253.length : Int) (wrap64 (x17_1 + 1))) else (none))) = some (r1, r2) := H
            have A20 := Aside0.mk A200
            clear A200
            obtain ⟨y265, hy265⟩ : ∃ y_ : List Int, y_ = (([t264] : List Int)) := ⟨_, rfl⟩
            replace H : ((slices_Repeat.f y265 x10_10).bind fun t268 => (if x4_1.length + t268.length < 17592186044416 then (tale_ReadPicks.l0 kj15 a0 (x4_1 ++ t268) y253 (y253.length : Int) (wrap64 (x17_1 + 1))) else (none))) = some (r1, r2) := by first | (rw [hy265]; with_reducible exact H) | (have H2_ := (Option.bind_some _ _).symm.trans H; rw [hy265]; with_reducible exact H2_) | (have H2_ := (Option.bind_some _ _).symm.trans H; with_reducible exact H2_) | with_reducible exact H | (rw [hy265]; exact H) | exact H
            have Ny265 := Aside0.mk hy265
            clear hy265
            replace H := Option.bind_eq_some_iff.mp H
            obtain ⟨t268, A210, H⟩ := H
            replace H : (if x4_1.length + t268.length < 17592186044416 then (tale_ReadPicks.l0 kj15 a0 (x4_1 ++ t268) y253 (y253.length : Int) (wrap64 (x17_1 + 1))) else (none)) = some (r1, r2) := H
            have A21 := Aside0.mk A210
            clear A210
            by_cases c22 : x4_1.length + t268.length < 17592186044416
            ·rw [if_pos c22] at H
             have LMc22 := Aside0.mk c22
             clear c22
             obtain ⟨y271, hy271⟩ : ∃ y_ : List Int, y_ = (x4_1 ++ t268) := ⟨_, rfl⟩
             replace H : (tale_ReadPicks.l0 kj15 a0 y271 y253 (y253.length : Int) (wrap64 (x17_1 + 1))) = some (r1, r2) := by first | (rw [hy271]; with_reducible exact H) | (have H2_ := (Option.bind_some _ _).symm.trans H; rw [hy271]; with_reducible exact H2_) | (have H2_ := (Option.bind_some _ _).symm.trans H; with_reducible exact H2_) | with_reducible exact H | (rw [hy271]; exact H) | exact H
             have Ny271 := Aside0.mk hy271
             clear hy271
             have H' := Aside0.mk H
             clear H
             go_wp2_with (first | ((with_reducible refine gate_callee (f := 29) rfl ?_); refine goesL_ (some 41) rfl rfl Tryd.func29 (by kernel_rfl) rfl #[.string t260] rfl (by (try simp only [List.map_toArray, List.map_cons, List.map_nil]); first | done | rfl | (simp only [List.length_drop, List.length_take]; rfl)) ?_; (with_reducible refine (tale_small.calls t260 t264 _ A20.out HTT.out (upB HB.out)).mono ?_); rintro e w23 ⟨rfl, hb⟩; refine ⟨_, rfl, ?_⟩; have n0_ := Aside0.mk (Kd.R_below (by (with_reducible repeat (first | apply Kd.R_alloc | apply Kd.R_drewN | apply Kd.R_drew)); exact HO_4.out) hb); have n1_ := Aside0.mk (below_step (upB HB.out) hb); clear HO_4; clear HB; have HO_4 := n0_; have HB := n1_; clear n0_ n1_; (try clear hb); (try clear hb2); (try clear hk); (try clear hi)) | ((with_reducible refine gate_dst (N := 42) rfl ?_); (try (refine gate_guard (by rfl) ?_; dsimp only)); refine Kd.R_lit (Kd.int .i64) _ 3 ?hg (N := 42) ?hd (xs := ([t264] : List Int)) (inner := [.int .i64 t264]) (ok := fun _ => True) (okp := fun _ => True) ?hr ?hp (fun _ hk => hk) trivial (Below.refl _ _) (Nat.le_refl _) (by simp) ?_; (case hd => rfl); (case hg => rfl); (case hr => first | (go_simp; done) | (go_simp; rfl)); (case hp => exact (Reps.one (show Kd.M (Kd.int .i64) _ _ _ t264 [.int .i64 t264] from rfl) (Reps.none _ _))); intro v266 w24 ho25 hb hg_ hnew_; clear hg_ hnew_; (first | rw [← Ny265.out] at ho25 | (simp only [Int.reduceToNat] at ho25; rw [← Ny265.out] at ho25)); have n0_ := Aside0.mk (Kd.R_elder' (by (with_reducible repeat (first | apply Kd.R_alloc | apply Kd.R_drewN | apply Kd.R_drew)); exact HO_4.out) (Kd.R_base ho25) hb); have n1_ := Aside0.mk (Kd.R_lower (Kd.R_new' ho25 (Kd.R_lt (by (with_reducible repeat (first | apply Kd.R_alloc | apply Kd.R_drewN | apply Kd.R_drew)); exact HO_4.out))) (below_size (upB HB.out))); have n2_ := Aside0.mk (below_step (upB HB.out) hb); clear HO_4; clear HB; have HO_4 := n0_; have HO267 := n1_; have HB := n2_; clear n0_ n1_ n2_; clear hb ho25; obtain ⟨Ao26, co26, eo26⟩ := Kd.R_slice HO267.out; subst eo26) | ((with_reducible refine gate_callee (f := 62) rfl ?_); refine goesL_ (some 44) rfl rfl Tryd.func62 (by kernel_rfl) rfl #[.slice Ao26 y265.length co26, .int .i64 x10_10] rfl (by (try simp only [List.map_toArray, List.map_cons, List.map_nil]); first | done | rfl | (simp only [List.length_drop, List.length_take]; rfl)) ?_; (with_reducible refine (slices_Repeat.calls _ _ y265 x10_10 t268 _ ?side1 ?side2 A21.out).mono ?_); (case side1 => repeat (first | exact (Kd.R_reads' HO267.out).2.2 | (with_reducible refine Kd.C_alloc ?_ _) | (with_reducible refine Kd.C_drewN ?_ _) | (with_reducible refine Kd.C_drew ?_))); (case side2 => exact (Kd.R_reads' HO267.out).2.1); rintro e w27 ⟨v269, rfl, ho0, hb⟩; refine ⟨_, rfl, ?_⟩; have n0_ := Aside0.mk (Kd.R_elder' (by (with_reducible repeat (first | apply Kd.R_alloc | apply Kd.R_drewN | apply Kd.R_drew)); exact HO_4.out) (Kd.R_base ho0) hb); have n1_ := Aside0.mk (Kd.R_elder' (by (with_reducible repeat (first | apply Kd.R_alloc | apply Kd.R_drewN | apply Kd.R_drew)); exact HO267.out) (Kd.R_base ho0) hb); have n2_ := Aside0.mk (Kd.R_lower (Kd.R_new' (Kd.R_new' ho0 (Kd.R_lt (by (with_reducible repeat (first | apply Kd.R_alloc | apply Kd.R_drewN | apply Kd.R_drew)); exact HO_4.out))) (Kd.R_lt (by (with_reducible repeat (first | apply Kd.R_alloc | apply Kd.R_drewN | apply Kd.R_drew)); exact HO267.out))) (below_size (upB HB.out))); have n3_ := Aside0.mk (below_step (upB HB.out) hb); clear HO_4; clear HO267; clear HB; have HO_4 := n0_; have HO267 := n1_; have HO270 := n2_; have HB := n3_; clear n0_ n1_ n2_ n3_; (try clear hb); (try clear hb2); (try clear hk); (try clear hi); (try clear ho0); obtain ⟨Ao29, co29, eo29⟩ := Kd.R_slice HO270.out; subst eo29) | ((with_reducible refine gate_builtin (b := .append) (xs := #[.tmp 39, .tmp 44]) rfl ?_); (try (refine gate_guard (by rfl) ?_; dsimp only)); at_builtin; refine Kd.R_append_rows (Kd.int .i64) (w0 := w4) w4.heap.size rfl (.tmp 39) (.tmp 44) 34 3 (.int .i64 0) 8 rfl Tryd.underlying34 info3 rfl (by decide) (by omega) u4 x4_1 t268 _ _ _ (fun k_ => some k_ ≠ (.slice Ao26 y265.length co26 : Value).ownBlock ∧ some k_ ≠ (.slice Ao29 t268.length co29 : Value).ownBlock) (fun _ => False) rfl rfl ?aO ?aR (fun _ _ h => h) (fun _ h => h.elim) ?aF ?aB ?aS ?aL ?_; (case aR => repeat (first | exact (Kd.R_reads' HO270.out).2.2 | (with_reducible refine Kd.C_alloc ?_ _) | (with_reducible refine Kd.C_drewN ?_ _) | (with_reducible refine Kd.C_drew ?_))); (case aB => exact (upB HB.out)); (case aF => exact (fun k_ hk => ⟨Kd.fresh' (Kd.R_lt (by (with_reducible repeat (first | apply Kd.R_alloc | apply Kd.R_drewN | apply Kd.R_drew)); exact HO267.out)) k_ hk, Kd.fresh' (Kd.R_lt (by (with_reducible repeat (first | apply Kd.R_alloc | apply Kd.R_drewN | apply Kd.R_drew)); exact HO270.out)) k_ hk⟩)); (case aO => exact (by (with_reducible repeat (first | apply Kd.R_alloc | apply Kd.R_drewN | apply Kd.R_drew)); exact Kd.R_mono HO_4.out (fun _ hk => ⟨hk.1.2, hk.2⟩))); (case aS => exact (below_size (upB HB.out))); (case aL => have := LMc22.out; omega); intro v272 w28 ho hb hg hat; rw [← Ny271.out] at ho; have n0_ := Aside0.mk (Kd.R_after (ok := (fun k_ => some k_ ≠ (.slice Ao29 t268.length co29 : Value).ownBlock)) (by (with_reducible repeat (first | apply Kd.R_alloc | apply Kd.R_drewN | apply Kd.R_drew)); exact Kd.R_mono HO267.out (fun _ hk => ⟨hk.2, hk.1.2⟩)) hg hat); have n1_ := Aside0.mk (Kd.R_after (ok := (fun k_ => some k_ ≠ (.slice Ao26 y265.length co26 : Value).ownBlock)) (by (with_reducible repeat (first | apply Kd.R_alloc | apply Kd.R_drewN | apply Kd.R_drew)); exact Kd.R_mono HO270.out (fun _ hk => ⟨hk.2, hk.1.2⟩)) hg hat); have n2_ := Aside0.mk (hb); have n3_ := Aside0.mk (ho); clear HO267; clear HO270; clear HB; clear HO_4; have HO267 := n0_; have HO270 := n1_; have HB := n2_; have HO273 := n3_; clear n0_ n1_ n2_ n3_; clear ho hb hg hat))
             go_roundg kj15
             case measure => have := HK1.out; have := HJ10.out; have := HJ15.out; omega
             case rel => exact ⟨(y271), (wrap64 (x17_1 + 1)), (by first | rfl | exact congrArg Value.bool (Eq.symm (by assumption)) | (simp; done) | (simp [*]; done)), H', ⟨by have := HK1.out; have := HJ10.out; have := HJ15.out; omega⟩, ⟨by (with_reducible repeat (first | apply Kd.R_alloc | apply Kd.R_drewN | apply Kd.R_drew)); exact Kd.R_mono HO273.out (fun _ hk => trivial)⟩, ⟨upB HB.out⟩⟩
            ·rw [if_neg c22] at H
             exact absurd H (by simp)
      ·rw [if_neg c9] at H
       exact absurd H (by simp)
     ·rw [if_neg c8] at H
      exact absurd H (by simp)
    ·rw [if_neg c7] at H
     have c7b0 : decide (x17_1 < (y253.length : Int)) = false := decide_eq_false c7
     clear c7
     replace H := Option.bind_eq_some_iff.mp H
     obtain ⟨⟨t257, t258⟩, A300, H⟩ := H
     replace H : (if t258 = 0 then (if t257.toList = a0.toList then (some (x4_1, 0)) else (some (([] : List Int), 4))) else (some (([] : List Int), 4))) = some (r1, r2) := H
     have A30 := Aside0.mk A300
     clear A300
     by_cases c31 : t258 = 0
     ·rw [if_pos c31] at H
      have c31b0 : (t258 == 0) = true := beq_iff_eq.mpr c31
      have c31b1 : (t258 != 0) = false := bne_eq_false_iff_eq.mpr c31
      clear c31
      by_cases c32 : t257.toList = a0.toList
      ·rw [if_pos c32] at H
       have c32b0 : (t257.toList == a0.toList) = true := beq_iff_eq.mpr c32
       have c32b1 : (t257.toList != a0.toList) = false := bne_eq_false_iff_eq.mpr c32
       clear c32
       simp only [Option.some.injEq, Prod.mk.injEq] at H
       obtain ⟨rfl, rfl⟩ := H
       obtain ⟨Ao33, co33, eo33⟩ := Kd.R_slice HO_4.out
       subst eo33
       go_wp2_with (first | ((with_reducible refine gate_callee (f := 10) rfl ?_); refine goesL_ (some 49) rfl rfl Tryd.func10 (by kernel_rfl) rfl #[.slice Ao33 x4_1.length co33] rfl (by (try simp only [List.map_toArray, List.map_cons, List.map_nil]); first | done | rfl | (simp only [List.length_drop, List.length_take]; rfl)) ?_; (with_reducible refine (tale_Picks.calls _ _ x4_1 t257 t258 _ ?side1 ?side2 A30.out HTT.out (upB HB.out)).mono ?_); (case side1 => repeat (first | exact (Kd.R_reads' HO_4.out).2.2 | (with_reducible refine Kd.C_alloc ?_ _) | (with_reducible refine Kd.C_drewN ?_ _) | (with_reducible refine Kd.C_drew ?_))); (case side2 => exact (Kd.R_reads' HO_4.out).2.1); rintro e w34 ⟨rfl, hb⟩; refine ⟨_, rfl, ?_⟩; have n0_ := Aside0.mk (Kd.R_below (by (with_reducible repeat (first | apply Kd.R_alloc | apply Kd.R_drewN | apply Kd.R_drew)); exact HO_4.out) hb); have n1_ := Aside0.mk (below_step (upB HB.out) hb); clear HO_4; clear HB; have HO_4 := n0_; have HB := n1_; clear n0_ n1_; (try clear hb); (try clear hb2); (try clear hk); (try clear hi)))
       go_ret2
       exact ⟨_, by first | rfl | (simp [errW_none, errW_some] <;> rfl) | (simp [*, errW_none, errW_some] <;> rfl), by refine Kd.R_lower ?_ HB0.out.size; (with_reducible repeat (first | apply Kd.R_alloc | apply Kd.R_drewN | apply Kd.R_drew)); exact HO_4.out, by refine below_step HB0.out ?_; repeat (first | (with_reducible first | exact HB.out | apply below_alloc | apply pw_below_drewN | apply below_drew1) | exact HB.out)⟩
      ·rw [if_neg c32] at H
       have c32b0 : (t257.toList == a0.toList) = false := beq_eq_false_iff_ne.mpr c32
       have c32b1 : (t257.toList != a0.toList) = true := bne_iff_ne.mpr c32
       simp only [Option.some.injEq, Prod.mk.injEq] at H
       obtain ⟨rfl, rfl⟩ := H
       obtain ⟨Ao35, co35, eo35⟩ := Kd.R_slice HO_4.out
       subst eo35
       go_wp2_with (first | ((with_reducible refine gate_callee (f := 10) rfl ?_); refine goesL_ (some 49) rfl rfl Tryd.func10 (by kernel_rfl) rfl #[.slice Ao35 x4_1.length co35] rfl (by (try simp only [List.map_toArray, List.map_cons, List.map_nil]); first | done | rfl | (simp only [List.length_drop, List.length_take]; rfl)) ?_; (with_reducible refine (tale_Picks.calls _ _ x4_1 t257 t258 _ ?side1 ?side2 A30.out HTT.out (upB HB.out)).mono ?_); (case side1 => repeat (first | exact (Kd.R_reads' HO_4.out).2.2 | (with_reducible refine Kd.C_alloc ?_ _) | (with_reducible refine Kd.C_drewN ?_ _) | (with_reducible refine Kd.C_drew ?_))); (case side2 => exact (Kd.R_reads' HO_4.out).2.1); rintro e w36 ⟨rfl, hb⟩; refine ⟨_, rfl, ?_⟩; have n0_ := Aside0.mk (Kd.R_below (by (with_reducible repeat (first | apply Kd.R_alloc | apply Kd.R_drewN | apply Kd.R_drew)); exact HO_4.out) hb); have n1_ := Aside0.mk (below_step (upB HB.out) hb); clear HO_4; clear HB; have HO_4 := n0_; have HB := n1_; clear n0_ n1_; (try clear hb); (try clear hb2); (try clear hk); (try clear hi)))
       go_ret2
       exact ⟨_, by first | rfl | (simp [errW_none, errW_some] <;> rfl) | (simp [*, errW_none, errW_some] <;> rfl), by first | exact Kd.R_nil _ _ _ _ _ | exact Kd.N_nil _ _ _ _ _ | exact Kd.V_nil _ _ _ _ _ | exact Kd.Q_nil _ _ _ _ _ | exact Kd.S_nil _ _ _ _ _, by refine below_step HB0.out ?_; repeat (first | (with_reducible first | exact HB.out | apply below_alloc | apply pw_below_drewN | apply below_drew1) | exact HB.out)⟩
     ·rw [if_neg c31] at H
      have c31b0 : (t258 == 0) = false := beq_eq_false_iff_ne.mpr c31
      have c31b1 : (t258 != 0) = true := bne_iff_ne.mpr c31
      simp only [Option.some.injEq, Prod.mk.injEq] at H
      obtain ⟨rfl, rfl⟩ := H
      obtain ⟨Ao37, co37, eo37⟩ := Kd.R_slice HO_4.out
      subst eo37
      go_wp2_with (first | ((with_reducible refine gate_callee (f := 10) rfl ?_); refine goesL_ (some 49) rfl rfl Tryd.func10 (by kernel_rfl) rfl #[.slice Ao37 x4_1.length co37] rfl (by (try simp only [List.map_toArray, List.map_cons, List.map_nil]); first | done | rfl | (simp only [List.length_drop, List.length_take]; rfl)) ?_; (with_reducible refine (tale_Picks.calls _ _ x4_1 t257 t258 _ ?side1 ?side2 A30.out HTT.out (upB HB.out)).mono ?_); (case side1 => repeat (first | exact (Kd.R_reads' HO_4.out).2.2 | (with_reducible refine Kd.C_alloc ?_ _) | (with_reducible refine Kd.C_drewN ?_ _) | (with_reducible refine Kd.C_drew ?_))); (case side2 => exact (Kd.R_reads' HO_4.out).2.1); rintro e w38 ⟨rfl, hb⟩; refine ⟨_, rfl, ?_⟩; have n0_ := Aside0.mk (Kd.R_below (by (with_reducible repeat (first | apply Kd.R_alloc | apply Kd.R_drewN | apply Kd.R_drew)); exact HO_4.out) hb); have n1_ := Aside0.mk (below_step (upB HB.out) hb); clear HO_4; clear HB; have HO_4 := n0_; have HB := n1_; clear n0_ n1_; (try clear hb); (try clear hb2); (try clear hk); (try clear hi)))
      go_ret2
      exact ⟨_, by first | rfl | (simp [errW_none, errW_some] <;> rfl) | (simp [*, errW_none, errW_some] <;> rfl), by first | exact Kd.R_nil _ _ _ _ _ | exact Kd.N_nil _ _ _ _ _ | exact Kd.V_nil _ _ _ _ _ | exact Kd.Q_nil _ _ _ _ _ | exact Kd.S_nil _ _ _ _ _, by refine below_step HB0.out ?_; repeat (first | (with_reducible first | exact HB.out | apply below_alloc | apply pw_below_drewN | apply below_drew1) | exact HB.out)⟩
 ·rw [if_neg c3] at H
  exact absurd H (by simp)
end Go.Proofs.YtinmmnljicmppaaDoor.PTaleApart
