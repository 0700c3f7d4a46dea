-- WRITTEN BY A PROGRAM OF THIS SESSION (xprint.sh): the walks of plain functions over contracts of my own.
import Derived.Test.YtcphmelmieedfaaExtAwCounts
import Derived.Test.YtcphmelmieedfaaPScriptCountsx0
import Derived.Test.YtcphmelmieedfaaPScriptCountsx2
import Derived.Test.YtcphmelmieedfaaPScriptCountsx3
import Derived.Test.YtcphmelmieedfaaPScriptCountsx4
namespace Go.Proofs.Ytcphmelmieedfaa.PScriptCounts
open Go.RowKit Go.Proofs.YtcphmelmieedfaaW.PrintWords Go.Proofs.YtcphmelmieedfaaW.PrintLast Go.Proofs.YtcphmelmieedfaaW.PrintMore
attribute [local go_sem] max2_int min2_int max_two min_two max_three min_three max_four min_four   -- for this text's walks alone
set_option linter.unusedVariables false
set_option linter.unusedSimpArgs false

/-! ### revenantlaw22_ScriptCounts: function 9 -/
mutual
def revenantlaw22_ScriptCounts.j0 : Nat → Int → Bool → Int → Int → Int → Int → Int → List (List (S37)) → List Int → Option (Bool)
  | 0, _, _, _, _, _, _, _, _, _ => none
  | k + 1, x1, x22, x162000, x162001, x162002, x162003, x162004, x162005, x162006 => if x22 = true then (some true) else (revenantlaw22_ScriptCounts.l0 k x1 0 0 x162000 x162001 x162002 x162003 x162004 x162005 x162006)
def revenantlaw22_ScriptCounts.l0 : Nat → Int → Int → Int → Int → Int → Int → Int → Int → List (List (S37)) → List Int → Option (Bool)
  | 0, _, _, _, _, _, _, _, _, _, _ => none
  | k + 1, x1, x5, x6, x162000, x162001, x162002, x162003, x162004, x162005, x162006 => if x6 < (x162005.length : Int) then (if 0 ≤ x6 then (revenantlaw22_ScriptCounts.l0 k x1 (wrap64 (x5 + ((rd_L3 x162005 x6).length : Int))) (wrap64 (x6 + 1)) x162000 x162001 x162002 x162003 x162004 x162005 x162006) else (none)) else ((script_Picked.f k x162000 x162001 x162002 x162003 x162004 x162005 x162006).bind fun t165 => ((script_Count.f k x162000 x162001 x162002 x162003 x162004 x162005 x162006).bind fun t168 => (if t168 = x5 then (revenantlaw22_ScriptCounts.j2 k x1 t165 ((t165.length : Int) != (x162005.length : Int)) x162000 x162001 x162002 x162003 x162004 x162005 x162006) else (revenantlaw22_ScriptCounts.j2 k x1 t165 true x162000 x162001 x162002 x162003 x162004 x162005 x162006))))
def revenantlaw22_ScriptCounts.j2 : Nat → Int → List Int → Bool → Int → Int → Int → Int → Int → List (List (S37)) → List Int → Option (Bool)
  | 0, _, _, _, _, _, _, _, _, _, _ => none
  | k + 1, x1, x7, x51, x162000, x162001, x162002, x162003, x162004, x162005, x162006 => if x51 = true then (some false) else (revenantlaw22_ScriptCounts.l1 k x1 x7 0 x162000 x162001 x162002 x162003 x162004 x162005 x162006)
def revenantlaw22_ScriptCounts.l1 : Nat → Int → List Int → Int → Int → Int → Int → Int → Int → List (List (S37)) → List Int → Option (Bool)
  | 0, _, _, _, _, _, _, _, _, _, _ => none
  | k + 1, x1, x7, x8, x162000, x162001, x162002, x162003, x162004, x162005, x162006 => if x8 < (x7.length : Int) then (revenantlaw22_ScriptCounts.l2 k x1 x7 x8 0 x162000 x162001 x162002 x162003 x162004 x162005 x162006) else (revenantlaw22_ScriptCounts.l3 k x1 0 0 0 x162000 x162001 x162002 x162003 x162004 x162005 x162006)
def revenantlaw22_ScriptCounts.l2 : Nat → Int → List Int → Int → Int → Int → Int → Int → Int → Int → List (List (S37)) → List Int → Option (Bool)
  | 0, _, _, _, _, _, _, _, _, _, _, _ => none
  | k + 1, x1, x7, x8, x9, x162000, x162001, x162002, x162003, x162004, x162005, x162006 => if x9 < (x162006.length : Int) then (if 0 ≤ x9 then (if (rd x162006 x9) = x8 then (if 0 ≤ x8 then (if x8 < (x7.length : Int) then (revenantlaw22_ScriptCounts.l2 k x1 (x7.set (x8 : Int).toNat (wrap64 ((rd x7 x8) - 1))) x8 (wrap64 (x9 + 1)) x162000 x162001 x162002 x162003 x162004 x162005 x162006) else (none)) else (none)) else (revenantlaw22_ScriptCounts.l2 k x1 x7 x8 (wrap64 (x9 + 1)) x162000 x162001 x162002 x162003 x162004 x162005 x162006)) else (none)) else (if 0 ≤ x8 then (if x8 < (x7.length : Int) then (if (rd x7 x8) = 0 then (revenantlaw22_ScriptCounts.l1 k x1 x7 (wrap64 (x8 + 1)) x162000 x162001 x162002 x162003 x162004 x162005 x162006) else (some false)) else (none)) else (none))
def revenantlaw22_ScriptCounts.l3 : Nat → Int → Int → Int → Int → Int → Int → Int → Int → Int → List (List (S37)) → List Int → Option (Bool)
  | 0, _, _, _, _, _, _, _, _, _, _, _ => none
  | k + 1, x1, x10, x11, x12, x162000, x162001, x162002, x162003, x162004, x162005, x162006 => if x12 < (x162006.length : Int) then (if 0 ≤ x12 then (if (rd x162006 x12) = x1 then (if (wrap64 ((wrap64 (x12 + 1)) - (wrap64 (x12 + 1)))) > x10 then (revenantlaw22_ScriptCounts.l3 k x1 (wrap64 ((wrap64 (x12 + 1)) - (wrap64 (x12 + 1)))) (wrap64 (x12 + 1)) (wrap64 (x12 + 1)) x162000 x162001 x162002 x162003 x162004 x162005 x162006) else (revenantlaw22_ScriptCounts.l3 k x1 x10 (wrap64 (x12 + 1)) (wrap64 (x12 + 1)) x162000 x162001 x162002 x162003 x162004 x162005 x162006)) else (if (wrap64 ((wrap64 (x12 + 1)) - x11)) > x10 then (revenantlaw22_ScriptCounts.l3 k x1 (wrap64 ((wrap64 (x12 + 1)) - x11)) x11 (wrap64 (x12 + 1)) x162000 x162001 x162002 x162003 x162004 x162005 x162006) else (revenantlaw22_ScriptCounts.l3 k x1 x10 x11 (wrap64 (x12 + 1)) x162000 x162001 x162002 x162003 x162004 x162005 x162006))) else (none)) else ((script_Longest.f k x162000 x162001 x162002 x162003 x162004 x162005 x162006 x1).bind fun t173 => (some (t173 == x10)))
end
def revenantlaw22_ScriptCounts.f (k : Nat) (a0_0 : Int) (a0_1 : Int) (a0_2 : Int) (a0_3 : Int) (a0_4 : Int) (l0_5 : List (List (S37))) (l0_6 : List Int) (a1 : Int) : Option (Bool) := (revenantlaw22_awake.f).bind fun t162 => (if t162 = true then ((revenantlaw22_great.f k a0_0 a0_1 a0_2 a0_3 a0_4 l0_5 l0_6).bind fun t163 => (if t163 = true then (revenantlaw22_ScriptCounts.j0 k a1 true a0_0 a0_1 a0_2 a0_3 a0_4 l0_5 l0_6) else (revenantlaw22_ScriptCounts.j0 k a1 (decide ((l0_6.length : Int) > 4096)) a0_0 a0_1 a0_2 a0_3 a0_4 l0_5 l0_6))) else (some false))
theorem revenantlaw22_ScriptCounts.mono_l : ∀ k, (∀ y0 y1 y2 y3 y4 y5 y6 y7 y8, LeO (revenantlaw22_ScriptCounts.j0 k y0 y1 y2 y3 y4 y5 y6 y7 y8) (revenantlaw22_ScriptCounts.j0 (k + 1) y0 y1 y2 y3 y4 y5 y6 y7 y8)) ∧ (∀ y0 y1 y2 y3 y4 y5 y6 y7 y8 y9, LeO (revenantlaw22_ScriptCounts.l0 k y0 y1 y2 y3 y4 y5 y6 y7 y8 y9) (revenantlaw22_ScriptCounts.l0 (k + 1) y0 y1 y2 y3 y4 y5 y6 y7 y8 y9)) ∧ (∀ y0 y1 y2 y3 y4 y5 y6 y7 y8 y9, LeO (revenantlaw22_ScriptCounts.j2 k y0 y1 y2 y3 y4 y5 y6 y7 y8 y9) (revenantlaw22_ScriptCounts.j2 (k + 1) y0 y1 y2 y3 y4 y5 y6 y7 y8 y9)) ∧ (∀ y0 y1 y2 y3 y4 y5 y6 y7 y8 y9, LeO (revenantlaw22_ScriptCounts.l1 k y0 y1 y2 y3 y4 y5 y6 y7 y8 y9) (revenantlaw22_ScriptCounts.l1 (k + 1) y0 y1 y2 y3 y4 y5 y6 y7 y8 y9)) ∧ (∀ y0 y1 y2 y3 y4 y5 y6 y7 y8 y9 y10, LeO (revenantlaw22_ScriptCounts.l2 k y0 y1 y2 y3 y4 y5 y6 y7 y8 y9 y10) (revenantlaw22_ScriptCounts.l2 (k + 1) y0 y1 y2 y3 y4 y5 y6 y7 y8 y9 y10)) ∧ (∀ y0 y1 y2 y3 y4 y5 y6 y7 y8 y9 y10, LeO (revenantlaw22_ScriptCounts.l3 k y0 y1 y2 y3 y4 y5 y6 y7 y8 y9 y10) (revenantlaw22_ScriptCounts.l3 (k + 1) y0 y1 y2 y3 y4 y5 y6 y7 y8 y9 y10))
  | 0 => ⟨fun _ _ _ _ _ _ _ _ _ r h => by simp [revenantlaw22_ScriptCounts.j0] at h, fun _ _ _ _ _ _ _ _ _ _ r h => by simp [revenantlaw22_ScriptCounts.l0] at h, fun _ _ _ _ _ _ _ _ _ _ r h => by simp [revenantlaw22_ScriptCounts.j2] at h, fun _ _ _ _ _ _ _ _ _ _ r h => by simp [revenantlaw22_ScriptCounts.l1] at h, fun _ _ _ _ _ _ _ _ _ _ _ r h => by simp [revenantlaw22_ScriptCounts.l2] at h, fun _ _ _ _ _ _ _ _ _ _ _ r h => by simp [revenantlaw22_ScriptCounts.l3] at h⟩
  | k + 1 => by
    obtain ⟨ih0, ih1, ih2, ih3, ih4, ih5⟩ := revenantlaw22_ScriptCounts.mono_l k
    refine ⟨?_, ?_, ?_, ?_, ?_, ?_⟩
    · intro y0 y1 y2 y3 y4 y5 y6 y7 y8
      unfold revenantlaw22_ScriptCounts.j0
      repeat' first
      | (with_reducible exact ih0 _ _ _ _ _ _ _ _ _)
      | (with_reducible exact ih1 _ _ _ _ _ _ _ _ _ _)
      | (with_reducible exact ih2 _ _ _ _ _ _ _ _ _ _)
      | (with_reducible exact ih3 _ _ _ _ _ _ _ _ _ _)
      | (with_reducible exact ih4 _ _ _ _ _ _ _ _ _ _ _)
      | (with_reducible exact ih5 _ _ _ _ _ _ _ _ _ _ _)
      | (with_reducible exact revenantlaw22_great.mono _ _ _ _ _ _ _ _)
      | (with_reducible exact script_Count.mono _ _ _ _ _ _ _ _)
      | (with_reducible exact script_Longest.mono _ _ _ _ _ _ _ _ _)
      | (with_reducible exact script_Picked.mono _ _ _ _ _ _ _ _)
      | (with_reducible exact LeO.refl _)
      | (with_reducible exact LeO.none _)
      | (with_reducible refine LeO.ite ?_ ?_)
      | (with_reducible refine LeO.bind ?_ (fun _ => ?_))
      | exact ih0 _ _ _ _ _ _ _ _ _
      | exact ih1 _ _ _ _ _ _ _ _ _ _
      | exact ih2 _ _ _ _ _ _ _ _ _ _
      | exact ih3 _ _ _ _ _ _ _ _ _ _
      | exact ih4 _ _ _ _ _ _ _ _ _ _ _
      | exact ih5 _ _ _ _ _ _ _ _ _ _ _
      | exact revenantlaw22_great.mono _ _ _ _ _ _ _ _
      | exact script_Count.mono _ _ _ _ _ _ _ _
      | exact script_Longest.mono _ _ _ _ _ _ _ _ _
      | exact script_Picked.mono _ _ _ _ _ _ _ _
      | exact LeO.none _
      | refine LeO.ite ?_ ?_
      | refine LeO.bind ?_ (fun _ => ?_)
    · intro y0 y1 y2 y3 y4 y5 y6 y7 y8 y9
      unfold revenantlaw22_ScriptCounts.l0
      repeat' first
      | (with_reducible exact ih0 _ _ _ _ _ _ _ _ _)
      | (with_reducible exact ih1 _ _ _ _ _ _ _ _ _ _)
      | (with_reducible exact ih2 _ _ _ _ _ _ _ _ _ _)
      | (with_reducible exact ih3 _ _ _ _ _ _ _ _ _ _)
      | (with_reducible exact ih4 _ _ _ _ _ _ _ _ _ _ _)
      | (with_reducible exact ih5 _ _ _ _ _ _ _ _ _ _ _)
      | (with_reducible exact revenantlaw22_great.mono _ _ _ _ _ _ _ _)
      | (with_reducible exact script_Count.mono _ _ _ _ _ _ _ _)
      | (with_reducible exact script_Longest.mono _ _ _ _ _ _ _ _ _)
      | (with_reducible exact script_Picked.mono _ _ _ _ _ _ _ _)
      | (with_reducible exact LeO.refl _)
      | (with_reducible exact LeO.none _)
      | (with_reducible refine LeO.ite ?_ ?_)
      | (with_reducible refine LeO.bind ?_ (fun _ => ?_))
      | exact ih0 _ _ _ _ _ _ _ _ _
      | exact ih1 _ _ _ _ _ _ _ _ _ _
      | exact ih2 _ _ _ _ _ _ _ _ _ _
      | exact ih3 _ _ _ _ _ _ _ _ _ _
      | exact ih4 _ _ _ _ _ _ _ _ _ _ _
      | exact ih5 _ _ _ _ _ _ _ _ _ _ _
      | exact revenantlaw22_great.mono _ _ _ _ _ _ _ _
      | exact script_Count.mono _ _ _ _ _ _ _ _
      | exact script_Longest.mono _ _ _ _ _ _ _ _ _
      | exact script_Picked.mono _ _ _ _ _ _ _ _
      | exact LeO.none _
      | refine LeO.ite ?_ ?_
      | refine LeO.bind ?_ (fun _ => ?_)
    · intro y0 y1 y2 y3 y4 y5 y6 y7 y8 y9
      unfold revenantlaw22_ScriptCounts.j2
      repeat' first
      | (with_reducible exact ih0 _ _ _ _ _ _ _ _ _)
      | (with_reducible exact ih1 _ _ _ _ _ _ _ _ _ _)
      | (with_reducible exact ih2 _ _ _ _ _ _ _ _ _ _)
      | (with_reducible exact ih3 _ _ _ _ _ _ _ _ _ _)
      | (with_reducible exact ih4 _ _ _ _ _ _ _ _ _ _ _)
      | (with_reducible exact ih5 _ _ _ _ _ _ _ _ _ _ _)
      | (with_reducible exact revenantlaw22_great.mono _ _ _ _ _ _ _ _)
      | (with_reducible exact script_Count.mono _ _ _ _ _ _ _ _)
      | (with_reducible exact script_Longest.mono _ _ _ _ _ _ _ _ _)
      | (with_reducible exact script_Picked.mono _ _ _ _ _ _ _ _)
      | (with_reducible exact LeO.refl _)
      | (with_reducible exact LeO.none _)
      | (with_reducible refine LeO.ite ?_ ?_)
      | (with_reducible refine LeO.bind ?_ (fun _ => ?_))
      | exact ih0 _ _ _ _ _ _ _ _ _
      | exact ih1 _ _ _ _ _ _ _ _ _ _
      | exact ih2 _ _ _ _ _ _ _ _ _ _
      | exact ih3 _ _ _ _ _ _ _ _ _ _
      | exact ih4 _ _ _ _ _ _ _ _ _ _ _
      | exact ih5 _ _ _ _ _ _ _ _ _ _ _
      | exact revenantlaw22_great.mono _ _ _ _ _ _ _ _
      | exact script_Count.mono _ _ _ _ _ _ _ _
      | exact script_Longest.mono _ _ _ _ _ _ _ _ _
      | exact script_Picked.mono _ _ _ _ _ _ _ _
      | exact LeO.none _
      | refine LeO.ite ?_ ?_
      | refine LeO.bind ?_ (fun _ => ?_)
    · intro y0 y1 y2 y3 y4 y5 y6 y7 y8 y9
      unfold revenantlaw22_ScriptCounts.l1
      repeat' first
      | (with_reducible exact ih0 _ _ _ _ _ _ _ _ _)
      | (with_reducible exact ih1 _ _ _ _ _ _ _ _ _ _)
      | (with_reducible exact ih2 _ _ _ _ _ _ _ _ _ _)
      | (with_reducible exact ih3 _ _ _ _ _ _ _ _ _ _)
      | (with_reducible exact ih4 _ _ _ _ _ _ _ _ _ _ _)
      | (with_reducible exact ih5 _ _ _ _ _ _ _ _ _ _ _)
      | (with_reducible exact revenantlaw22_great.mono _ _ _ _ _ _ _ _)
      | (with_reducible exact script_Count.mono _ _ _ _ _ _ _ _)
      | (with_reducible exact script_Longest.mono _ _ _ _ _ _ _ _ _)
      | (with_reducible exact script_Picked.mono _ _ _ _ _ _ _ _)
      | (with_reducible exact LeO.refl _)
      | (with_reducible exact LeO.none _)
      | (with_reducible refine LeO.ite ?_ ?_)
      | (with_reducible refine LeO.bind ?_ (fun _ => ?_))
      | exact ih0 _ _ _ _ _ _ _ _ _
      | exact ih1 _ _ _ _ _ _ _ _ _ _
      | exact ih2 _ _ _ _ _ _ _ _ _ _
      | exact ih3 _ _ _ _ _ _ _ _ _ _
      | exact ih4 _ _ _ _ _ _ _ _ _ _ _
      | exact ih5 _ _ _ _ _ _ _ _ _ _ _
      | exact revenantlaw22_great.mono _ _ _ _ _ _ _ _
      | exact script_Count.mono _ _ _ _ _ _ _ _
      | exact script_Longest.mono _ _ _ _ _ _ _ _ _
      | exact script_Picked.mono _ _ _ _ _ _ _ _
      | exact LeO.none _
      | refine LeO.ite ?_ ?_
      | refine LeO.bind ?_ (fun _ => ?_)
    · intro y0 y1 y2 y3 y4 y5 y6 y7 y8 y9 y10
      unfold revenantlaw22_ScriptCounts.l2
      repeat' first
      | (with_reducible exact ih0 _ _ _ _ _ _ _ _ _)
      | (with_reducible exact ih1 _ _ _ _ _ _ _ _ _ _)
      | (with_reducible exact ih2 _ _ _ _ _ _ _ _ _ _)
      | (with_reducible exact ih3 _ _ _ _ _ _ _ _ _ _)
      | (with_reducible exact ih4 _ _ _ _ _ _ _ _ _ _ _)
      | (with_reducible exact ih5 _ _ _ _ _ _ _ _ _ _ _)
      | (with_reducible exact revenantlaw22_great.mono _ _ _ _ _ _ _ _)
      | (with_reducible exact script_Count.mono _ _ _ _ _ _ _ _)
      | (with_reducible exact script_Longest.mono _ _ _ _ _ _ _ _ _)
      | (with_reducible exact script_Picked.mono _ _ _ _ _ _ _ _)
      | (with_reducible exact LeO.refl _)
      | (with_reducible exact LeO.none _)
      | (with_reducible refine LeO.ite ?_ ?_)
      | (with_reducible refine LeO.bind ?_ (fun _ => ?_))
      | exact ih0 _ _ _ _ _ _ _ _ _
      | exact ih1 _ _ _ _ _ _ _ _ _ _
      | exact ih2 _ _ _ _ _ _ _ _ _ _
      | exact ih3 _ _ _ _ _ _ _ _ _ _
      | exact ih4 _ _ _ _ _ _ _ _ _ _ _
      | exact ih5 _ _ _ _ _ _ _ _ _ _ _
      | exact revenantlaw22_great.mono _ _ _ _ _ _ _ _
      | exact script_Count.mono _ _ _ _ _ _ _ _
      | exact script_Longest.mono _ _ _ _ _ _ _ _ _
      | exact script_Picked.mono _ _ _ _ _ _ _ _
      | exact LeO.none _
      | refine LeO.ite ?_ ?_
      | refine LeO.bind ?_ (fun _ => ?_)
    · intro y0 y1 y2 y3 y4 y5 y6 y7 y8 y9 y10
      unfold revenantlaw22_ScriptCounts.l3
      repeat' first
      | (with_reducible exact ih0 _ _ _ _ _ _ _ _ _)
      | (with_reducible exact ih1 _ _ _ _ _ _ _ _ _ _)
      | (with_reducible exact ih2 _ _ _ _ _ _ _ _ _ _)
      | (with_reducible exact ih3 _ _ _ _ _ _ _ _ _ _)
      | (with_reducible exact ih4 _ _ _ _ _ _ _ _ _ _ _)
      | (with_reducible exact ih5 _ _ _ _ _ _ _ _ _ _ _)
      | (with_reducible exact revenantlaw22_great.mono _ _ _ _ _ _ _ _)
      | (with_reducible exact script_Count.mono _ _ _ _ _ _ _ _)
      | (with_reducible exact script_Longest.mono _ _ _ _ _ _ _ _ _)
      | (with_reducible exact script_Picked.mono _ _ _ _ _ _ _ _)
      | (with_reducible exact LeO.refl _)
      | (with_reducible exact LeO.none _)
      | (with_reducible refine LeO.ite ?_ ?_)
      | (with_reducible refine LeO.bind ?_ (fun _ => ?_))
      | exact ih0 _ _ _ _ _ _ _ _ _
      | exact ih1 _ _ _ _ _ _ _ _ _ _
      | exact ih2 _ _ _ _ _ _ _ _ _ _
      | exact ih3 _ _ _ _ _ _ _ _ _ _
      | exact ih4 _ _ _ _ _ _ _ _ _ _ _
      | exact ih5 _ _ _ _ _ _ _ _ _ _ _
      | exact revenantlaw22_great.mono _ _ _ _ _ _ _ _
      | exact script_Count.mono _ _ _ _ _ _ _ _
      | exact script_Longest.mono _ _ _ _ _ _ _ _ _
      | exact script_Picked.mono _ _ _ _ _ _ _ _
      | exact LeO.none _
      | refine LeO.ite ?_ ?_
      | refine LeO.bind ?_ (fun _ => ?_)
theorem revenantlaw22_ScriptCounts.mono : ∀ a0 a1 a2 a3 a4 a5 a6 a7 k, LeO (revenantlaw22_ScriptCounts.f k a0 a1 a2 a3 a4 a5 a6 a7) (revenantlaw22_ScriptCounts.f (k + 1) a0 a1 a2 a3 a4 a5 a6 a7) := by
  intro a0 a1 a2 a3 a4 a5 a6 a7 k
  obtain ⟨ih0, ih1, ih2, ih3, ih4, ih5⟩ := revenantlaw22_ScriptCounts.mono_l k
  unfold revenantlaw22_ScriptCounts.f
  repeat' first
      | (with_reducible exact ih0 _ _ _ _ _ _ _ _ _)
      | (with_reducible exact ih1 _ _ _ _ _ _ _ _ _ _)
      | (with_reducible exact ih2 _ _ _ _ _ _ _ _ _ _)
      | (with_reducible exact ih3 _ _ _ _ _ _ _ _ _ _)
      | (with_reducible exact ih4 _ _ _ _ _ _ _ _ _ _ _)
      | (with_reducible exact ih5 _ _ _ _ _ _ _ _ _ _ _)
      | (with_reducible exact revenantlaw22_great.mono _ _ _ _ _ _ _ _)
      | (with_reducible exact script_Count.mono _ _ _ _ _ _ _ _)
      | (with_reducible exact script_Longest.mono _ _ _ _ _ _ _ _ _)
      | (with_reducible exact script_Picked.mono _ _ _ _ _ _ _ _)
      | (with_reducible exact LeO.refl _)
      | (with_reducible exact LeO.none _)
      | (with_reducible refine LeO.ite ?_ ?_)
      | (with_reducible refine LeO.bind ?_ (fun _ => ?_))
      | exact ih0 _ _ _ _ _ _ _ _ _
      | exact ih1 _ _ _ _ _ _ _ _ _ _
      | exact ih2 _ _ _ _ _ _ _ _ _ _
      | exact ih3 _ _ _ _ _ _ _ _ _ _
      | exact ih4 _ _ _ _ _ _ _ _ _ _ _
      | exact ih5 _ _ _ _ _ _ _ _ _ _ _
      | exact revenantlaw22_great.mono _ _ _ _ _ _ _ _
      | exact script_Count.mono _ _ _ _ _ _ _ _
      | exact script_Longest.mono _ _ _ _ _ _ _ _ _
      | exact script_Picked.mono _ _ _ _ _ _ _ _
      | exact LeO.none _
      | refine LeO.ite ?_ ?_
      | refine LeO.bind ?_ (fun _ => ?_)
set_option maxHeartbeats 8000000 in
set_option maxRecDepth 100000 in
theorem revenantlaw22_ScriptCounts.calls (k : Nat) (a0_0 : Int) (a0_1 : Int) (a0_2 : Int) (a0_3 : Int) (a0_4 : Int) (A0_5 : Option Addr) (c0_5 : Nat) (l0_5 : List (List (S37))) (A0_6 : Option Addr) (c0_6 : Nat) (l0_6 : List Int) (a1 : Int) (r : Bool) (w : World) (hr0_5 : Kd.C (Kd.slice 37 k37) w A0_5 l0_5.length l0_5) (hc0_5 : l0_5.length ≤ c0_5) (hr0_6 : Kd.C (Kd.int .i64) w A0_6 l0_6.length l0_6) (hc0_6 : l0_6.length ≤ c0_6) (h : revenantlaw22_ScriptCounts.f k a0_0 a0_1 a0_2 a0_3 a0_4 l0_5 l0_6 a1 = some r) :
    Calls Try.prog 9 #[.agg #[.int .i64 a0_0, .int .i64 a0_1, .int .i64 a0_2, .int .i64 a0_3, .int .i64 a0_4, .slice A0_5 l0_5.length c0_5, .slice A0_6 l0_6.length c0_6], .int .i64 a1] w fun e w' => e = .returned (.bool r) ∧ Below w.heap.size w w' := by
  have hu49 := Try.underlying49
  have HR0_5 := Aside0.mk hr0_5
  have HC0_5 := Aside0.mk hc0_5
  clear hr0_5 hc0_5
  have HR0_6 := Aside0.mk hr0_6
  have HC0_6 := Aside0.mk hc0_6
  clear hr0_6 hc0_6
  have HB := Aside0.mk (Below.refl w.heap.size w)
  have H : ((revenantlaw22_awake.f).bind fun t162 => (if t162 = true then ((revenantlaw22_great.f k a0_0 a0_1 a0_2 a0_3 a0_4 l0_5 l0_6).bind fun t163 => (if t163 = true then (revenantlaw22_ScriptCounts.j0 k a1 true a0_0 a0_1 a0_2 a0_3 a0_4 l0_5 l0_6) else (revenantlaw22_ScriptCounts.j0 k a1 (decide ((l0_6.length : Int) > 4096)) a0_0 a0_1 a0_2 a0_3 a0_4 l0_5 l0_6))) else (some false))) = some r := h
  clear h
  replace H := Option.bind_eq_some_iff.mp H
  obtain ⟨t162, A30, H⟩ := H
  replace H : (if t162 = true then ((revenantlaw22_great.f k a0_0 a0_1 a0_2 a0_3 a0_4 l0_5 l0_6).bind fun t163 => (if t163 = true then (revenantlaw22_ScriptCounts.j0 k a1 true a0_0 a0_1 a0_2 a0_3 a0_4 l0_5 l0_6) else (revenantlaw22_ScriptCounts.j0 k a1 (decide ((l0_6.length : Int) > 4096)) a0_0 a0_1 a0_2 a0_3 a0_4 l0_5 l0_6))) else (some false)) = some r := H
  have A3 := Aside0.mk A30
  clear A30
  by_cases c4 : t162 = true
  · subst c4
    have H1 : ((revenantlaw22_great.f k a0_0 a0_1 a0_2 a0_3 a0_4 l0_5 l0_6).bind fun t163 => (if t163 = true then (revenantlaw22_ScriptCounts.j0 k a1 true a0_0 a0_1 a0_2 a0_3 a0_4 l0_5 l0_6) else (revenantlaw22_ScriptCounts.j0 k a1 (decide ((l0_6.length : Int) > 4096)) a0_0 a0_1 a0_2 a0_3 a0_4 l0_5 l0_6))) = some r := by rw [if_pos rfl] at H; exact H
    clear H
    have H := H1
    clear H1
    have HC5 := Aside0.mk H
    clear H
    go_enter Try.func9, Try.ntmps9
    go_upto_region 3 with (first | ((with_reducible refine gate_dst (N := 2) rfl ?_); (try (refine gate_guard (by rfl) ?_; dsimp only)); refine box_event ?hg (N := 2) ?hd (cs := #[.int .i64 a0_0, .int .i64 a0_1, .int .i64 a0_2, .int .i64 a0_3, .int .i64 a0_4, .slice A0_5 l0_5.length c0_5, .slice A0_6 l0_6.length c0_6]) (t := 49) ?hr ?_; (case hd => rfl); (case hg => rfl); (case hr => first | (go_simp; done) | (go_simp; rfl)); intro gb161 hg w6 hbox hb; have n0_ := Aside0.mk (below_step (by repeat (first | (with_reducible first | exact HB.out | apply below_alloc | apply pw_below_drewN | apply below_drew1) | exact HB.out)) hb); have n1_ := Aside0.mk (hbox); have n2_ := Aside0.mk ((by rw [hg]; exact (below_size (by repeat (first | (with_reducible first | exact HB.out | apply below_alloc | apply pw_below_drewN | apply below_drew1) | exact HB.out))) : w.heap.size ≤ gb161)); have n3_ := Aside0.mk ((by rw [hg]; exact (below_size (by repeat (first | (with_reducible first | exact HB.out | apply below_alloc | apply pw_below_drewN | apply below_drew1) | exact HB.out))) : w.heap.size ≤ gb161)); clear HB; have HB := n0_; have BK161 := n1_; have GW161 := n2_; have GE161 := n3_; clear n0_ n1_ n2_ n3_; clear hb hbox hg) | ((with_reducible refine gate_callee (f := 27) rfl ?_); refine goesL_ (some 13) rfl rfl Try.func27 (by kernel_rfl) rfl #[] rfl (by (try simp only [List.map_toArray, List.map_cons, List.map_nil]); first | done | rfl | (simp only [List.length_drop, List.length_take]; rfl)) ?_; (with_reducible refine (revenantlaw22_awake.calls  true _ A3.out).mono ?_); rintro e w7 ⟨rfl, hb⟩; refine ⟨_, rfl, ?_⟩; have n0_ := Aside0.mk (blk_below (g := gb161) (o := .cells #[.int .i64 a0_0, .int .i64 a0_1, .int .i64 a0_2, .int .i64 a0_3, .int .i64 a0_4, .slice A0_5 l0_5.length c0_5, .slice A0_6 l0_6.length c0_6] 49 (0, 0)) (by (with_reducible repeat (first | refine blk_drewN ?_ _ | refine blk_drew ?_ | refine blk_alloc ?_ _)); exact BK161.out) hb); have n1_ := Aside0.mk (below_step (by repeat (first | (with_reducible first | exact HB.out | apply below_alloc | apply pw_below_drewN | apply below_drew1 | refine below_set ?_ GE161.out) | exact HB.out)) hb); clear BK161; clear HB; have BK161 := n0_; have HB := n1_; clear n0_ n1_; (try clear hb); (try clear hb2); (try clear hk); (try clear hi)))
    (try simp only [Act.put, List.setIfInBounds_toArray, List.set_cons_zero, List.set_cons_succ])
    go_cut [22] (fun v22 wc => ∃ (kq : Nat) (x22_4 : Bool), v22 = .bool x22_4 ∧ Aside0 (revenantlaw22_ScriptCounts.j0 kq a1 x22_4 a0_0 a0_1 a0_2 a0_3 a0_4 l0_5 l0_6 = some r) ∧ Aside0 (kq ≤ k) ∧ Aside0 (wc.heap[gb161]? = some (.cells #[.int .i64 a0_0, .int .i64 a0_1, .int .i64 a0_2, .int .i64 a0_3, .int .i64 a0_4, (.slice A0_5 l0_5.length c0_5), (.slice A0_6 l0_6.length c0_6)] 49 (0, 0))) ∧ Aside0 (Below w.heap.size w wc))
    case first =>
      have H := HC5.out
      clear HC5
      replace H := Option.bind_eq_some_iff.mp H
      obtain ⟨t163, A80, H⟩ := H
      replace H : (if t163 = true then (revenantlaw22_ScriptCounts.j0 k a1 true a0_0 a0_1 a0_2 a0_3 a0_4 l0_5 l0_6) else (revenantlaw22_ScriptCounts.j0 k a1 (decide ((l0_6.length : Int) > 4096)) a0_0 a0_1 a0_2 a0_3 a0_4 l0_5 l0_6)) = some r := H
      have A8 := Aside0.mk A80
      clear A80
      by_cases c9 : t163 = true
      · subst c9
        have H1 : (revenantlaw22_ScriptCounts.j0 k a1 true a0_0 a0_1 a0_2 a0_3 a0_4 l0_5 l0_6) = some r := by rw [if_pos rfl] at H; exact H
        clear H
        have H := H1
        clear H1
        have H' := Aside0.mk H
        clear H
        have hcz10_0 : w7.cell? ⟨gb161, 0, none⟩ = some (.int .i64 a0_0) := (blk_cell BK161.out 0).trans rfl
        have hcz10_1 : w7.cell? ⟨gb161, 1, none⟩ = some (.int .i64 a0_1) := (blk_cell BK161.out 1).trans rfl
        have hcz10_2 : w7.cell? ⟨gb161, 2, none⟩ = some (.int .i64 a0_2) := (blk_cell BK161.out 2).trans rfl
        have hcz10_3 : w7.cell? ⟨gb161, 3, none⟩ = some (.int .i64 a0_3) := (blk_cell BK161.out 3).trans rfl
        have hcz10_4 : w7.cell? ⟨gb161, 4, none⟩ = some (.int .i64 a0_4) := (blk_cell BK161.out 4).trans rfl
        have hcz10_5 : w7.cell? ⟨gb161, 5, none⟩ = some (.slice A0_5 l0_5.length c0_5) := (blk_cell BK161.out 5).trans rfl
        have hcz10_6 : w7.cell? ⟨gb161, 6, none⟩ = some (.slice A0_6 l0_6.length c0_6) := (blk_cell BK161.out 6).trans rfl
        have hfz10_0 := blk_frozen BK161.out 0
        have hfz10_1 := blk_frozen BK161.out 1
        have hfz10_2 := blk_frozen BK161.out 2
        have hfz10_3 := blk_frozen BK161.out 3
        have hfz10_4 := blk_frozen BK161.out 4
        have hfz10_5 := blk_frozen BK161.out 5
        have hfz10_6 := blk_frozen BK161.out 6
        go_wp2_with (first | ((with_reducible refine gate_callee (f := 28) rfl ?_); refine goesL_ (some 16) rfl rfl Try.func28 (by kernel_rfl) rfl #[.agg #[.int .i64 a0_0, .int .i64 a0_1, .int .i64 a0_2, .int .i64 a0_3, .int .i64 a0_4, .slice A0_5 l0_5.length c0_5, .slice A0_6 l0_6.length c0_6]] rfl (by (try simp only [List.map_toArray, List.map_cons, List.map_nil]); first | done | rfl | (simp only [List.length_drop, List.length_take]; rfl)) ?_; (with_reducible refine (revenantlaw22_great.calls k a0_0 a0_1 a0_2 a0_3 a0_4 _ _ l0_5 _ _ l0_6 true _ ?side1 ?side2 ?side3 ?side4 A8.out).mono ?_); (case side1 => repeat (first | exact (Kd.C_below HR0_5.out HB.out) | (with_reducible refine Kd.C_alloc ?_ _) | (with_reducible refine Kd.C_drewN ?_ _) | (with_reducible refine Kd.C_drew ?_))); (case side2 => exact HC0_5.out); (case side3 => repeat (first | exact (Kd.C_below HR0_6.out HB.out) | (with_reducible refine Kd.C_alloc ?_ _) | (with_reducible refine Kd.C_drewN ?_ _) | (with_reducible refine Kd.C_drew ?_))); (case side4 => exact HC0_6.out); rintro e w11 ⟨rfl, hb⟩; refine ⟨_, rfl, ?_⟩; have n0_ := Aside0.mk (blk_below (g := gb161) (o := .cells #[.int .i64 a0_0, .int .i64 a0_1, .int .i64 a0_2, .int .i64 a0_3, .int .i64 a0_4, .slice A0_5 l0_5.length c0_5, .slice A0_6 l0_6.length c0_6] 49 (0, 0)) (by (with_reducible repeat (first | refine blk_drewN ?_ _ | refine blk_drew ?_ | refine blk_alloc ?_ _)); exact BK161.out) hb); have n1_ := Aside0.mk (below_step (by repeat (first | (with_reducible first | exact HB.out | apply below_alloc | apply pw_below_drewN | apply below_drew1 | refine below_set ?_ GE161.out) | exact HB.out)) hb); clear BK161; clear HB; have BK161 := n0_; have HB := n1_; clear n0_ n1_; (try clear hb); (try clear hb2); (try clear hk); (try clear hi)))
        go_meet
        case rel => exact ⟨_, (true), (by first | rfl | (simp; done) | (simp [*]; done)), H', ⟨by first | omega | exact Nat.le_refl _⟩, ⟨by (with_reducible repeat (first | refine blk_drewN ?_ _ | refine blk_drew ?_ | refine blk_alloc ?_ _)); exact BK161.out⟩, ⟨by repeat (first | (with_reducible first | exact HB.out | apply below_alloc | apply pw_below_drewN | apply below_drew1 | refine below_set ?_ GE161.out) | exact HB.out)⟩⟩
      · replace c9 := Bool.eq_false_iff.mpr c9
        subst c9
        have H1 : (revenantlaw22_ScriptCounts.j0 k a1 (decide ((l0_6.length : Int) > 4096)) a0_0 a0_1 a0_2 a0_3 a0_4 l0_5 l0_6) = some r := by rw [if_neg (show ¬ (false = true) by decide)] at H; exact H
        clear H
        have H := H1
        clear H1
        have H' := Aside0.mk H
        clear H
        have hcz12_0 : w7.cell? ⟨gb161, 0, none⟩ = some (.int .i64 a0_0) := (blk_cell BK161.out 0).trans rfl
        have hcz12_1 : w7.cell? ⟨gb161, 1, none⟩ = some (.int .i64 a0_1) := (blk_cell BK161.out 1).trans rfl
        have hcz12_2 : w7.cell? ⟨gb161, 2, none⟩ = some (.int .i64 a0_2) := (blk_cell BK161.out 2).trans rfl
        have hcz12_3 : w7.cell? ⟨gb161, 3, none⟩ = some (.int .i64 a0_3) := (blk_cell BK161.out 3).trans rfl
        have hcz12_4 : w7.cell? ⟨gb161, 4, none⟩ = some (.int .i64 a0_4) := (blk_cell BK161.out 4).trans rfl
        have hcz12_5 : w7.cell? ⟨gb161, 5, none⟩ = some (.slice A0_5 l0_5.length c0_5) := (blk_cell BK161.out 5).trans rfl
        have hcz12_6 : w7.cell? ⟨gb161, 6, none⟩ = some (.slice A0_6 l0_6.length c0_6) := (blk_cell BK161.out 6).trans rfl
        have hfz12_0 := blk_frozen BK161.out 0
        have hfz12_1 := blk_frozen BK161.out 1
        have hfz12_2 := blk_frozen BK161.out 2
        have hfz12_3 := blk_frozen BK161.out 3
        have hfz12_4 := blk_frozen BK161.out 4
        have hfz12_5 := blk_frozen BK161.out 5
        have hfz12_6 := blk_frozen BK161.out 6
        go_wp2_with (first | ((with_reducible refine gate_callee (f := 28) rfl ?_); refine goesL_ (some 16) rfl rfl Try.func28 (by kernel_rfl) rfl #[.agg #[.int .i64 a0_0, .int .i64 a0_1, .int .i64 a0_2, .int .i64 a0_3, .int .i64 a0_4, .slice A0_5 l0_5.length c0_5, .slice A0_6 l0_6.length c0_6]] rfl (by (try simp only [List.map_toArray, List.map_cons, List.map_nil]); first | done | rfl | (simp only [List.length_drop, List.length_take]; rfl)) ?_; (with_reducible refine (revenantlaw22_great.calls k a0_0 a0_1 a0_2 a0_3 a0_4 _ _ l0_5 _ _ l0_6 false _ ?side1 ?side2 ?side3 ?side4 A8.out).mono ?_); (case side1 => repeat (first | exact (Kd.C_below HR0_5.out HB.out) | (with_reducible refine Kd.C_alloc ?_ _) | (with_reducible refine Kd.C_drewN ?_ _) | (with_reducible refine Kd.C_drew ?_))); (case side2 => exact HC0_5.out); (case side3 => repeat (first | exact (Kd.C_below HR0_6.out HB.out) | (with_reducible refine Kd.C_alloc ?_ _) | (with_reducible refine Kd.C_drewN ?_ _) | (with_reducible refine Kd.C_drew ?_))); (case side4 => exact HC0_6.out); rintro e w13 ⟨rfl, hb⟩; refine ⟨_, rfl, ?_⟩; have n0_ := Aside0.mk (blk_below (g := gb161) (o := .cells #[.int .i64 a0_0, .int .i64 a0_1, .int .i64 a0_2, .int .i64 a0_3, .int .i64 a0_4, .slice A0_5 l0_5.length c0_5, .slice A0_6 l0_6.length c0_6] 49 (0, 0)) (by (with_reducible repeat (first | refine blk_drewN ?_ _ | refine blk_drew ?_ | refine blk_alloc ?_ _)); exact BK161.out) hb); have n1_ := Aside0.mk (below_step (by repeat (first | (with_reducible first | exact HB.out | apply below_alloc | apply pw_below_drewN | apply below_drew1 | refine below_set ?_ GE161.out) | exact HB.out)) hb); clear BK161; clear HB; have BK161 := n0_; have HB := n1_; clear n0_ n1_; (try clear hb); (try clear hb2); (try clear hk); (try clear hi); have hcz14_0 : w13.cell? ⟨gb161, 0, none⟩ = some (.int .i64 a0_0) := (blk_cell BK161.out 0).trans rfl; have hcz14_1 : w13.cell? ⟨gb161, 1, none⟩ = some (.int .i64 a0_1) := (blk_cell BK161.out 1).trans rfl; have hcz14_2 : w13.cell? ⟨gb161, 2, none⟩ = some (.int .i64 a0_2) := (blk_cell BK161.out 2).trans rfl; have hcz14_3 : w13.cell? ⟨gb161, 3, none⟩ = some (.int .i64 a0_3) := (blk_cell BK161.out 3).trans rfl; have hcz14_4 : w13.cell? ⟨gb161, 4, none⟩ = some (.int .i64 a0_4) := (blk_cell BK161.out 4).trans rfl; have hcz14_5 : w13.cell? ⟨gb161, 5, none⟩ = some (.slice A0_5 l0_5.length c0_5) := (blk_cell BK161.out 5).trans rfl; have hcz14_6 : w13.cell? ⟨gb161, 6, none⟩ = some (.slice A0_6 l0_6.length c0_6) := (blk_cell BK161.out 6).trans rfl; have hfz14_0 := blk_frozen BK161.out 0; have hfz14_1 := blk_frozen BK161.out 1; have hfz14_2 := blk_frozen BK161.out 2; have hfz14_3 := blk_frozen BK161.out 3; have hfz14_4 := blk_frozen BK161.out 4; have hfz14_5 := blk_frozen BK161.out 5; have hfz14_6 := blk_frozen BK161.out 6))
        go_meet
        case rel => exact ⟨_, (decide ((l0_6.length : Int) > 4096)), (by first | rfl | (simp; done) | (simp [*]; done)), H', ⟨by first | omega | exact Nat.le_refl _⟩, ⟨by (with_reducible repeat (first | refine blk_drewN ?_ _ | refine blk_drew ?_ | refine blk_alloc ?_ _)); exact BK161.out⟩, ⟨by repeat (first | (with_reducible first | exact HB.out | apply below_alloc | apply pw_below_drewN | apply below_drew1 | refine below_set ?_ GE161.out) | exact HB.out)⟩⟩
    case rest =>
      clear HC5
      try clear c2
      try clear p2
      try clear c4
      try clear c9
      try clear hcz10_0
      try clear hcz10_1
      try clear hcz10_2
      try clear hcz10_3
      try clear hcz10_4
      try clear hcz10_5
      try clear hcz10_6
      try clear hcz12_0
      try clear hcz12_1
      try clear hcz12_2
      try clear hcz12_3
      try clear hcz12_4
      try clear hcz12_5
      try clear hcz12_6
      try clear hcz14_0
      try clear hcz14_1
      try clear hcz14_2
      try clear hcz14_3
      try clear hcz14_4
      try clear hcz14_5
      try clear hcz14_6
      try clear hfz10_0
      try clear hfz10_1
      try clear hfz10_2
      try clear hfz10_3
      try clear hfz10_4
      try clear hfz10_5
      try clear hfz10_6
      try clear hfz12_0
      try clear hfz12_1
      try clear hfz12_2
      try clear hfz12_3
      try clear hfz12_4
      try clear hfz12_5
      try clear hfz12_6
      try clear hfz14_0
      try clear hfz14_1
      try clear hfz14_2
      try clear hfz14_3
      try clear hfz14_4
      try clear hfz14_5
      try clear hfz14_6
      obtain ⟨kq, x22_4, rfl, HA, HJ4, BK161, HB⟩ := hcut
      cases kq with
      | zero => exact absurd HA.out (by simp [revenantlaw22_ScriptCounts.j0])
      | succ kj4 =>
        have H := HA.out
        clear HA
        simp only [revenantlaw22_ScriptCounts.j0] at H
        by_cases c15 : x22_4 = true
        · subst c15
          have H1 : (some true) = some r := by rw [if_pos rfl] at H; exact H
          clear H
          have H := H1
          clear H1
          obtain rfl := Option.some.inj H
          go_wp2
          go_ret
          exact ⟨by first | rfl | (simp [errW_none, errW_some] <;> rfl) | (simp [*, errW_none, errW_some] <;> rfl), by repeat (first | (with_reducible first | exact HB.out | apply below_alloc | apply pw_below_drewN | apply below_drew1 | refine below_set ?_ GE161.out) | exact HB.out)⟩
        · replace c15 := Bool.eq_false_iff.mpr c15
          subst c15
          have H1 : (revenantlaw22_ScriptCounts.l0 kj4 a1 0 0 a0_0 a0_1 a0_2 a0_3 a0_4 l0_5 l0_6) = some r := by rw [if_neg (show ¬ (false = true) by decide)] at H; exact H
          clear H
          have H := H1
          clear H1
          have H' := Aside0.mk H
          clear H
          go_wp2
          go_loopg [5, 6] kj4 (fun kq v5 v6 w' => ∃ (x5_2 : Int) (x6_2 : Int), v5 = .int .i64 x5_2 ∧ v6 = .int .i64 x6_2 ∧ Aside0 (revenantlaw22_ScriptCounts.l0 kq a1 x5_2 x6_2 a0_0 a0_1 a0_2 a0_3 a0_4 l0_5 l0_6 = some r) ∧ Aside0 (kq ≤ kj4) ∧ Aside0 (w'.heap[gb161]? = some (.cells #[.int .i64 a0_0, .int .i64 a0_1, .int .i64 a0_2, .int .i64 a0_3, .int .i64 a0_4, (.slice A0_5 l0_5.length c0_5), (.slice A0_6 l0_6.length c0_6)] 49 (0, 0))) ∧ Aside0 (Below w.heap.size w w'))
          case atStart => exact ⟨(0), (0), (by first | rfl | (simp; done) | (simp [*]; done)), (by first | rfl | (simp; done) | (simp [*]; done)), H', ⟨Nat.le_refl _⟩, ⟨by (with_reducible repeat (first | refine blk_drewN ?_ _ | refine blk_drew ?_ | refine blk_alloc ?_ _)); exact BK161.out⟩, ⟨by repeat (first | (with_reducible first | exact HB.out | apply below_alloc | apply pw_below_drewN | apply below_drew1 | refine below_set ?_ GE161.out) | exact HB.out)⟩⟩
          case round =>
            clear H'
            try clear c1
            try clear c2
            try clear p2
            try clear c4
            try clear c9
            try clear c15
            try clear hcz10_0
            try clear hcz10_1
            try clear hcz10_2
            try clear hcz10_3
            try clear hcz10_4
            try clear hcz10_5
            try clear hcz10_6
            try clear hcz12_0
            try clear hcz12_1
            try clear hcz12_2
            try clear hcz12_3
            try clear hcz12_4
            try clear hcz12_5
            try clear hcz12_6
            try clear hcz14_0
            try clear hcz14_1
            try clear hcz14_2
            try clear hcz14_3
            try clear hcz14_4
            try clear hcz14_5
            try clear hcz14_6
            try clear hfz10_0
            try clear hfz10_1
            try clear hfz10_2
            try clear hfz10_3
            try clear hfz10_4
            try clear hfz10_5
            try clear hfz10_6
            try clear hfz12_0
            try clear hfz12_1
            try clear hfz12_2
            try clear hfz12_3
            try clear hfz12_4
            try clear hfz12_5
            try clear hfz12_6
            try clear hfz14_0
            try clear hfz14_1
            try clear hfz14_2
            try clear hfz14_3
            try clear hfz14_4
            try clear hfz14_5
            try clear hfz14_6
            try clear p2
            obtain ⟨x5_2, x6_2, rfl, rfl, HA, HK2, BK161, HB⟩ := hrel
            cases gk with
            | zero => exact absurd HA.out (by simp [revenantlaw22_ScriptCounts.l0])
            | succ k2 =>
              have H := HA.out
              clear HA
              simp only [revenantlaw22_ScriptCounts.l0] at H
              by_cases c16 : x6_2 < (l0_5.length : Int)
              · rw [if_pos c16] at H
                have c16b0 : decide (x6_2 < (l0_5.length : Int)) = true := decide_eq_true c16
                clear c16
                by_cases c17 : 0 ≤ x6_2
                · rw [if_pos c17] at H
                  have c17b0 : decide (0 ≤ x6_2) = true := decide_eq_true c17
                  clear c17
                  have H' := Aside0.mk H
                  clear H
                  have hcz18_0 : wr.cell? ⟨gb161, 0, none⟩ = some (.int .i64 a0_0) := (blk_cell BK161.out 0).trans rfl
                  have hcz18_1 : wr.cell? ⟨gb161, 1, none⟩ = some (.int .i64 a0_1) := (blk_cell BK161.out 1).trans rfl
                  have hcz18_2 : wr.cell? ⟨gb161, 2, none⟩ = some (.int .i64 a0_2) := (blk_cell BK161.out 2).trans rfl
                  have hcz18_3 : wr.cell? ⟨gb161, 3, none⟩ = some (.int .i64 a0_3) := (blk_cell BK161.out 3).trans rfl
                  have hcz18_4 : wr.cell? ⟨gb161, 4, none⟩ = some (.int .i64 a0_4) := (blk_cell BK161.out 4).trans rfl
                  have hcz18_5 : wr.cell? ⟨gb161, 5, none⟩ = some (.slice A0_5 l0_5.length c0_5) := (blk_cell BK161.out 5).trans rfl
                  have hcz18_6 : wr.cell? ⟨gb161, 6, none⟩ = some (.slice A0_6 l0_6.length c0_6) := (blk_cell BK161.out 6).trans rfl
                  have hfz18_0 := blk_frozen BK161.out 0
                  have hfz18_1 := blk_frozen BK161.out 1
                  have hfz18_2 := blk_frozen BK161.out 2
                  have hfz18_3 := blk_frozen BK161.out 3
                  have hfz18_4 := blk_frozen BK161.out 4
                  have hfz18_5 := blk_frozen BK161.out 5
                  have hfz18_6 := blk_frozen BK161.out 6
                  have p164 : 0 ≤ (x6_2 : Int) := of_decide_eq_true (by first | (with_reducible assumption) | assumption)
                  have q164 : x6_2 < (l0_5.length : Int) := of_decide_eq_true (by first | (with_reducible assumption) | assumption)
                  obtain ⟨ad164, A164_0, c164_0, e164, hx164_0, hl164_0, hi164_0⟩ := at_L3 HR0_5.out x6_2 p164 q164
                  cases e164
                  replace hx164_0 := (HB.out.cell (World.block_lt_of_cell? w _ hx164_0)).trans hx164_0
                  have HR164_0 := Aside0.mk hi164_0
                  have HC164_0 := Aside0.mk hl164_0
                  clear hi164_0 hl164_0
                  replace p164 := eq_true p164
                  replace q164 := eq_true q164
                  go_wp2
                  go_roundg k2
                  case measure => have := HJ4.out; have := HK2.out; omega
                  case rel => exact ⟨(wrap64 (x5_2 + ((rd_L3 l0_5 x6_2).length : Int))), (wrap64 (x6_2 + 1)), (by first | rfl | (simp; done) | (simp [*]; done)), (by first | rfl | (simp; done) | (simp [*]; done)), H', ⟨by have := HJ4.out; have := HK2.out; omega⟩, ⟨by (with_reducible repeat (first | refine blk_drewN ?_ _ | refine blk_drew ?_ | refine blk_alloc ?_ _)); exact BK161.out⟩, ⟨by repeat (first | (with_reducible first | exact HB.out | apply below_alloc | apply pw_below_drewN | apply below_drew1 | refine below_set ?_ GE161.out) | exact HB.out)⟩⟩
                · rw [if_neg c17] at H
                  exact absurd H (by simp)
              · rw [if_neg c16] at H
                have c16b0 : decide (x6_2 < (l0_5.length : Int)) = false := decide_eq_false c16
                clear c16
                replace H := Option.bind_eq_some_iff.mp H
                obtain ⟨t165, A190, H⟩ := H
                replace H : ((script_Count.f k2 a0_0 a0_1 a0_2 a0_3 a0_4 l0_5 l0_6).bind fun t168 => (if t168 = x5_2 then (revenantlaw22_ScriptCounts.j2 k2 a1 t165 ((t165.length : Int) != (l0_5.length : Int)) a0_0 a0_1 a0_2 a0_3 a0_4 l0_5 l0_6) else (revenantlaw22_ScriptCounts.j2 k2 a1 t165 true a0_0 a0_1 a0_2 a0_3 a0_4 l0_5 l0_6))) = some r := H
                have A19 := Aside0.mk A190
                clear A190
                have HC20 := Aside0.mk H
                clear H
                have hcz21_0 : wr.cell? ⟨gb161, 0, none⟩ = some (.int .i64 a0_0) := (blk_cell BK161.out 0).trans rfl
                have hcz21_1 : wr.cell? ⟨gb161, 1, none⟩ = some (.int .i64 a0_1) := (blk_cell BK161.out 1).trans rfl
                have hcz21_2 : wr.cell? ⟨gb161, 2, none⟩ = some (.int .i64 a0_2) := (blk_cell BK161.out 2).trans rfl
                have hcz21_3 : wr.cell? ⟨gb161, 3, none⟩ = some (.int .i64 a0_3) := (blk_cell BK161.out 3).trans rfl
                have hcz21_4 : wr.cell? ⟨gb161, 4, none⟩ = some (.int .i64 a0_4) := (blk_cell BK161.out 4).trans rfl
                have hcz21_5 : wr.cell? ⟨gb161, 5, none⟩ = some (.slice A0_5 l0_5.length c0_5) := (blk_cell BK161.out 5).trans rfl
                have hcz21_6 : wr.cell? ⟨gb161, 6, none⟩ = some (.slice A0_6 l0_6.length c0_6) := (blk_cell BK161.out 6).trans rfl
                have hfz21_0 := blk_frozen BK161.out 0
                have hfz21_1 := blk_frozen BK161.out 1
                have hfz21_2 := blk_frozen BK161.out 2
                have hfz21_3 := blk_frozen BK161.out 3
                have hfz21_4 := blk_frozen BK161.out 4
                have hfz21_5 := blk_frozen BK161.out 5
                have hfz21_6 := blk_frozen BK161.out 6
                go_upto_region 11 with (first | ((with_reducible refine gate_callee (f := 33) rfl ?_); refine goesL_ (some 39) rfl rfl Try.func33 (by kernel_rfl) rfl #[.agg #[.int .i64 a0_0, .int .i64 a0_1, .int .i64 a0_2, .int .i64 a0_3, .int .i64 a0_4, .slice A0_5 l0_5.length c0_5, .slice A0_6 l0_6.length c0_6]] rfl (by (try simp only [List.map_toArray, List.map_cons, List.map_nil]); first | done | rfl | (simp only [List.length_drop, List.length_take]; rfl)) ?_; (with_reducible refine (script_Picked.calls k2 a0_0 a0_1 a0_2 a0_3 a0_4 _ _ l0_5 _ _ l0_6 t165 _ ?side1 ?side2 ?side3 ?side4 A19.out).mono ?_); (case side1 => repeat (first | exact (Kd.C_below HR0_5.out HB.out) | (with_reducible refine Kd.C_alloc ?_ _) | (with_reducible refine Kd.C_drewN ?_ _) | (with_reducible refine Kd.C_drew ?_))); (case side2 => exact HC0_5.out); (case side3 => repeat (first | exact (Kd.C_below HR0_6.out HB.out) | (with_reducible refine Kd.C_alloc ?_ _) | (with_reducible refine Kd.C_drewN ?_ _) | (with_reducible refine Kd.C_drew ?_))); (case side4 => exact HC0_6.out); rintro e w22 ⟨v166, rfl, ho0, hb⟩; refine ⟨_, rfl, ?_⟩; have n0_ := Aside0.mk (Kd.R_lower ho0 (below_size (by repeat (first | (with_reducible first | exact HB.out | apply below_alloc | apply pw_below_drewN | apply below_drew1 | refine below_set ?_ GE161.out) | exact HB.out)))); have n1_ := Aside0.mk (blk_below (g := gb161) (o := .cells #[.int .i64 a0_0, .int .i64 a0_1, .int .i64 a0_2, .int .i64 a0_3, .int .i64 a0_4, .slice A0_5 l0_5.length c0_5, .slice A0_6 l0_6.length c0_6] 49 (0, 0)) (by (with_reducible repeat (first | refine blk_drewN ?_ _ | refine blk_drew ?_ | refine blk_alloc ?_ _)); exact BK161.out) hb); have n2_ := Aside0.mk (below_step (by repeat (first | (with_reducible first | exact HB.out | apply below_alloc | apply pw_below_drewN | apply below_drew1 | refine below_set ?_ GE161.out) | exact HB.out)) hb); clear BK161; clear HB; have HO167 := n0_; have BK161 := n1_; have HB := n2_; clear n0_ n1_ n2_; (try clear hb); (try clear hb2); (try clear hk); (try clear hi); (try clear ho0)))
                (try simp only [Act.put, List.setIfInBounds_toArray, List.set_cons_zero, List.set_cons_succ])
                go_cut [51] (fun v51 wc => ∃ (kq : Nat) (x51_19 : Bool), v51 = .bool x51_19 ∧ Aside0 (revenantlaw22_ScriptCounts.j2 kq a1 t165 x51_19 a0_0 a0_1 a0_2 a0_3 a0_4 l0_5 l0_6 = some r) ∧ Aside0 (kq ≤ k2) ∧ Aside0 (Kd.R (Kd.int .i64) 3 wc w.heap.size (fun _ => True) v166 t165) ∧ Aside0 (wc.heap[gb161]? = some (.cells #[.int .i64 a0_0, .int .i64 a0_1, .int .i64 a0_2, .int .i64 a0_3, .int .i64 a0_4, (.slice A0_5 l0_5.length c0_5), (.slice A0_6 l0_6.length c0_6)] 49 (0, 0))) ∧ Aside0 (Below w.heap.size w wc))
                case first =>
                  have H := HC20.out
                  clear HC20
                  replace H := Option.bind_eq_some_iff.mp H
                  obtain ⟨t168, A230, H⟩ := H
                  replace H : (if t168 = x5_2 then (revenantlaw22_ScriptCounts.j2 k2 a1 t165 ((t165.length : Int) != (l0_5.length : Int)) a0_0 a0_1 a0_2 a0_3 a0_4 l0_5 l0_6) else (revenantlaw22_ScriptCounts.j2 k2 a1 t165 true a0_0 a0_1 a0_2 a0_3 a0_4 l0_5 l0_6)) = some r := H
                  have A23 := Aside0.mk A230
                  clear A230
                  by_cases c24 : t168 = x5_2
                  · rw [if_pos c24] at H
                    have c24b0 : (t168 == x5_2) = true := beq_iff_eq.mpr c24
                    have c24b1 : (t168 != x5_2) = false := bne_eq_false_iff_eq.mpr c24
                    clear c24
                    (first | rw [c24b0] | (simp only [i64_w, i32_w]; rw [c24b0]) | skip)
                    have H' := Aside0.mk H
                    clear H
                    have hcz25_0 : w22.cell? ⟨gb161, 0, none⟩ = some (.int .i64 a0_0) := (blk_cell BK161.out 0).trans rfl
                    have hcz25_1 : w22.cell? ⟨gb161, 1, none⟩ = some (.int .i64 a0_1) := (blk_cell BK161.out 1).trans rfl
                    have hcz25_2 : w22.cell? ⟨gb161, 2, none⟩ = some (.int .i64 a0_2) := (blk_cell BK161.out 2).trans rfl
                    have hcz25_3 : w22.cell? ⟨gb161, 3, none⟩ = some (.int .i64 a0_3) := (blk_cell BK161.out 3).trans rfl
                    have hcz25_4 : w22.cell? ⟨gb161, 4, none⟩ = some (.int .i64 a0_4) := (blk_cell BK161.out 4).trans rfl
                    have hcz25_5 : w22.cell? ⟨gb161, 5, none⟩ = some (.slice A0_5 l0_5.length c0_5) := (blk_cell BK161.out 5).trans rfl
                    have hcz25_6 : w22.cell? ⟨gb161, 6, none⟩ = some (.slice A0_6 l0_6.length c0_6) := (blk_cell BK161.out 6).trans rfl
                    have hfz25_0 := blk_frozen BK161.out 0
                    have hfz25_1 := blk_frozen BK161.out 1
                    have hfz25_2 := blk_frozen BK161.out 2
                    have hfz25_3 := blk_frozen BK161.out 3
                    have hfz25_4 := blk_frozen BK161.out 4
                    have hfz25_5 := blk_frozen BK161.out 5
                    have hfz25_6 := blk_frozen BK161.out 6
                    go_wp2_with (first | ((with_reducible refine gate_callee (f := 26) rfl ?_); refine goesL_ (some 41) rfl rfl Try.func26 (by kernel_rfl) rfl #[.agg #[.int .i64 a0_0, .int .i64 a0_1, .int .i64 a0_2, .int .i64 a0_3, .int .i64 a0_4, .slice A0_5 l0_5.length c0_5, .slice A0_6 l0_6.length c0_6]] rfl (by (try simp only [List.map_toArray, List.map_cons, List.map_nil]); first | done | rfl | (simp only [List.length_drop, List.length_take]; rfl)) ?_; (with_reducible refine (script_Count.calls k2 a0_0 a0_1 a0_2 a0_3 a0_4 _ _ l0_5 _ _ l0_6 t168 _ ?side1 ?side2 ?side3 ?side4 A23.out).mono ?_); (case side1 => repeat (first | exact (Kd.C_below HR0_5.out HB.out) | (with_reducible refine Kd.C_alloc ?_ _) | (with_reducible refine Kd.C_drewN ?_ _) | (with_reducible refine Kd.C_drew ?_))); (case side2 => exact HC0_5.out); (case side3 => repeat (first | exact (Kd.C_below HR0_6.out HB.out) | (with_reducible refine Kd.C_alloc ?_ _) | (with_reducible refine Kd.C_drewN ?_ _) | (with_reducible refine Kd.C_drew ?_))); (case side4 => exact HC0_6.out); rintro e w26 ⟨rfl, hb⟩; refine ⟨_, rfl, ?_⟩; have n0_ := Aside0.mk (Kd.R_below (by (with_reducible repeat (first | apply Kd.R_alloc | apply Kd.R_drewN | apply Kd.R_drew)); exact HO167.out) hb); have n1_ := Aside0.mk (blk_below (g := gb161) (o := .cells #[.int .i64 a0_0, .int .i64 a0_1, .int .i64 a0_2, .int .i64 a0_3, .int .i64 a0_4, .slice A0_5 l0_5.length c0_5, .slice A0_6 l0_6.length c0_6] 49 (0, 0)) (by (with_reducible repeat (first | refine blk_drewN ?_ _ | refine blk_drew ?_ | refine blk_alloc ?_ _)); exact BK161.out) hb); have n2_ := Aside0.mk (below_step (by repeat (first | (with_reducible first | exact HB.out | apply below_alloc | apply pw_below_drewN | apply below_drew1 | refine below_set ?_ GE161.out) | exact HB.out)) hb); clear HO167; clear BK161; clear HB; have HO167 := n0_; have BK161 := n1_; have HB := n2_; clear n0_ n1_ n2_; (try clear hb); (try clear hb2); (try clear hk); (try clear hi); obtain ⟨Ao27, co27, eo27⟩ := Kd.R_slice HO167.out; subst eo27; have hcz28_0 : w26.cell? ⟨gb161, 0, none⟩ = some (.int .i64 a0_0) := (blk_cell BK161.out 0).trans rfl; have hcz28_1 : w26.cell? ⟨gb161, 1, none⟩ = some (.int .i64 a0_1) := (blk_cell BK161.out 1).trans rfl; have hcz28_2 : w26.cell? ⟨gb161, 2, none⟩ = some (.int .i64 a0_2) := (blk_cell BK161.out 2).trans rfl; have hcz28_3 : w26.cell? ⟨gb161, 3, none⟩ = some (.int .i64 a0_3) := (blk_cell BK161.out 3).trans rfl; have hcz28_4 : w26.cell? ⟨gb161, 4, none⟩ = some (.int .i64 a0_4) := (blk_cell BK161.out 4).trans rfl; have hcz28_5 : w26.cell? ⟨gb161, 5, none⟩ = some (.slice A0_5 l0_5.length c0_5) := (blk_cell BK161.out 5).trans rfl; have hcz28_6 : w26.cell? ⟨gb161, 6, none⟩ = some (.slice A0_6 l0_6.length c0_6) := (blk_cell BK161.out 6).trans rfl; have hfz28_0 := blk_frozen BK161.out 0; have hfz28_1 := blk_frozen BK161.out 1; have hfz28_2 := blk_frozen BK161.out 2; have hfz28_3 := blk_frozen BK161.out 3; have hfz28_4 := blk_frozen BK161.out 4; have hfz28_5 := blk_frozen BK161.out 5; have hfz28_6 := blk_frozen BK161.out 6))
                    go_meet
                    case rel => exact ⟨_, (((t165.length : Int) != (l0_5.length : Int))), (by first | rfl | (simp; done) | (simp [*]; done)), H', ⟨by have := HJ4.out; have := HK2.out; first | omega | exact Nat.le_refl _⟩, ⟨by (with_reducible repeat (first | apply Kd.R_alloc | apply Kd.R_drewN | apply Kd.R_drew)); exact HO167.out⟩, ⟨by (with_reducible repeat (first | refine blk_drewN ?_ _ | refine blk_drew ?_ | refine blk_alloc ?_ _)); exact BK161.out⟩, ⟨by repeat (first | (with_reducible first | exact HB.out | apply below_alloc | apply pw_below_drewN | apply below_drew1 | refine below_set ?_ GE161.out) | exact HB.out)⟩⟩
                  · rw [if_neg c24] at H
                    have c24b0 : (t168 == x5_2) = false := beq_eq_false_iff_ne.mpr c24
                    have c24b1 : (t168 != x5_2) = true := bne_iff_ne.mpr c24
                    (first | rw [c24b0] | (simp only [i64_w, i32_w]; rw [c24b0]) | skip)
                    have H' := Aside0.mk H
                    clear H
                    have hcz29_0 : w22.cell? ⟨gb161, 0, none⟩ = some (.int .i64 a0_0) := (blk_cell BK161.out 0).trans rfl
                    have hcz29_1 : w22.cell? ⟨gb161, 1, none⟩ = some (.int .i64 a0_1) := (blk_cell BK161.out 1).trans rfl
                    have hcz29_2 : w22.cell? ⟨gb161, 2, none⟩ = some (.int .i64 a0_2) := (blk_cell BK161.out 2).trans rfl
                    have hcz29_3 : w22.cell? ⟨gb161, 3, none⟩ = some (.int .i64 a0_3) := (blk_cell BK161.out 3).trans rfl
                    have hcz29_4 : w22.cell? ⟨gb161, 4, none⟩ = some (.int .i64 a0_4) := (blk_cell BK161.out 4).trans rfl
                    have hcz29_5 : w22.cell? ⟨gb161, 5, none⟩ = some (.slice A0_5 l0_5.length c0_5) := (blk_cell BK161.out 5).trans rfl
                    have hcz29_6 : w22.cell? ⟨gb161, 6, none⟩ = some (.slice A0_6 l0_6.length c0_6) := (blk_cell BK161.out 6).trans rfl
                    have hfz29_0 := blk_frozen BK161.out 0
                    have hfz29_1 := blk_frozen BK161.out 1
                    have hfz29_2 := blk_frozen BK161.out 2
                    have hfz29_3 := blk_frozen BK161.out 3
                    have hfz29_4 := blk_frozen BK161.out 4
                    have hfz29_5 := blk_frozen BK161.out 5
                    have hfz29_6 := blk_frozen BK161.out 6
                    go_wp2_with (first | ((with_reducible refine gate_callee (f := 26) rfl ?_); refine goesL_ (some 41) rfl rfl Try.func26 (by kernel_rfl) rfl #[.agg #[.int .i64 a0_0, .int .i64 a0_1, .int .i64 a0_2, .int .i64 a0_3, .int .i64 a0_4, .slice A0_5 l0_5.length c0_5, .slice A0_6 l0_6.length c0_6]] rfl (by (try simp only [List.map_toArray, List.map_cons, List.map_nil]); first | done | rfl | (simp only [List.length_drop, List.length_take]; rfl)) ?_; (with_reducible refine (script_Count.calls k2 a0_0 a0_1 a0_2 a0_3 a0_4 _ _ l0_5 _ _ l0_6 t168 _ ?side1 ?side2 ?side3 ?side4 A23.out).mono ?_); (case side1 => repeat (first | exact (Kd.C_below HR0_5.out HB.out) | (with_reducible refine Kd.C_alloc ?_ _) | (with_reducible refine Kd.C_drewN ?_ _) | (with_reducible refine Kd.C_drew ?_))); (case side2 => exact HC0_5.out); (case side3 => repeat (first | exact (Kd.C_below HR0_6.out HB.out) | (with_reducible refine Kd.C_alloc ?_ _) | (with_reducible refine Kd.C_drewN ?_ _) | (with_reducible refine Kd.C_drew ?_))); (case side4 => exact HC0_6.out); rintro e w30 ⟨rfl, hb⟩; refine ⟨_, rfl, ?_⟩; have n0_ := Aside0.mk (Kd.R_below (by (with_reducible repeat (first | apply Kd.R_alloc | apply Kd.R_drewN | apply Kd.R_drew)); exact HO167.out) hb); have n1_ := Aside0.mk (blk_below (g := gb161) (o := .cells #[.int .i64 a0_0, .int .i64 a0_1, .int .i64 a0_2, .int .i64 a0_3, .int .i64 a0_4, .slice A0_5 l0_5.length c0_5, .slice A0_6 l0_6.length c0_6] 49 (0, 0)) (by (with_reducible repeat (first | refine blk_drewN ?_ _ | refine blk_drew ?_ | refine blk_alloc ?_ _)); exact BK161.out) hb); have n2_ := Aside0.mk (below_step (by repeat (first | (with_reducible first | exact HB.out | apply below_alloc | apply pw_below_drewN | apply below_drew1 | refine below_set ?_ GE161.out) | exact HB.out)) hb); clear HO167; clear BK161; clear HB; have HO167 := n0_; have BK161 := n1_; have HB := n2_; clear n0_ n1_ n2_; (try clear hb); (try clear hb2); (try clear hk); (try clear hi)))
                    go_meet
                    case rel => exact ⟨_, (true), (by first | rfl | (simp; done) | (simp [*]; done)), H', ⟨by have := HJ4.out; have := HK2.out; first | omega | exact Nat.le_refl _⟩, ⟨by (with_reducible repeat (first | apply Kd.R_alloc | apply Kd.R_drewN | apply Kd.R_drew)); exact HO167.out⟩, ⟨by (with_reducible repeat (first | refine blk_drewN ?_ _ | refine blk_drew ?_ | refine blk_alloc ?_ _)); exact BK161.out⟩, ⟨by repeat (first | (with_reducible first | exact HB.out | apply below_alloc | apply pw_below_drewN | apply below_drew1 | refine below_set ?_ GE161.out) | exact HB.out)⟩⟩
                case rest =>
                  clear HC20
                  try clear c1
                  try clear p1
                  try clear q1
                  try clear hx1
                  try clear c2
                  try clear p2
                  try clear c3
                  try clear c4
                  try clear p6
                  try clear c9
                  try clear c15
                  try clear c16
                  try clear c16b0
                  try clear p16
                  try clear q16
                  try clear hx16
                  try clear c17
                  try clear c17b0
                  try clear c24
                  try clear c24b0
                  try clear c24b1
                  try clear c26
                  try clear c27
                  try clear c28
                  try clear hcz10_0
                  try clear hcz10_1
                  try clear hcz10_2
                  try clear hcz10_3
                  try clear hcz10_4
                  try clear hcz10_5
                  try clear hcz10_6
                  try clear hcz12_0
                  try clear hcz12_1
                  try clear hcz12_2
                  try clear hcz12_3
                  try clear hcz12_4
                  try clear hcz12_5
                  try clear hcz12_6
                  try clear hcz14_0
                  try clear hcz14_1
                  try clear hcz14_2
                  try clear hcz14_3
                  try clear hcz14_4
                  try clear hcz14_5
                  try clear hcz14_6
                  try clear hcz18_0
                  try clear hcz18_1
                  try clear hcz18_2
                  try clear hcz18_3
                  try clear hcz18_4
                  try clear hcz18_5
                  try clear hcz18_6
                  try clear hcz21_0
                  try clear hcz21_1
                  try clear hcz21_2
                  try clear hcz21_3
                  try clear hcz21_4
                  try clear hcz21_5
                  try clear hcz21_6
                  try clear hcz25_0
                  try clear hcz25_1
                  try clear hcz25_2
                  try clear hcz25_3
                  try clear hcz25_4
                  try clear hcz25_5
                  try clear hcz25_6
                  try clear hcz28_0
                  try clear hcz28_1
                  try clear hcz28_2
                  try clear hcz28_3
                  try clear hcz28_4
                  try clear hcz28_5
                  try clear hcz28_6
                  try clear hcz29_0
                  try clear hcz29_1
                  try clear hcz29_2
                  try clear hcz29_3
                  try clear hcz29_4
                  try clear hcz29_5
                  try clear hcz29_6
                  try clear hfz10_0
                  try clear hfz10_1
                  try clear hfz10_2
                  try clear hfz10_3
                  try clear hfz10_4
                  try clear hfz10_5
                  try clear hfz10_6
                  try clear hfz12_0
                  try clear hfz12_1
                  try clear hfz12_2
                  try clear hfz12_3
                  try clear hfz12_4
                  try clear hfz12_5
                  try clear hfz12_6
                  try clear hfz14_0
                  try clear hfz14_1
                  try clear hfz14_2
                  try clear hfz14_3
                  try clear hfz14_4
                  try clear hfz14_5
                  try clear hfz14_6
                  try clear hfz18_0
                  try clear hfz18_1
                  try clear hfz18_2
                  try clear hfz18_3
                  try clear hfz18_4
                  try clear hfz18_5
                  try clear hfz18_6
                  try clear hfz21_0
                  try clear hfz21_1
                  try clear hfz21_2
                  try clear hfz21_3
                  try clear hfz21_4
                  try clear hfz21_5
                  try clear hfz21_6
                  try clear hfz25_0
                  try clear hfz25_1
                  try clear hfz25_2
                  try clear hfz25_3
                  try clear hfz25_4
                  try clear hfz25_5
                  try clear hfz25_6
                  try clear hfz28_0
                  try clear hfz28_1
                  try clear hfz28_2
                  try clear hfz28_3
                  try clear hfz28_4
                  try clear hfz28_5
                  try clear hfz28_6
                  try clear hfz29_0
                  try clear hfz29_1
                  try clear hfz29_2
                  try clear hfz29_3
                  try clear hfz29_4
                  try clear hfz29_5
                  try clear hfz29_6
                  try clear hx164_0
                  try clear p164
                  try clear p2
                  try clear q164
                  obtain ⟨kq, x51_19, rfl, HA, HJ19, HO_7, BK161, HB⟩ := hcut
                  cases kq with
                  | zero => exact absurd HA.out (by simp [revenantlaw22_ScriptCounts.j2])
                  | succ kj19 =>
                    have H := HA.out
                    clear HA
                    simp only [revenantlaw22_ScriptCounts.j2] at H
                    by_cases c31 : x51_19 = true
                    · subst c31
                      have H1 : (some false) = some r := by rw [if_pos rfl] at H; exact H
                      clear H
                      have H := H1
                      clear H1
                      obtain rfl := Option.some.inj H
                      go_wp2
                      go_ret
                      exact ⟨by first | rfl | (simp [errW_none, errW_some] <;> rfl) | (simp [*, errW_none, errW_some] <;> rfl), by repeat (first | (with_reducible first | exact HB.out | apply below_alloc | apply pw_below_drewN | apply below_drew1 | refine below_set ?_ GE161.out) | exact HB.out)⟩
                    · replace c31 := Bool.eq_false_iff.mpr c31
                      subst c31
                      have H1 : (revenantlaw22_ScriptCounts.l1 kj19 a1 t165 0 a0_0 a0_1 a0_2 a0_3 a0_4 l0_5 l0_6) = some r := by rw [if_neg (show ¬ (false = true) by decide)] at H; exact H
                      clear H
                      have H := H1
                      clear H1
                      have H' := Aside0.mk H
                      clear H
                      go_wp2
                      go_loopg [8] kj19 (fun kq v8 w' => ∃ (x7_4 : List Int) (x8_4 : Int), v8 = .int .i64 x8_4 ∧ Aside0 (revenantlaw22_ScriptCounts.l1 kq a1 x7_4 x8_4 a0_0 a0_1 a0_2 a0_3 a0_4 l0_5 l0_6 = some r) ∧ Aside0 (kq ≤ kj19) ∧ Aside0 (Kd.R (Kd.int .i64) 3 w' w.heap.size (fun _ => True) v166 x7_4) ∧ Aside0 (w'.heap[gb161]? = some (.cells #[.int .i64 a0_0, .int .i64 a0_1, .int .i64 a0_2, .int .i64 a0_3, .int .i64 a0_4, (.slice A0_5 l0_5.length c0_5), (.slice A0_6 l0_6.length c0_6)] 49 (0, 0))) ∧ Aside0 (Below w.heap.size w w'))
                      case atStart => exact ⟨(t165), (0), (by first | rfl | (simp; done) | (simp [*]; done)), H', ⟨Nat.le_refl _⟩, ⟨by (with_reducible repeat (first | apply Kd.R_alloc | apply Kd.R_drewN | apply Kd.R_drew)); exact HO_7.out⟩, ⟨by (with_reducible repeat (first | refine blk_drewN ?_ _ | refine blk_drew ?_ | refine blk_alloc ?_ _)); exact BK161.out⟩, ⟨by repeat (first | (with_reducible first | exact HB.out | apply below_alloc | apply pw_below_drewN | apply below_drew1 | refine below_set ?_ GE161.out) | exact HB.out)⟩⟩
                      case round =>
                        clear H'
                        try clear c1
                        try clear p1
                        try clear q1
                        try clear hx1
                        try clear c2
                        try clear p2
                        try clear c3
                        try clear c4
                        try clear p6
                        try clear c9
                        try clear c15
                        try clear c16
                        try clear c16b0
                        try clear p16
                        try clear q16
                        try clear hx16
                        try clear c17
                        try clear c17b0
                        try clear c24
                        try clear c24b0
                        try clear c24b1
                        try clear c26
                        try clear c27
                        try clear c28
                        try clear c31
                        try clear hcz10_0
                        try clear hcz10_1
                        try clear hcz10_2
                        try clear hcz10_3
                        try clear hcz10_4
                        try clear hcz10_5
                        try clear hcz10_6
                        try clear hcz12_0
                        try clear hcz12_1
                        try clear hcz12_2
                        try clear hcz12_3
                        try clear hcz12_4
                        try clear hcz12_5
                        try clear hcz12_6
                        try clear hcz14_0
                        try clear hcz14_1
                        try clear hcz14_2
                        try clear hcz14_3
                        try clear hcz14_4
                        try clear hcz14_5
                        try clear hcz14_6
                        try clear hcz18_0
                        try clear hcz18_1
                        try clear hcz18_2
                        try clear hcz18_3
                        try clear hcz18_4
                        try clear hcz18_5
                        try clear hcz18_6
                        try clear hcz21_0
                        try clear hcz21_1
                        try clear hcz21_2
                        try clear hcz21_3
                        try clear hcz21_4
                        try clear hcz21_5
                        try clear hcz21_6
                        try clear hcz25_0
                        try clear hcz25_1
                        try clear hcz25_2
                        try clear hcz25_3
                        try clear hcz25_4
                        try clear hcz25_5
                        try clear hcz25_6
                        try clear hcz28_0
                        try clear hcz28_1
                        try clear hcz28_2
                        try clear hcz28_3
                        try clear hcz28_4
                        try clear hcz28_5
                        try clear hcz28_6
                        try clear hcz29_0
                        try clear hcz29_1
                        try clear hcz29_2
                        try clear hcz29_3
                        try clear hcz29_4
                        try clear hcz29_5
                        try clear hcz29_6
                        try clear hfz10_0
                        try clear hfz10_1
                        try clear hfz10_2
                        try clear hfz10_3
                        try clear hfz10_4
                        try clear hfz10_5
                        try clear hfz10_6
                        try clear hfz12_0
                        try clear hfz12_1
                        try clear hfz12_2
                        try clear hfz12_3
                        try clear hfz12_4
                        try clear hfz12_5
                        try clear hfz12_6
                        try clear hfz14_0
                        try clear hfz14_1
                        try clear hfz14_2
                        try clear hfz14_3
                        try clear hfz14_4
                        try clear hfz14_5
                        try clear hfz14_6
                        try clear hfz18_0
                        try clear hfz18_1
                        try clear hfz18_2
                        try clear hfz18_3
                        try clear hfz18_4
                        try clear hfz18_5
                        try clear hfz18_6
                        try clear hfz21_0
                        try clear hfz21_1
                        try clear hfz21_2
                        try clear hfz21_3
                        try clear hfz21_4
                        try clear hfz21_5
                        try clear hfz21_6
                        try clear hfz25_0
                        try clear hfz25_1
                        try clear hfz25_2
                        try clear hfz25_3
                        try clear hfz25_4
                        try clear hfz25_5
                        try clear hfz25_6
                        try clear hfz28_0
                        try clear hfz28_1
                        try clear hfz28_2
                        try clear hfz28_3
                        try clear hfz28_4
                        try clear hfz28_5
                        try clear hfz28_6
                        try clear hfz29_0
                        try clear hfz29_1
                        try clear hfz29_2
                        try clear hfz29_3
                        try clear hfz29_4
                        try clear hfz29_5
                        try clear hfz29_6
                        try clear hx164_0
                        try clear p1
                        try clear p16
                        try clear p164
                        try clear p2
                        try clear p6
                        try clear q1
                        try clear q16
                        try clear q164
                        obtain ⟨x7_4, x8_4, rfl, HA, HK4, HO_7, BK161, HB⟩ := hrel
                        cases gk with
                        | zero => exact absurd HA.out (by simp [revenantlaw22_ScriptCounts.l1])
                        | succ k4 =>
                          have H := HA.out
                          clear HA
                          simp only [revenantlaw22_ScriptCounts.l1] at H
                          by_cases c32 : x8_4 < (x7_4.length : Int)
                          · rw [if_pos c32] at H
                            have c32b0 : decide (x8_4 < (x7_4.length : Int)) = true := decide_eq_true c32
                            clear c32
                            have H' := Aside0.mk H
                            clear H
                            obtain ⟨Ao33, co33, eo33⟩ := Kd.R_slice HO_7.out
                            subst eo33
                            go_wp2
                            go_loopg [9] k4 (fun kq v9 w' => ∃ (x7_5 : List Int) (x9_5 : Int), v9 = .int .i64 x9_5 ∧ Aside0 (revenantlaw22_ScriptCounts.l2 kq a1 x7_5 x8_4 x9_5 a0_0 a0_1 a0_2 a0_3 a0_4 l0_5 l0_6 = some r) ∧ Aside0 (kq ≤ k4) ∧ Aside0 (Kd.R (Kd.int .i64) 3 w' w.heap.size (fun _ => True) (.slice Ao33 x7_4.length co33) x7_5) ∧ Aside0 (w'.heap[gb161]? = some (.cells #[.int .i64 a0_0, .int .i64 a0_1, .int .i64 a0_2, .int .i64 a0_3, .int .i64 a0_4, (.slice A0_5 l0_5.length c0_5), (.slice A0_6 l0_6.length c0_6)] 49 (0, 0))) ∧ Aside0 (Below w.heap.size w w'))
                            case atStart => exact ⟨(x7_4), (0), (by first | rfl | (simp; done) | (simp [*]; done)), H', ⟨Nat.le_refl _⟩, ⟨by (with_reducible repeat (first | apply Kd.R_alloc | apply Kd.R_drewN | apply Kd.R_drew)); exact HO_7.out⟩, ⟨by (with_reducible repeat (first | refine blk_drewN ?_ _ | refine blk_drew ?_ | refine blk_alloc ?_ _)); exact BK161.out⟩, ⟨by repeat (first | (with_reducible first | exact HB.out | apply below_alloc | apply pw_below_drewN | apply below_drew1 | refine below_set ?_ GE161.out) | exact HB.out)⟩⟩
                            case round =>
                              clear H'
                              try clear c1
                              try clear p1
                              try clear q1
                              try clear hx1
                              try clear c2
                              try clear p2
                              try clear c3
                              try clear c4
                              try clear p6
                              try clear c9
                              try clear c15
                              try clear c16
                              try clear c16b0
                              try clear p16
                              try clear q16
                              try clear hx16
                              try clear c17
                              try clear c17b0
                              try clear c24
                              try clear c24b0
                              try clear c24b1
                              try clear c26
                              try clear c27
                              try clear c28
                              try clear c31
                              try clear c32
                              try clear c32b0
                              try clear c33
                              try clear hcz10_0
                              try clear hcz10_1
                              try clear hcz10_2
                              try clear hcz10_3
                              try clear hcz10_4
                              try clear hcz10_5
                              try clear hcz10_6
                              try clear hcz12_0
                              try clear hcz12_1
                              try clear hcz12_2
                              try clear hcz12_3
                              try clear hcz12_4
                              try clear hcz12_5
                              try clear hcz12_6
                              try clear hcz14_0
                              try clear hcz14_1
                              try clear hcz14_2
                              try clear hcz14_3
                              try clear hcz14_4
                              try clear hcz14_5
                              try clear hcz14_6
                              try clear hcz18_0
                              try clear hcz18_1
                              try clear hcz18_2
                              try clear hcz18_3
                              try clear hcz18_4
                              try clear hcz18_5
                              try clear hcz18_6
                              try clear hcz21_0
                              try clear hcz21_1
                              try clear hcz21_2
                              try clear hcz21_3
                              try clear hcz21_4
                              try clear hcz21_5
                              try clear hcz21_6
                              try clear hcz25_0
                              try clear hcz25_1
                              try clear hcz25_2
                              try clear hcz25_3
                              try clear hcz25_4
                              try clear hcz25_5
                              try clear hcz25_6
                              try clear hcz28_0
                              try clear hcz28_1
                              try clear hcz28_2
                              try clear hcz28_3
                              try clear hcz28_4
                              try clear hcz28_5
                              try clear hcz28_6
                              try clear hcz29_0
                              try clear hcz29_1
                              try clear hcz29_2
                              try clear hcz29_3
                              try clear hcz29_4
                              try clear hcz29_5
                              try clear hcz29_6
                              try clear hfz10_0
                              try clear hfz10_1
                              try clear hfz10_2
                              try clear hfz10_3
                              try clear hfz10_4
                              try clear hfz10_5
                              try clear hfz10_6
                              try clear hfz12_0
                              try clear hfz12_1
                              try clear hfz12_2
                              try clear hfz12_3
                              try clear hfz12_4
                              try clear hfz12_5
                              try clear hfz12_6
                              try clear hfz14_0
                              try clear hfz14_1
                              try clear hfz14_2
                              try clear hfz14_3
                              try clear hfz14_4
                              try clear hfz14_5
                              try clear hfz14_6
                              try clear hfz18_0
                              try clear hfz18_1
                              try clear hfz18_2
                              try clear hfz18_3
                              try clear hfz18_4
                              try clear hfz18_5
                              try clear hfz18_6
                              try clear hfz21_0
                              try clear hfz21_1
                              try clear hfz21_2
                              try clear hfz21_3
                              try clear hfz21_4
                              try clear hfz21_5
                              try clear hfz21_6
                              try clear hfz25_0
                              try clear hfz25_1
                              try clear hfz25_2
                              try clear hfz25_3
                              try clear hfz25_4
                              try clear hfz25_5
                              try clear hfz25_6
                              try clear hfz28_0
                              try clear hfz28_1
                              try clear hfz28_2
                              try clear hfz28_3
                              try clear hfz28_4
                              try clear hfz28_5
                              try clear hfz28_6
                              try clear hfz29_0
                              try clear hfz29_1
                              try clear hfz29_2
                              try clear hfz29_3
                              try clear hfz29_4
                              try clear hfz29_5
                              try clear hfz29_6
                              try clear hx164_0
                              try clear p1
                              try clear p16
                              try clear p164
                              try clear p2
                              try clear p6
                              try clear q1
                              try clear q16
                              try clear q164
                              obtain ⟨x7_5, x9_5, rfl, HA, HK5, HO_7, BK161, HB⟩ := hrel
                              have hl7_5 := (Kd.R_reads' HO_7.out).1
                              rw [hl7_5] at HO_7
                              (try simp only [hl7_5])
                              (try simp only [hl7_5] at BK161)
                              cases gk with
                              | zero => exact absurd HA.out (by simp [revenantlaw22_ScriptCounts.l2])
                              | succ k5 =>
                                have H := HA.out
                                clear HA
                                simp only [revenantlaw22_ScriptCounts.l2] at H
                                by_cases c34 : x9_5 < (l0_6.length : Int)
                                · rw [if_pos c34] at H
                                  have c34b0 : decide (x9_5 < (l0_6.length : Int)) = true := decide_eq_true c34
                                  clear c34
                                  by_cases c35 : 0 ≤ x9_5
                                  · rw [if_pos c35] at H
                                    have c35b0 : decide (0 ≤ x9_5) = true := decide_eq_true c35
                                    clear c35
                                    by_cases c36 : (rd l0_6 x9_5) = x8_4
                                    · rw [if_pos c36] at H
                                      have c36b0 : ((rd l0_6 x9_5) == x8_4) = true := beq_iff_eq.mpr c36
                                      have c36b1 : ((rd l0_6 x9_5) != x8_4) = false := bne_eq_false_iff_eq.mpr c36
                                      clear c36
                                      by_cases c37 : 0 ≤ x8_4
                                      · rw [if_pos c37] at H
                                        have c37b0 : decide (0 ≤ x8_4) = true := decide_eq_true c37
                                        clear c37
                                        by_cases c38 : x8_4 < (x7_5.length : Int)
                                        · rw [if_pos c38] at H
                                          have c38b0 : decide (x8_4 < (x7_5.length : Int)) = true := decide_eq_true c38
                                          clear c38
                                          obtain ⟨y171, hy171⟩ : ∃ y_ : List Int, y_ = (x7_5.set (x8_4 : Int).toNat (wrap64 ((rd x7_5 x8_4) - 1))) := ⟨_, rfl⟩
                                          replace H : (revenantlaw22_ScriptCounts.l2 k5 a1 y171 x8_4 (wrap64 (x9_5 + 1)) a0_0 a0_1 a0_2 a0_3 a0_4 l0_5 l0_6) = some r := by first | (rw [hy171]; with_reducible exact H) | (have H2_ := (Option.bind_some _ _).symm.trans H; rw [hy171]; with_reducible exact H2_) | (have H2_ := (Option.bind_some _ _).symm.trans H; with_reducible exact H2_) | with_reducible exact H | (rw [hy171]; exact H) | exact H
                                          have Ny171 := Aside0.mk hy171
                                          clear hy171
                                          have H' := Aside0.mk H
                                          clear H
                                          have hcz40_0 : wr.cell? ⟨gb161, 0, none⟩ = some (.int .i64 a0_0) := (blk_cell BK161.out 0).trans rfl
                                          have hcz40_1 : wr.cell? ⟨gb161, 1, none⟩ = some (.int .i64 a0_1) := (blk_cell BK161.out 1).trans rfl
                                          have hcz40_2 : wr.cell? ⟨gb161, 2, none⟩ = some (.int .i64 a0_2) := (blk_cell BK161.out 2).trans rfl
                                          have hcz40_3 : wr.cell? ⟨gb161, 3, none⟩ = some (.int .i64 a0_3) := (blk_cell BK161.out 3).trans rfl
                                          have hcz40_4 : wr.cell? ⟨gb161, 4, none⟩ = some (.int .i64 a0_4) := (blk_cell BK161.out 4).trans rfl
                                          have hcz40_5 : wr.cell? ⟨gb161, 5, none⟩ = some (.slice A0_5 l0_5.length c0_5) := (blk_cell BK161.out 5).trans rfl
                                          have hcz40_6 : wr.cell? ⟨gb161, 6, none⟩ = some (.slice A0_6 l0_6.length c0_6) := (blk_cell BK161.out 6).trans rfl
                                          have hfz40_0 := blk_frozen BK161.out 0
                                          have hfz40_1 := blk_frozen BK161.out 1
                                          have hfz40_2 := blk_frozen BK161.out 2
                                          have hfz40_3 := blk_frozen BK161.out 3
                                          have hfz40_4 := blk_frozen BK161.out 4
                                          have hfz40_5 := blk_frozen BK161.out 5
                                          have hfz40_6 := blk_frozen BK161.out 6
                                          have p169 : 0 ≤ (x9_5 : Int) := of_decide_eq_true (by first | (with_reducible assumption) | assumption)
                                          have q169 : x9_5 < (l0_6.length : Int) := of_decide_eq_true (by first | (with_reducible assumption) | assumption)
                                          obtain ⟨ad169, e169, hx169_0⟩ := Kd.at_int HR0_6.out x9_5 p169 q169
                                          cases e169
                                          replace hx169_0 := (HB.out.cell (World.block_lt_of_cell? w _ hx169_0)).trans hx169_0
                                          replace p169 := eq_true p169
                                          replace q169 := eq_true q169
                                          have p170 : 0 ≤ (x8_4 : Int) := of_decide_eq_true (by first | (with_reducible assumption) | assumption)
                                          have q170 : x8_4 < (x7_5.length : Int) := of_decide_eq_true (by first | (with_reducible assumption) | assumption)
                                          obtain ⟨ad170, e170, hx170_0⟩ := Kd.at_int (Kd.R_reads' HO_7.out).2.2 x8_4 p170 q170
                                          cases e170
                                          replace p170 := eq_true p170
                                          replace q170 := eq_true q170
                                          have p39 : 0 ≤ (x8_4 : Int) := of_decide_eq_true (by first | (with_reducible assumption) | assumption)
                                          have q39 : (x8_4 : Int) < ((x7_5.length : Int) : Int) := of_decide_eq_true (by first | (with_reducible assumption) | assumption)
                                          obtain ⟨go39, co39, eo39, gb39, gl39, cl39, HG39⟩ := Kd.R_form HO_7.out (by omega)
                                          (first | cases eo39 | (injection eo39 with ea_ en_ ec_; (first | subst ea_ | (injection ea_ with ea_; subst ea_)); subst ec_; clear en_))
                                          have GB39 := Aside0.mk gb39
                                          have GG39 := Aside0.mk HG39
                                          clear gb39 gl39 HG39
                                          (first | simp only [add_plain] at hx170_0 | skip)
                                          obtain ⟨hx39_0, hf39_0⟩ := Kd.R_celln 0 HO_7.out (x8_4 : Int) p39 q39
                                          replace p39 := eq_true p39
                                          replace q39 := eq_true q39
                                          have HP41 := Kd.R_putg HO_7.out (x8_4 : Int) (wrap64 ((rd x7_5 x8_4) - 1))
                                          go_wp2_with (first | ((with_reducible refine gate_store (t := 3) (p := 77) rfl ?_); refine store_event (t := 3) (p := 77) (v := ?vo_w42) (w1 := (wr.setCell ⟨go39, (x8_4 : Int).toNat, none⟩ (.int .i64 (wrap64 ((rd x7_5 x8_4) - 1))))) ?hg ?ho ?hn ?hr ?_; (case ho => rfl); (case hg => rfl); (case hn => rfl); (case hr => first | (go_simp; done) | (go_simp; rfl)); intro w42 hw; have hg : wr.grownBy w42 (some go39) := (by rw [hw]; exact HP41.2); have hp_ : Kd.R (Kd.int .i64) 3 w42 w.heap.size (fun _ => True) (.slice (some ⟨go39, 0, none⟩) x7_5.length co33) y171 := (by rw [hw, Ny171.out]; exact HP41.1); clear HP41; have n0_ := Aside0.mk (hp_); have n1_ := Aside0.mk (blk_grown (g := gb161) (o := .cells #[.int .i64 a0_0, .int .i64 a0_1, .int .i64 a0_2, .int .i64 a0_3, .int .i64 a0_4, .slice A0_5 l0_5.length c0_5, .slice (some ad169) l0_6.length c0_6] 49 (0, 0)) (by (with_reducible repeat (first | refine blk_drewN ?_ _ | refine blk_drew ?_ | refine blk_alloc ?_ _)); exact BK161.out) hg (Kd.R_ne HO_7.out BK161.out (by decide))); have n2_ := Aside0.mk ((by rw [hw]; exact below_set (HB.out) GB39.out : Below w.heap.size w w42)); clear HO_7; clear BK161; clear HB; have HO_7 := n0_; have BK161 := n1_; have HB := n2_; clear n0_ n1_ n2_; clear hg hw hp_))
                                          (try simp only [← hl7_5])
                                          go_roundg k5
                                          case measure => have := HJ4.out; have := HK2.out; have := HJ19.out; have := HK4.out; have := HK5.out; omega
                                          case rel => exact ⟨(y171), (wrap64 (x9_5 + 1)), (by first | rfl | (simp; done) | (simp [*]; done)), H', ⟨by have := HJ4.out; have := HK2.out; have := HJ19.out; have := HK4.out; have := HK5.out; omega⟩, ⟨by (try simp only [hl7_5]); (with_reducible repeat (first | apply Kd.R_alloc | apply Kd.R_drewN | apply Kd.R_drew)); exact HO_7.out⟩, ⟨by (try simp only [hl7_5]); (with_reducible repeat (first | refine blk_drewN ?_ _ | refine blk_drew ?_ | refine blk_alloc ?_ _)); exact BK161.out⟩, ⟨by repeat (first | (with_reducible first | exact HB.out | apply below_alloc | apply pw_below_drewN | apply below_drew1 | refine below_set ?_ GE161.out) | exact HB.out)⟩⟩
                                        · rw [if_neg c38] at H
                                          exact absurd H (by simp)
                                      · rw [if_neg c37] at H
                                        exact absurd H (by simp)
                                    · rw [if_neg c36] at H
                                      have c36b0 : ((rd l0_6 x9_5) == x8_4) = false := beq_eq_false_iff_ne.mpr c36
                                      have c36b1 : ((rd l0_6 x9_5) != x8_4) = true := bne_iff_ne.mpr c36
                                      have H' := Aside0.mk H
                                      clear H
                                      have hcz43_0 : wr.cell? ⟨gb161, 0, none⟩ = some (.int .i64 a0_0) := (blk_cell BK161.out 0).trans rfl
                                      have hcz43_1 : wr.cell? ⟨gb161, 1, none⟩ = some (.int .i64 a0_1) := (blk_cell BK161.out 1).trans rfl
                                      have hcz43_2 : wr.cell? ⟨gb161, 2, none⟩ = some (.int .i64 a0_2) := (blk_cell BK161.out 2).trans rfl
                                      have hcz43_3 : wr.cell? ⟨gb161, 3, none⟩ = some (.int .i64 a0_3) := (blk_cell BK161.out 3).trans rfl
                                      have hcz43_4 : wr.cell? ⟨gb161, 4, none⟩ = some (.int .i64 a0_4) := (blk_cell BK161.out 4).trans rfl
                                      have hcz43_5 : wr.cell? ⟨gb161, 5, none⟩ = some (.slice A0_5 l0_5.length c0_5) := (blk_cell BK161.out 5).trans rfl
                                      have hcz43_6 : wr.cell? ⟨gb161, 6, none⟩ = some (.slice A0_6 l0_6.length c0_6) := (blk_cell BK161.out 6).trans rfl
                                      have hfz43_0 := blk_frozen BK161.out 0
                                      have hfz43_1 := blk_frozen BK161.out 1
                                      have hfz43_2 := blk_frozen BK161.out 2
                                      have hfz43_3 := blk_frozen BK161.out 3
                                      have hfz43_4 := blk_frozen BK161.out 4
                                      have hfz43_5 := blk_frozen BK161.out 5
                                      have hfz43_6 := blk_frozen BK161.out 6
                                      have p169 : 0 ≤ (x9_5 : Int) := of_decide_eq_true (by first | (with_reducible assumption) | assumption)
                                      have q169 : x9_5 < (l0_6.length : Int) := of_decide_eq_true (by first | (with_reducible assumption) | assumption)
                                      obtain ⟨ad169, e169, hx169_0⟩ := Kd.at_int HR0_6.out x9_5 p169 q169
                                      cases e169
                                      replace hx169_0 := (HB.out.cell (World.block_lt_of_cell? w _ hx169_0)).trans hx169_0
                                      replace p169 := eq_true p169
                                      replace q169 := eq_true q169
                                      go_wp2
                                      (try simp only [← hl7_5])
                                      go_roundg k5
                                      case measure => have := HJ4.out; have := HK2.out; have := HJ19.out; have := HK4.out; have := HK5.out; omega
                                      case rel => exact ⟨(x7_5), (wrap64 (x9_5 + 1)), (by first | rfl | (simp; done) | (simp [*]; done)), H', ⟨by have := HJ4.out; have := HK2.out; have := HJ19.out; have := HK4.out; have := HK5.out; omega⟩, ⟨by (try simp only [hl7_5]); (with_reducible repeat (first | apply Kd.R_alloc | apply Kd.R_drewN | apply Kd.R_drew)); exact HO_7.out⟩, ⟨by (try simp only [hl7_5]); (with_reducible repeat (first | refine blk_drewN ?_ _ | refine blk_drew ?_ | refine blk_alloc ?_ _)); exact BK161.out⟩, ⟨by repeat (first | (with_reducible first | exact HB.out | apply below_alloc | apply pw_below_drewN | apply below_drew1 | refine below_set ?_ GE161.out) | exact HB.out)⟩⟩
                                  · rw [if_neg c35] at H
                                    exact absurd H (by simp)
                                · rw [if_neg c34] at H
                                  have c34b0 : decide (x9_5 < (l0_6.length : Int)) = false := decide_eq_false c34
                                  clear c34
                                  by_cases c44 : 0 ≤ x8_4
                                  · rw [if_pos c44] at H
                                    have c44b0 : decide (0 ≤ x8_4) = true := decide_eq_true c44
                                    clear c44
                                    by_cases c45 : x8_4 < (x7_5.length : Int)
                                    · rw [if_pos c45] at H
                                      have c45b0 : decide (x8_4 < (x7_5.length : Int)) = true := decide_eq_true c45
                                      clear c45
                                      by_cases c46 : (rd x7_5 x8_4) = 0
                                      · rw [if_pos c46] at H
                                        have c46b0 : ((rd x7_5 x8_4) == 0) = true := beq_iff_eq.mpr c46
                                        have c46b1 : ((rd x7_5 x8_4) != 0) = false := bne_eq_false_iff_eq.mpr c46
                                        clear c46
                                        have H' := Aside0.mk H
                                        clear H
                                        have hcz47_0 : wr.cell? ⟨gb161, 0, none⟩ = some (.int .i64 a0_0) := (blk_cell BK161.out 0).trans rfl
                                        have hcz47_1 : wr.cell? ⟨gb161, 1, none⟩ = some (.int .i64 a0_1) := (blk_cell BK161.out 1).trans rfl
                                        have hcz47_2 : wr.cell? ⟨gb161, 2, none⟩ = some (.int .i64 a0_2) := (blk_cell BK161.out 2).trans rfl
                                        have hcz47_3 : wr.cell? ⟨gb161, 3, none⟩ = some (.int .i64 a0_3) := (blk_cell BK161.out 3).trans rfl
                                        have hcz47_4 : wr.cell? ⟨gb161, 4, none⟩ = some (.int .i64 a0_4) := (blk_cell BK161.out 4).trans rfl
                                        have hcz47_5 : wr.cell? ⟨gb161, 5, none⟩ = some (.slice A0_5 l0_5.length c0_5) := (blk_cell BK161.out 5).trans rfl
                                        have hcz47_6 : wr.cell? ⟨gb161, 6, none⟩ = some (.slice A0_6 l0_6.length c0_6) := (blk_cell BK161.out 6).trans rfl
                                        have hfz47_0 := blk_frozen BK161.out 0
                                        have hfz47_1 := blk_frozen BK161.out 1
                                        have hfz47_2 := blk_frozen BK161.out 2
                                        have hfz47_3 := blk_frozen BK161.out 3
                                        have hfz47_4 := blk_frozen BK161.out 4
                                        have hfz47_5 := blk_frozen BK161.out 5
                                        have hfz47_6 := blk_frozen BK161.out 6
                                        have p172 : 0 ≤ (x8_4 : Int) := of_decide_eq_true (by first | (with_reducible assumption) | assumption)
                                        have q172 : x8_4 < (x7_5.length : Int) := of_decide_eq_true (by first | (with_reducible assumption) | assumption)
                                        obtain ⟨ad172, e172, hx172_0⟩ := Kd.at_int (Kd.R_reads' HO_7.out).2.2 x8_4 p172 q172
                                        cases e172
                                        replace p172 := eq_true p172
                                        replace q172 := eq_true q172
                                        go_wp2
                                        (try simp only [← hl7_5])
                                        go_roundg k5
                                        case measure => have := HJ4.out; have := HK2.out; have := HJ19.out; have := HK4.out; have := HK5.out; omega
                                        case rel => exact ⟨(x7_5), (wrap64 (x8_4 + 1)), (by first | rfl | (simp; done) | (simp [*]; done)), H', ⟨by have := HJ4.out; have := HK2.out; have := HJ19.out; have := HK4.out; have := HK5.out; omega⟩, ⟨by (try simp only [hl7_5]); (with_reducible repeat (first | apply Kd.R_alloc | apply Kd.R_drewN | apply Kd.R_drew)); exact HO_7.out⟩, ⟨by (try simp only [hl7_5]); (with_reducible repeat (first | refine blk_drewN ?_ _ | refine blk_drew ?_ | refine blk_alloc ?_ _)); exact BK161.out⟩, ⟨by repeat (first | (with_reducible first | exact HB.out | apply below_alloc | apply pw_below_drewN | apply below_drew1 | refine below_set ?_ GE161.out) | exact HB.out)⟩⟩
                                      · rw [if_neg c46] at H
                                        have c46b0 : ((rd x7_5 x8_4) == 0) = false := beq_eq_false_iff_ne.mpr c46
                                        have c46b1 : ((rd x7_5 x8_4) != 0) = true := bne_iff_ne.mpr c46
                                        obtain rfl := Option.some.inj H
                                        have hcz48_0 : wr.cell? ⟨gb161, 0, none⟩ = some (.int .i64 a0_0) := (blk_cell BK161.out 0).trans rfl
                                        have hcz48_1 : wr.cell? ⟨gb161, 1, none⟩ = some (.int .i64 a0_1) := (blk_cell BK161.out 1).trans rfl
                                        have hcz48_2 : wr.cell? ⟨gb161, 2, none⟩ = some (.int .i64 a0_2) := (blk_cell BK161.out 2).trans rfl
                                        have hcz48_3 : wr.cell? ⟨gb161, 3, none⟩ = some (.int .i64 a0_3) := (blk_cell BK161.out 3).trans rfl
                                        have hcz48_4 : wr.cell? ⟨gb161, 4, none⟩ = some (.int .i64 a0_4) := (blk_cell BK161.out 4).trans rfl
                                        have hcz48_5 : wr.cell? ⟨gb161, 5, none⟩ = some (.slice A0_5 l0_5.length c0_5) := (blk_cell BK161.out 5).trans rfl
                                        have hcz48_6 : wr.cell? ⟨gb161, 6, none⟩ = some (.slice A0_6 l0_6.length c0_6) := (blk_cell BK161.out 6).trans rfl
                                        have hfz48_0 := blk_frozen BK161.out 0
                                        have hfz48_1 := blk_frozen BK161.out 1
                                        have hfz48_2 := blk_frozen BK161.out 2
                                        have hfz48_3 := blk_frozen BK161.out 3
                                        have hfz48_4 := blk_frozen BK161.out 4
                                        have hfz48_5 := blk_frozen BK161.out 5
                                        have hfz48_6 := blk_frozen BK161.out 6
                                        have p172 : 0 ≤ (x8_4 : Int) := of_decide_eq_true (by first | (with_reducible assumption) | assumption)
                                        have q172 : x8_4 < (x7_5.length : Int) := of_decide_eq_true (by first | (with_reducible assumption) | assumption)
                                        obtain ⟨ad172, e172, hx172_0⟩ := Kd.at_int (Kd.R_reads' HO_7.out).2.2 x8_4 p172 q172
                                        cases e172
                                        replace p172 := eq_true p172
                                        replace q172 := eq_true q172
                                        go_wp2
                                        go_ret
                                        exact ⟨by first | rfl | (simp [errW_none, errW_some] <;> rfl) | (simp [*, errW_none, errW_some] <;> rfl), by repeat (first | (with_reducible first | exact HB.out | apply below_alloc | apply pw_below_drewN | apply below_drew1 | refine below_set ?_ GE161.out) | exact HB.out)⟩
                                    · rw [if_neg c45] at H
                                      exact absurd H (by simp)
                                  · rw [if_neg c44] at H
                                    exact absurd H (by simp)
                          · rw [if_neg c32] at H
                            have c32b0 : decide (x8_4 < (x7_4.length : Int)) = false := decide_eq_false c32
                            clear c32
                            have H' := Aside0.mk H
                            clear H
                            obtain ⟨Ao49, co49, eo49⟩ := Kd.R_slice HO_7.out
                            subst eo49
                            go_wp2
                            go_loopg [10, 11, 12] k4 (fun kq v10 v11 v12 w' => ∃ (x10_5 : Int) (x11_5 : Int) (x12_5 : Int), v10 = .int .i64 x10_5 ∧ v11 = .int .i64 x11_5 ∧ v12 = .int .i64 x12_5 ∧ Aside0 (revenantlaw22_ScriptCounts.l3 kq a1 x10_5 x11_5 x12_5 a0_0 a0_1 a0_2 a0_3 a0_4 l0_5 l0_6 = some r) ∧ Aside0 (kq ≤ k4) ∧ Aside0 (w'.heap[gb161]? = some (.cells #[.int .i64 a0_0, .int .i64 a0_1, .int .i64 a0_2, .int .i64 a0_3, .int .i64 a0_4, (.slice A0_5 l0_5.length c0_5), (.slice A0_6 l0_6.length c0_6)] 49 (0, 0))) ∧ Aside0 (Below w.heap.size w w'))
                            case atStart => exact ⟨(0), (0), (0), (by first | rfl | (simp; done) | (simp [*]; done)), (by first | rfl | (simp; done) | (simp [*]; done)), (by first | rfl | (simp; done) | (simp [*]; done)), H', ⟨Nat.le_refl _⟩, ⟨by (with_reducible repeat (first | refine blk_drewN ?_ _ | refine blk_drew ?_ | refine blk_alloc ?_ _)); exact BK161.out⟩, ⟨by repeat (first | (with_reducible first | exact HB.out | apply below_alloc | apply pw_below_drewN | apply below_drew1 | refine below_set ?_ GE161.out) | exact HB.out)⟩⟩
                            case round =>
                              clear H'
                              try clear c1
                              try clear p1
                              try clear q1
                              try clear hx1
                              try clear c2
                              try clear p2
                              try clear c3
                              try clear p3
                              try clear q3
                              try clear hx3
                              try clear hf3
                              try clear c4
                              try clear p6
                              try clear c9
                              try clear c15
                              try clear c16
                              try clear c16b0
                              try clear p16
                              try clear q16
                              try clear hx16
                              try clear c17
                              try clear c17b0
                              try clear p17
                              try clear q17
                              try clear hx17
                              try clear c24
                              try clear c24b0
                              try clear c24b1
                              try clear c26
                              try clear c27
                              try clear c28
                              try clear c31
                              try clear c32
                              try clear c32b0
                              try clear c33
                              try clear c34
                              try clear c34b0
                              try clear c35
                              try clear c35b0
                              try clear c36
                              try clear c36b0
                              try clear c36b1
                              try clear c37
                              try clear c37b0
                              try clear c38
                              try clear c38b0
                              try clear p39
                              try clear q39
                              try clear hx39
                              try clear hf39
                              try clear c44
                              try clear c44b0
                              try clear c45
                              try clear c45b0
                              try clear c46
                              try clear c46b0
                              try clear c46b1
                              try clear hcz10_0
                              try clear hcz10_1
                              try clear hcz10_2
                              try clear hcz10_3
                              try clear hcz10_4
                              try clear hcz10_5
                              try clear hcz10_6
                              try clear hcz12_0
                              try clear hcz12_1
                              try clear hcz12_2
                              try clear hcz12_3
                              try clear hcz12_4
                              try clear hcz12_5
                              try clear hcz12_6
                              try clear hcz14_0
                              try clear hcz14_1
                              try clear hcz14_2
                              try clear hcz14_3
                              try clear hcz14_4
                              try clear hcz14_5
                              try clear hcz14_6
                              try clear hcz18_0
                              try clear hcz18_1
                              try clear hcz18_2
                              try clear hcz18_3
                              try clear hcz18_4
                              try clear hcz18_5
                              try clear hcz18_6
                              try clear hcz21_0
                              try clear hcz21_1
                              try clear hcz21_2
                              try clear hcz21_3
                              try clear hcz21_4
                              try clear hcz21_5
                              try clear hcz21_6
                              try clear hcz25_0
                              try clear hcz25_1
                              try clear hcz25_2
                              try clear hcz25_3
                              try clear hcz25_4
                              try clear hcz25_5
                              try clear hcz25_6
                              try clear hcz28_0
                              try clear hcz28_1
                              try clear hcz28_2
                              try clear hcz28_3
                              try clear hcz28_4
                              try clear hcz28_5
                              try clear hcz28_6
                              try clear hcz29_0
                              try clear hcz29_1
                              try clear hcz29_2
                              try clear hcz29_3
                              try clear hcz29_4
                              try clear hcz29_5
                              try clear hcz29_6
                              try clear hcz40_0
                              try clear hcz40_1
                              try clear hcz40_2
                              try clear hcz40_3
                              try clear hcz40_4
                              try clear hcz40_5
                              try clear hcz40_6
                              try clear hcz43_0
                              try clear hcz43_1
                              try clear hcz43_2
                              try clear hcz43_3
                              try clear hcz43_4
                              try clear hcz43_5
                              try clear hcz43_6
                              try clear hcz47_0
                              try clear hcz47_1
                              try clear hcz47_2
                              try clear hcz47_3
                              try clear hcz47_4
                              try clear hcz47_5
                              try clear hcz47_6
                              try clear hcz48_0
                              try clear hcz48_1
                              try clear hcz48_2
                              try clear hcz48_3
                              try clear hcz48_4
                              try clear hcz48_5
                              try clear hcz48_6
                              try clear hfz10_0
                              try clear hfz10_1
                              try clear hfz10_2
                              try clear hfz10_3
                              try clear hfz10_4
                              try clear hfz10_5
                              try clear hfz10_6
                              try clear hfz12_0
                              try clear hfz12_1
                              try clear hfz12_2
                              try clear hfz12_3
                              try clear hfz12_4
                              try clear hfz12_5
                              try clear hfz12_6
                              try clear hfz14_0
                              try clear hfz14_1
                              try clear hfz14_2
                              try clear hfz14_3
                              try clear hfz14_4
                              try clear hfz14_5
                              try clear hfz14_6
                              try clear hfz18_0
                              try clear hfz18_1
                              try clear hfz18_2
                              try clear hfz18_3
                              try clear hfz18_4
                              try clear hfz18_5
                              try clear hfz18_6
                              try clear hfz21_0
                              try clear hfz21_1
                              try clear hfz21_2
                              try clear hfz21_3
                              try clear hfz21_4
                              try clear hfz21_5
                              try clear hfz21_6
                              try clear hfz25_0
                              try clear hfz25_1
                              try clear hfz25_2
                              try clear hfz25_3
                              try clear hfz25_4
                              try clear hfz25_5
                              try clear hfz25_6
                              try clear hfz28_0
                              try clear hfz28_1
                              try clear hfz28_2
                              try clear hfz28_3
                              try clear hfz28_4
                              try clear hfz28_5
                              try clear hfz28_6
                              try clear hfz29_0
                              try clear hfz29_1
                              try clear hfz29_2
                              try clear hfz29_3
                              try clear hfz29_4
                              try clear hfz29_5
                              try clear hfz29_6
                              try clear hfz40_0
                              try clear hfz40_1
                              try clear hfz40_2
                              try clear hfz40_3
                              try clear hfz40_4
                              try clear hfz40_5
                              try clear hfz40_6
                              try clear hfz43_0
                              try clear hfz43_1
                              try clear hfz43_2
                              try clear hfz43_3
                              try clear hfz43_4
                              try clear hfz43_5
                              try clear hfz43_6
                              try clear hfz47_0
                              try clear hfz47_1
                              try clear hfz47_2
                              try clear hfz47_3
                              try clear hfz47_4
                              try clear hfz47_5
                              try clear hfz47_6
                              try clear hfz48_0
                              try clear hfz48_1
                              try clear hfz48_2
                              try clear hfz48_3
                              try clear hfz48_4
                              try clear hfz48_5
                              try clear hfz48_6
                              try clear hx164_0
                              try clear hx169_0
                              try clear hx170_0
                              try clear hx172_0
                              try clear hx39_0
                              try clear p1
                              try clear p16
                              try clear p164
                              try clear p169
                              try clear p170
                              try clear p172
                              try clear p2
                              try clear p39
                              try clear p6
                              try clear q1
                              try clear q16
                              try clear q164
                              try clear q169
                              try clear q170
                              try clear q172
                              try clear q39
                              obtain ⟨x10_5, x11_5, x12_5, rfl, rfl, rfl, HA, HK5, BK161, HB⟩ := hrel
                              cases gk with
                              | zero => exact absurd HA.out (by simp [revenantlaw22_ScriptCounts.l3])
                              | succ k5 =>
                                have H := HA.out
                                clear HA
                                simp only [revenantlaw22_ScriptCounts.l3] at H
                                by_cases c50 : x12_5 < (l0_6.length : Int)
                                · rw [if_pos c50] at H
                                  have c50b0 : decide (x12_5 < (l0_6.length : Int)) = true := decide_eq_true c50
                                  clear c50
                                  by_cases c51 : 0 ≤ x12_5
                                  · rw [if_pos c51] at H
                                    have c51b0 : decide (0 ≤ x12_5) = true := decide_eq_true c51
                                    clear c51
                                    by_cases c52 : (rd l0_6 x12_5) = a1
                                    · rw [if_pos c52] at H
                                      have c52b0 : ((rd l0_6 x12_5) == a1) = true := beq_iff_eq.mpr c52
                                      have c52b1 : ((rd l0_6 x12_5) != a1) = false := bne_eq_false_iff_eq.mpr c52
                                      clear c52
                                      rw [show wrap64 ((wrap64 (x12_5 + 1)) - (wrap64 (x12_5 + 1))) = 0 from by rw [Int.sub_self]; unfold wrap64; omega] at H
                                      by_cases c53 : (0 : Int) > x10_5
                                      · rw [if_pos c53] at H
                                        have c53b0 : decide (x10_5 < (0 : Int)) = true := decide_eq_true c53
                                        clear c53
                                        have H' := Aside0.mk H
                                        clear H
                                        have hcz54_0 : wr.cell? ⟨gb161, 0, none⟩ = some (.int .i64 a0_0) := (blk_cell BK161.out 0).trans rfl
                                        have hcz54_1 : wr.cell? ⟨gb161, 1, none⟩ = some (.int .i64 a0_1) := (blk_cell BK161.out 1).trans rfl
                                        have hcz54_2 : wr.cell? ⟨gb161, 2, none⟩ = some (.int .i64 a0_2) := (blk_cell BK161.out 2).trans rfl
                                        have hcz54_3 : wr.cell? ⟨gb161, 3, none⟩ = some (.int .i64 a0_3) := (blk_cell BK161.out 3).trans rfl
                                        have hcz54_4 : wr.cell? ⟨gb161, 4, none⟩ = some (.int .i64 a0_4) := (blk_cell BK161.out 4).trans rfl
                                        have hcz54_5 : wr.cell? ⟨gb161, 5, none⟩ = some (.slice A0_5 l0_5.length c0_5) := (blk_cell BK161.out 5).trans rfl
                                        have hcz54_6 : wr.cell? ⟨gb161, 6, none⟩ = some (.slice A0_6 l0_6.length c0_6) := (blk_cell BK161.out 6).trans rfl
                                        have hfz54_0 := blk_frozen BK161.out 0
                                        have hfz54_1 := blk_frozen BK161.out 1
                                        have hfz54_2 := blk_frozen BK161.out 2
                                        have hfz54_3 := blk_frozen BK161.out 3
                                        have hfz54_4 := blk_frozen BK161.out 4
                                        have hfz54_5 := blk_frozen BK161.out 5
                                        have hfz54_6 := blk_frozen BK161.out 6
                                        have p174 : 0 ≤ (x12_5 : Int) := of_decide_eq_true (by first | (with_reducible assumption) | assumption)
                                        have q174 : x12_5 < (l0_6.length : Int) := of_decide_eq_true (by first | (with_reducible assumption) | assumption)
                                        obtain ⟨ad174, e174, hx174_0⟩ := Kd.at_int HR0_6.out x12_5 p174 q174
                                        cases e174
                                        replace hx174_0 := (HB.out.cell (World.block_lt_of_cell? w _ hx174_0)).trans hx174_0
                                        replace p174 := eq_true p174
                                        replace q174 := eq_true q174
                                        go_wp2
                                        go_roundg k5
                                        case measure => have := HJ4.out; have := HK2.out; have := HJ19.out; have := HK4.out; have := HK5.out; omega
                                        case rel => exact ⟨(0 : Int), (wrap64 (x12_5 + 1)), (wrap64 (x12_5 + 1)), (by first | rfl | (simp; done) | (simp [*]; done)), (by first | rfl | (simp; done) | (simp [*]; done)), (by first | rfl | (simp; done) | (simp [*]; done)), H', ⟨by have := HJ4.out; have := HK2.out; have := HJ19.out; have := HK4.out; have := HK5.out; omega⟩, ⟨by (with_reducible repeat (first | refine blk_drewN ?_ _ | refine blk_drew ?_ | refine blk_alloc ?_ _)); exact BK161.out⟩, ⟨by repeat (first | (with_reducible first | exact HB.out | apply below_alloc | apply pw_below_drewN | apply below_drew1 | refine below_set ?_ GE161.out) | exact HB.out)⟩⟩
                                      · rw [if_neg c53] at H
                                        have c53b0 : decide (x10_5 < (0 : Int)) = false := decide_eq_false c53
                                        clear c53
                                        have H' := Aside0.mk H
                                        clear H
                                        have hcz55_0 : wr.cell? ⟨gb161, 0, none⟩ = some (.int .i64 a0_0) := (blk_cell BK161.out 0).trans rfl
                                        have hcz55_1 : wr.cell? ⟨gb161, 1, none⟩ = some (.int .i64 a0_1) := (blk_cell BK161.out 1).trans rfl
                                        have hcz55_2 : wr.cell? ⟨gb161, 2, none⟩ = some (.int .i64 a0_2) := (blk_cell BK161.out 2).trans rfl
                                        have hcz55_3 : wr.cell? ⟨gb161, 3, none⟩ = some (.int .i64 a0_3) := (blk_cell BK161.out 3).trans rfl
                                        have hcz55_4 : wr.cell? ⟨gb161, 4, none⟩ = some (.int .i64 a0_4) := (blk_cell BK161.out 4).trans rfl
                                        have hcz55_5 : wr.cell? ⟨gb161, 5, none⟩ = some (.slice A0_5 l0_5.length c0_5) := (blk_cell BK161.out 5).trans rfl
                                        have hcz55_6 : wr.cell? ⟨gb161, 6, none⟩ = some (.slice A0_6 l0_6.length c0_6) := (blk_cell BK161.out 6).trans rfl
                                        have hfz55_0 := blk_frozen BK161.out 0
                                        have hfz55_1 := blk_frozen BK161.out 1
                                        have hfz55_2 := blk_frozen BK161.out 2
                                        have hfz55_3 := blk_frozen BK161.out 3
                                        have hfz55_4 := blk_frozen BK161.out 4
                                        have hfz55_5 := blk_frozen BK161.out 5
                                        have hfz55_6 := blk_frozen BK161.out 6
                                        have p174 : 0 ≤ (x12_5 : Int) := of_decide_eq_true (by first | (with_reducible assumption) | assumption)
                                        have q174 : x12_5 < (l0_6.length : Int) := of_decide_eq_true (by first | (with_reducible assumption) | assumption)
                                        obtain ⟨ad174, e174, hx174_0⟩ := Kd.at_int HR0_6.out x12_5 p174 q174
                                        cases e174
                                        replace hx174_0 := (HB.out.cell (World.block_lt_of_cell? w _ hx174_0)).trans hx174_0
                                        replace p174 := eq_true p174
                                        replace q174 := eq_true q174
                                        go_wp2
                                        go_roundg k5
                                        case measure => have := HJ4.out; have := HK2.out; have := HJ19.out; have := HK4.out; have := HK5.out; omega
                                        case rel => exact ⟨(x10_5), (wrap64 (x12_5 + 1)), (wrap64 (x12_5 + 1)), (by first | rfl | (simp; done) | (simp [*]; done)), (by first | rfl | (simp; done) | (simp [*]; done)), (by first | rfl | (simp; done) | (simp [*]; done)), H', ⟨by have := HJ4.out; have := HK2.out; have := HJ19.out; have := HK4.out; have := HK5.out; omega⟩, ⟨by (with_reducible repeat (first | refine blk_drewN ?_ _ | refine blk_drew ?_ | refine blk_alloc ?_ _)); exact BK161.out⟩, ⟨by repeat (first | (with_reducible first | exact HB.out | apply below_alloc | apply pw_below_drewN | apply below_drew1 | refine below_set ?_ GE161.out) | exact HB.out)⟩⟩
                                    · rw [if_neg c52] at H
                                      have c52b0 : ((rd l0_6 x12_5) == a1) = false := beq_eq_false_iff_ne.mpr c52
                                      have c52b1 : ((rd l0_6 x12_5) != a1) = true := bne_iff_ne.mpr c52
                                      by_cases c56 : (wrap64 ((wrap64 (x12_5 + 1)) - x11_5)) > x10_5
                                      · rw [if_pos c56] at H
                                        have c56b0 : decide (x10_5 < (wrap64 ((wrap64 (x12_5 + 1)) - x11_5))) = true := decide_eq_true c56
                                        clear c56
                                        have H' := Aside0.mk H
                                        clear H
                                        have hcz57_0 : wr.cell? ⟨gb161, 0, none⟩ = some (.int .i64 a0_0) := (blk_cell BK161.out 0).trans rfl
                                        have hcz57_1 : wr.cell? ⟨gb161, 1, none⟩ = some (.int .i64 a0_1) := (blk_cell BK161.out 1).trans rfl
                                        have hcz57_2 : wr.cell? ⟨gb161, 2, none⟩ = some (.int .i64 a0_2) := (blk_cell BK161.out 2).trans rfl
                                        have hcz57_3 : wr.cell? ⟨gb161, 3, none⟩ = some (.int .i64 a0_3) := (blk_cell BK161.out 3).trans rfl
                                        have hcz57_4 : wr.cell? ⟨gb161, 4, none⟩ = some (.int .i64 a0_4) := (blk_cell BK161.out 4).trans rfl
                                        have hcz57_5 : wr.cell? ⟨gb161, 5, none⟩ = some (.slice A0_5 l0_5.length c0_5) := (blk_cell BK161.out 5).trans rfl
                                        have hcz57_6 : wr.cell? ⟨gb161, 6, none⟩ = some (.slice A0_6 l0_6.length c0_6) := (blk_cell BK161.out 6).trans rfl
                                        have hfz57_0 := blk_frozen BK161.out 0
                                        have hfz57_1 := blk_frozen BK161.out 1
                                        have hfz57_2 := blk_frozen BK161.out 2
                                        have hfz57_3 := blk_frozen BK161.out 3
                                        have hfz57_4 := blk_frozen BK161.out 4
                                        have hfz57_5 := blk_frozen BK161.out 5
                                        have hfz57_6 := blk_frozen BK161.out 6
                                        have p174 : 0 ≤ (x12_5 : Int) := of_decide_eq_true (by first | (with_reducible assumption) | assumption)
                                        have q174 : x12_5 < (l0_6.length : Int) := of_decide_eq_true (by first | (with_reducible assumption) | assumption)
                                        obtain ⟨ad174, e174, hx174_0⟩ := Kd.at_int HR0_6.out x12_5 p174 q174
                                        cases e174
                                        replace hx174_0 := (HB.out.cell (World.block_lt_of_cell? w _ hx174_0)).trans hx174_0
                                        replace p174 := eq_true p174
                                        replace q174 := eq_true q174
                                        go_wp2
                                        go_roundg k5
                                        case measure => have := HJ4.out; have := HK2.out; have := HJ19.out; have := HK4.out; have := HK5.out; omega
                                        case rel => exact ⟨(wrap64 ((wrap64 (x12_5 + 1)) - x11_5)), (x11_5), (wrap64 (x12_5 + 1)), (by first | rfl | (simp; done) | (simp [*]; done)), (by first | rfl | (simp; done) | (simp [*]; done)), (by first | rfl | (simp; done) | (simp [*]; done)), H', ⟨by have := HJ4.out; have := HK2.out; have := HJ19.out; have := HK4.out; have := HK5.out; omega⟩, ⟨by (with_reducible repeat (first | refine blk_drewN ?_ _ | refine blk_drew ?_ | refine blk_alloc ?_ _)); exact BK161.out⟩, ⟨by repeat (first | (with_reducible first | exact HB.out | apply below_alloc | apply pw_below_drewN | apply below_drew1 | refine below_set ?_ GE161.out) | exact HB.out)⟩⟩
                                      · rw [if_neg c56] at H
                                        have c56b0 : decide (x10_5 < (wrap64 ((wrap64 (x12_5 + 1)) - x11_5))) = false := decide_eq_false c56
                                        clear c56
                                        have H' := Aside0.mk H
                                        clear H
                                        have hcz58_0 : wr.cell? ⟨gb161, 0, none⟩ = some (.int .i64 a0_0) := (blk_cell BK161.out 0).trans rfl
                                        have hcz58_1 : wr.cell? ⟨gb161, 1, none⟩ = some (.int .i64 a0_1) := (blk_cell BK161.out 1).trans rfl
                                        have hcz58_2 : wr.cell? ⟨gb161, 2, none⟩ = some (.int .i64 a0_2) := (blk_cell BK161.out 2).trans rfl
                                        have hcz58_3 : wr.cell? ⟨gb161, 3, none⟩ = some (.int .i64 a0_3) := (blk_cell BK161.out 3).trans rfl
                                        have hcz58_4 : wr.cell? ⟨gb161, 4, none⟩ = some (.int .i64 a0_4) := (blk_cell BK161.out 4).trans rfl
                                        have hcz58_5 : wr.cell? ⟨gb161, 5, none⟩ = some (.slice A0_5 l0_5.length c0_5) := (blk_cell BK161.out 5).trans rfl
                                        have hcz58_6 : wr.cell? ⟨gb161, 6, none⟩ = some (.slice A0_6 l0_6.length c0_6) := (blk_cell BK161.out 6).trans rfl
                                        have hfz58_0 := blk_frozen BK161.out 0
                                        have hfz58_1 := blk_frozen BK161.out 1
                                        have hfz58_2 := blk_frozen BK161.out 2
                                        have hfz58_3 := blk_frozen BK161.out 3
                                        have hfz58_4 := blk_frozen BK161.out 4
                                        have hfz58_5 := blk_frozen BK161.out 5
                                        have hfz58_6 := blk_frozen BK161.out 6
                                        have p174 : 0 ≤ (x12_5 : Int) := of_decide_eq_true (by first | (with_reducible assumption) | assumption)
                                        have q174 : x12_5 < (l0_6.length : Int) := of_decide_eq_true (by first | (with_reducible assumption) | assumption)
                                        obtain ⟨ad174, e174, hx174_0⟩ := Kd.at_int HR0_6.out x12_5 p174 q174
                                        cases e174
                                        replace hx174_0 := (HB.out.cell (World.block_lt_of_cell? w _ hx174_0)).trans hx174_0
                                        replace p174 := eq_true p174
                                        replace q174 := eq_true q174
                                        go_wp2
                                        go_roundg k5
                                        case measure => have := HJ4.out; have := HK2.out; have := HJ19.out; have := HK4.out; have := HK5.out; omega
                                        case rel => exact ⟨(x10_5), (x11_5), (wrap64 (x12_5 + 1)), (by first | rfl | (simp; done) | (simp [*]; done)), (by first | rfl | (simp; done) | (simp [*]; done)), (by first | rfl | (simp; done) | (simp [*]; done)), H', ⟨by have := HJ4.out; have := HK2.out; have := HJ19.out; have := HK4.out; have := HK5.out; omega⟩, ⟨by (with_reducible repeat (first | refine blk_drewN ?_ _ | refine blk_drew ?_ | refine blk_alloc ?_ _)); exact BK161.out⟩, ⟨by repeat (first | (with_reducible first | exact HB.out | apply below_alloc | apply pw_below_drewN | apply below_drew1 | refine below_set ?_ GE161.out) | exact HB.out)⟩⟩
                                  · rw [if_neg c51] at H
                                    exact absurd H (by simp)
                                · rw [if_neg c50] at H
                                  have c50b0 : decide (x12_5 < (l0_6.length : Int)) = false := decide_eq_false c50
                                  clear c50
                                  replace H := Option.bind_eq_some_iff.mp H
                                  obtain ⟨t173, A590, H⟩ := H
                                  replace H : (some (t173 == x10_5)) = some r := H
                                  have A59 := Aside0.mk A590
                                  clear A590
                                  obtain rfl := Option.some.inj H
                                  have hcz60_0 : wr.cell? ⟨gb161, 0, none⟩ = some (.int .i64 a0_0) := (blk_cell BK161.out 0).trans rfl
                                  have hcz60_1 : wr.cell? ⟨gb161, 1, none⟩ = some (.int .i64 a0_1) := (blk_cell BK161.out 1).trans rfl
                                  have hcz60_2 : wr.cell? ⟨gb161, 2, none⟩ = some (.int .i64 a0_2) := (blk_cell BK161.out 2).trans rfl
                                  have hcz60_3 : wr.cell? ⟨gb161, 3, none⟩ = some (.int .i64 a0_3) := (blk_cell BK161.out 3).trans rfl
                                  have hcz60_4 : wr.cell? ⟨gb161, 4, none⟩ = some (.int .i64 a0_4) := (blk_cell BK161.out 4).trans rfl
                                  have hcz60_5 : wr.cell? ⟨gb161, 5, none⟩ = some (.slice A0_5 l0_5.length c0_5) := (blk_cell BK161.out 5).trans rfl
                                  have hcz60_6 : wr.cell? ⟨gb161, 6, none⟩ = some (.slice A0_6 l0_6.length c0_6) := (blk_cell BK161.out 6).trans rfl
                                  have hfz60_0 := blk_frozen BK161.out 0
                                  have hfz60_1 := blk_frozen BK161.out 1
                                  have hfz60_2 := blk_frozen BK161.out 2
                                  have hfz60_3 := blk_frozen BK161.out 3
                                  have hfz60_4 := blk_frozen BK161.out 4
                                  have hfz60_5 := blk_frozen BK161.out 5
                                  have hfz60_6 := blk_frozen BK161.out 6
                                  go_wp2_with (first | ((with_reducible refine gate_callee (f := 34) rfl ?_); refine goesL_ (some 111) rfl rfl Try.func34 (by kernel_rfl) rfl #[.agg #[.int .i64 a0_0, .int .i64 a0_1, .int .i64 a0_2, .int .i64 a0_3, .int .i64 a0_4, .slice A0_5 l0_5.length c0_5, .slice A0_6 l0_6.length c0_6], .int .i64 a1] rfl (by (try simp only [List.map_toArray, List.map_cons, List.map_nil]); first | done | rfl | (simp only [List.length_drop, List.length_take]; rfl)) ?_; (with_reducible refine (script_Longest.calls k5 a0_0 a0_1 a0_2 a0_3 a0_4 _ _ l0_5 _ _ l0_6 a1 t173 _ ?side1 ?side2 ?side3 ?side4 A59.out).mono ?_); (case side1 => repeat (first | exact (Kd.C_below HR0_5.out HB.out) | (with_reducible refine Kd.C_alloc ?_ _) | (with_reducible refine Kd.C_drewN ?_ _) | (with_reducible refine Kd.C_drew ?_))); (case side2 => exact HC0_5.out); (case side3 => repeat (first | exact (Kd.C_below HR0_6.out HB.out) | (with_reducible refine Kd.C_alloc ?_ _) | (with_reducible refine Kd.C_drewN ?_ _) | (with_reducible refine Kd.C_drew ?_))); (case side4 => exact HC0_6.out); rintro e w61 ⟨rfl, hb⟩; refine ⟨_, rfl, ?_⟩; have n0_ := Aside0.mk (blk_below (g := gb161) (o := .cells #[.int .i64 a0_0, .int .i64 a0_1, .int .i64 a0_2, .int .i64 a0_3, .int .i64 a0_4, .slice A0_5 l0_5.length c0_5, .slice A0_6 l0_6.length c0_6] 49 (0, 0)) (by (with_reducible repeat (first | refine blk_drewN ?_ _ | refine blk_drew ?_ | refine blk_alloc ?_ _)); exact BK161.out) hb); have n1_ := Aside0.mk (below_step (by repeat (first | (with_reducible first | exact HB.out | apply below_alloc | apply pw_below_drewN | apply below_drew1 | refine below_set ?_ GE161.out) | exact HB.out)) hb); clear BK161; clear HB; have BK161 := n0_; have HB := n1_; clear n0_ n1_; (try clear hb); (try clear hb2); (try clear hk); (try clear hi)))
                                  go_ret
                                  exact ⟨by first | rfl | (simp [errW_none, errW_some] <;> rfl) | (simp [*, errW_none, errW_some] <;> rfl), by repeat (first | (with_reducible first | exact HB.out | apply below_alloc | apply pw_below_drewN | apply below_drew1 | refine below_set ?_ GE161.out) | exact HB.out)⟩
  · replace c4 := Bool.eq_false_iff.mpr c4
    subst c4
    have H1 : (some false) = some r := by rw [if_neg (show ¬ (false = true) by decide)] at H; exact H
    clear H
    have H := H1
    clear H1
    obtain rfl := Option.some.inj H
    go_enter Try.func9, Try.ntmps9
    go_wp2_with (first | ((with_reducible refine gate_dst (N := 2) rfl ?_); (try (refine gate_guard (by rfl) ?_; dsimp only)); refine box_event ?hg (N := 2) ?hd (cs := #[.int .i64 a0_0, .int .i64 a0_1, .int .i64 a0_2, .int .i64 a0_3, .int .i64 a0_4, .slice A0_5 l0_5.length c0_5, .slice A0_6 l0_6.length c0_6]) (t := 49) ?hr ?_; (case hd => rfl); (case hg => rfl); (case hr => first | (go_simp; done) | (go_simp; rfl)); intro gb161 hg w62 hbox hb; have n0_ := Aside0.mk (below_step (by repeat (first | (with_reducible first | exact HB.out | apply below_alloc | apply pw_below_drewN | apply below_drew1) | exact HB.out)) hb); have n1_ := Aside0.mk (hbox); have n2_ := Aside0.mk ((by rw [hg]; exact (below_size (by repeat (first | (with_reducible first | exact HB.out | apply below_alloc | apply pw_below_drewN | apply below_drew1) | exact HB.out))) : w.heap.size ≤ gb161)); have n3_ := Aside0.mk ((by rw [hg]; exact (below_size (by repeat (first | (with_reducible first | exact HB.out | apply below_alloc | apply pw_below_drewN | apply below_drew1) | exact HB.out))) : w.heap.size ≤ gb161)); clear HB; have HB := n0_; have BK161 := n1_; have GW161 := n2_; have GE161 := n3_; clear n0_ n1_ n2_ n3_; clear hb hbox hg) | ((with_reducible refine gate_callee (f := 27) rfl ?_); refine goesL_ (some 13) rfl rfl Try.func27 (by kernel_rfl) rfl #[] rfl (by (try simp only [List.map_toArray, List.map_cons, List.map_nil]); first | done | rfl | (simp only [List.length_drop, List.length_take]; rfl)) ?_; (with_reducible refine (revenantlaw22_awake.calls  false _ A3.out).mono ?_); rintro e w63 ⟨rfl, hb⟩; refine ⟨_, rfl, ?_⟩; have n0_ := Aside0.mk (blk_below (g := gb161) (o := .cells #[.int .i64 a0_0, .int .i64 a0_1, .int .i64 a0_2, .int .i64 a0_3, .int .i64 a0_4, .slice A0_5 l0_5.length c0_5, .slice A0_6 l0_6.length c0_6] 49 (0, 0)) (by (with_reducible repeat (first | refine blk_drewN ?_ _ | refine blk_drew ?_ | refine blk_alloc ?_ _)); exact BK161.out) hb); have n1_ := Aside0.mk (below_step (by repeat (first | (with_reducible first | exact HB.out | apply below_alloc | apply pw_below_drewN | apply below_drew1 | refine below_set ?_ GE161.out) | exact HB.out)) hb); clear BK161; clear HB; have BK161 := n0_; have HB := n1_; clear n0_ n1_; (try clear hb); (try clear hb2); (try clear hk); (try clear hi)))
    go_ret
    exact ⟨by first | rfl | (simp [errW_none, errW_some] <;> rfl) | (simp [*, errW_none, errW_some] <;> rfl), by repeat (first | (with_reducible first | exact HB.out | apply below_alloc | apply pw_below_drewN | apply below_drew1 | refine below_set ?_ GE161.out) | exact HB.out)⟩

end Go.Proofs.Ytcphmelmieedfaa.PScriptCounts
