-- WRITTEN BY A PROGRAM OF THIS SESSION (place.py, prune.py): walks of plain functions.
-- WRITTEN BY A PROGRAM OF THIS SESSION (xprint.sh): the walks of plain functions over contracts of my own.
import Derived.Test.YtcncndhoeiaoeaaDoorPPlaceExactx0
import Derived.Test.YtcncndhoeiaoeaaDoorPPlaceExactx1
import Derived.Test.YtcncndhoeiaoeaaDoorPPlaceExactx3
import Derived.Test.YtcncndhoeiaoeaaDoorPPlaceExactx4
import Derived.Test.YtcncndhoeiaoeaaDoorAw
import Derived.Test.YtcncndhoeiaoeaaDoorPPlaceExactx8
import Derived.Test.YtcncndhoeiaoeaaDoorPPlaceExactx9
namespace Go.Proofs.YtcncndhoeiaoeaaDoor.PPlaceExact
open Go.RowKit Go.Proofs.YtcncndhoeiaoeaaDoorW.PrintWords Go.Proofs.YtcncndhoeiaoeaaDoorW.PrintLast Go.Proofs.YtcncndhoeiaoeaaDoorW.PrintMore
attribute [local go_sem] max2_int min2_int max_two min_two max_three min_three max_four min_four   -- for this text's walks alone
set_option linter.unusedVariables false
set_option linter.unusedSimpArgs false

attribute [local go_sem high] eqA25
/-! ### revenantlaw05_PlaceExact: function 3 -/
mutual
def revenantlaw05_PlaceExact.j0 : Nat → Int → Bool → Int → Int → Int → Int → Int → Int → Int → Int → Option (Bool)
  | 0, _, _, _, _, _, _, _, _, _, _ => none
  | k + 1, x2, x51, x224000, x224001, x224002, x224003, x224004, x225000, x225001, x225002 => if x51 = true then (some false) else ((place_IsContent.f x225000 x225001 x225002).bind fun t231 => (if x225000 = 5 then (if x225002 ≥ 0 then (if x225002 = 1 then (revenantlaw05_PlaceExact.j1 k x2 (t231 != false) x224000 x224001 x224002 x224003 x224004) else (revenantlaw05_PlaceExact.j1 k x2 (t231 != (x225002 != 2)) x224000 x224001 x224002 x224003 x224004)) else (revenantlaw05_PlaceExact.j1 k x2 (t231 != false) x224000 x224001 x224002 x224003 x224004)) else (revenantlaw05_PlaceExact.j1 k x2 (t231 != false) x224000 x224001 x224002 x224003 x224004)))
def revenantlaw05_PlaceExact.j1 : Nat → Int → Bool → Int → Int → Int → Int → Int → Option (Bool)
  | 0, _, _, _, _, _, _, _ => none
  | k + 1, x2, x72, x224000, x224001, x224002, x224003, x224004 => if x72 = true then (some false) else ((revenantref03_Check.f k x224000 x224001 x224002 x224003 x224004).bind fun t232 => (if t232 = 0 then ((revenantref03_Roots.f k x224000 x224001 x224002 x224003 x224004).bind fun t233 => (revenantlaw05_PlaceExact.j2 k x2 (wrap64 ((wrap64 (3 + t233)) + (wrap64 (x224001 * (wrap64 (7 + x224003)))))) x224000 x224001 x224002 x224003 x224004)) else (revenantlaw05_PlaceExact.j2 k x2 0 x224000 x224001 x224002 x224003 x224004)))
def revenantlaw05_PlaceExact.j2 : Nat → Int → Int → Int → Int → Int → Int → Int → Option (Bool)
  | 0, _, _, _, _, _, _, _ => none
  | k + 1, x2, x10, x224000, x224001, x224002, x224003, x224004 => (place_At.f k x224000 x224001 x224002 x224003 x224004 x2).bind fun bt234 => (if x2 < 0 then (revenantlaw05_PlaceExact.j3 k x2 x10 bt234.2.2.2 true x224000 x224001 x224002 x224003 x224004 bt234.1 bt234.2.1 bt234.2.2.1) else (revenantlaw05_PlaceExact.j3 k x2 x10 bt234.2.2.2 (decide (x2 ≥ x10)) x224000 x224001 x224002 x224003 x224004 bt234.1 bt234.2.1 bt234.2.2.1))
def revenantlaw05_PlaceExact.j3 : Nat → Int → Int → Bool → Bool → Int → Int → Int → Int → Int → Int → Int → Int → Option (Bool)
  | 0, _, _, _, _, _, _, _, _, _, _, _, _ => none
  | k + 1, x2, x10, x12, x98, x224000, x224001, x224002, x224003, x224004, x239000, x239001, x239002 => if x98 = true then ((place_Count.f k x224000 x224001 x224002 x224003 x224004).bind fun t239 => (if t239 = x10 then (if x12 = true then (some false) else (some (x239000 == 0 && (x239001 == 0 && (x239002 == 0))))) else (some false))) else ((place_Count.f k x224000 x224001 x224002 x224003 x224004).bind fun t240 => (if t240 = x10 then (if x12 = true then ((revenantref05_Is.f k x224000 x224001 x224002 x224003 x224004 x239000 x239001 x239002).bind fun t241 => (if t241 = true then ((revenantref05_Number.f k x224000 x224001 x224002 x224003 x224004 x239000 x239001 x239002).bind fun t242 => (some (t242 == x2))) else (some false))) else (some false)) else (some false)))
end
def revenantlaw05_PlaceExact.f (k : Nat) (a0_0 : Int) (a0_1 : Int) (a0_2 : Int) (a0_3 : Int) (a0_4 : Int) (a1_0 : Int) (a1_1 : Int) (a1_2 : Int) (a2 : Int) : Option (Bool) := (revenantlaw05_awake.f k).bind fun t225 => (if t225 = true then ((revenantref05_Is.f k a0_0 a0_1 a0_2 a0_3 a0_4 a1_0 a1_1 a1_2).bind fun t226 => ((place_Number.f k a0_0 a0_1 a0_2 a0_3 a0_4 a1_0 a1_1 a1_2).bind fun bt227 => ((place_Is.f k a0_0 a0_1 a0_2 a0_3 a0_4 a1_0 a1_1 a1_2).bind fun t229 => (if (t229 != t226) = true then (revenantlaw05_PlaceExact.j0 k a2 true a0_0 a0_1 a0_2 a0_3 a0_4 a1_0 a1_1 a1_2) else (if (bt227.2 != t226) = true then (revenantlaw05_PlaceExact.j0 k a2 true a0_0 a0_1 a0_2 a0_3 a0_4 a1_0 a1_1 a1_2) else (if t226 = true then ((revenantref05_Number.f k a0_0 a0_1 a0_2 a0_3 a0_4 a1_0 a1_1 a1_2).bind fun t230 => (revenantlaw05_PlaceExact.j0 k a2 (bt227.1 != t230) a0_0 a0_1 a0_2 a0_3 a0_4 a1_0 a1_1 a1_2)) else (if bt227.1 = 0 then (revenantlaw05_PlaceExact.j0 k a2 false a0_0 a0_1 a0_2 a0_3 a0_4 a1_0 a1_1 a1_2) else (revenantlaw05_PlaceExact.j0 k a2 true a0_0 a0_1 a0_2 a0_3 a0_4 a1_0 a1_1 a1_2)))))))) else (some false))
theorem revenantlaw05_PlaceExact.mono_l : ∀ k, (∀ y0 y1 y2 y3 y4 y5 y6 y7 y8 y9, LeO (revenantlaw05_PlaceExact.j0 k y0 y1 y2 y3 y4 y5 y6 y7 y8 y9) (revenantlaw05_PlaceExact.j0 (k + 1) y0 y1 y2 y3 y4 y5 y6 y7 y8 y9)) ∧ (∀ y0 y1 y2 y3 y4 y5 y6, LeO (revenantlaw05_PlaceExact.j1 k y0 y1 y2 y3 y4 y5 y6) (revenantlaw05_PlaceExact.j1 (k + 1) y0 y1 y2 y3 y4 y5 y6)) ∧ (∀ y0 y1 y2 y3 y4 y5 y6, LeO (revenantlaw05_PlaceExact.j2 k y0 y1 y2 y3 y4 y5 y6) (revenantlaw05_PlaceExact.j2 (k + 1) y0 y1 y2 y3 y4 y5 y6)) ∧ (∀ y0 y1 y2 y3 y4 y5 y6 y7 y8 y9 y10 y11, LeO (revenantlaw05_PlaceExact.j3 k y0 y1 y2 y3 y4 y5 y6 y7 y8 y9 y10 y11) (revenantlaw05_PlaceExact.j3 (k + 1) y0 y1 y2 y3 y4 y5 y6 y7 y8 y9 y10 y11))
  | 0 => ⟨fun _ _ _ _ _ _ _ _ _ _ r h => by simp [revenantlaw05_PlaceExact.j0] at h, fun _ _ _ _ _ _ _ r h => by simp [revenantlaw05_PlaceExact.j1] at h, fun _ _ _ _ _ _ _ r h => by simp [revenantlaw05_PlaceExact.j2] at h, fun _ _ _ _ _ _ _ _ _ _ _ _ r h => by simp [revenantlaw05_PlaceExact.j3] at h⟩
  | k + 1 => by
    obtain ⟨ih0, ih1, ih2, ih3⟩ := revenantlaw05_PlaceExact.mono_l k
    refine ⟨?_, ?_, ?_, ?_⟩
    · intro y0 y1 y2 y3 y4 y5 y6 y7 y8 y9
      unfold revenantlaw05_PlaceExact.j0
      repeat' first
      | (with_reducible exact ih0 _ _ _ _ _ _ _ _ _ _)
      | (with_reducible exact ih1 _ _ _ _ _ _ _)
      | (with_reducible exact ih2 _ _ _ _ _ _ _)
      | (with_reducible exact ih3 _ _ _ _ _ _ _ _ _ _ _ _)
      | (with_reducible exact place_At.mono _ _ _ _ _ _ _)
      | (with_reducible exact place_Count.mono _ _ _ _ _ _)
      | (with_reducible exact place_Is.mono _ _ _ _ _ _ _ _ _)
      | (with_reducible exact place_Number.mono _ _ _ _ _ _ _ _ _)
      | (with_reducible exact revenantlaw05_awake.mono _)
      | (with_reducible exact revenantref03_Check.mono _ _ _ _ _ _)
      | (with_reducible exact revenantref03_Roots.mono _ _ _ _ _ _)
      | (with_reducible exact revenantref05_Is.mono _ _ _ _ _ _ _ _ _)
      | (with_reducible exact revenantref05_Number.mono _ _ _ _ _ _ _ _ _)
      | (with_reducible exact LeO.refl _)
      | (with_reducible exact LeO.none _)
      | (with_reducible refine LeO.ite ?_ ?_)
      | (with_reducible refine LeO.bind ?_ (fun _ => ?_))
      | exact ih0 _ _ _ _ _ _ _ _ _ _
      | exact ih1 _ _ _ _ _ _ _
      | exact ih2 _ _ _ _ _ _ _
      | exact ih3 _ _ _ _ _ _ _ _ _ _ _ _
      | exact place_At.mono _ _ _ _ _ _ _
      | exact place_Count.mono _ _ _ _ _ _
      | exact place_Is.mono _ _ _ _ _ _ _ _ _
      | exact place_Number.mono _ _ _ _ _ _ _ _ _
      | exact revenantlaw05_awake.mono _
      | exact revenantref03_Check.mono _ _ _ _ _ _
      | exact revenantref03_Roots.mono _ _ _ _ _ _
      | exact revenantref05_Is.mono _ _ _ _ _ _ _ _ _
      | exact revenantref05_Number.mono _ _ _ _ _ _ _ _ _
      | exact LeO.none _
      | refine LeO.ite ?_ ?_
      | refine LeO.bind ?_ (fun _ => ?_)
    · intro y0 y1 y2 y3 y4 y5 y6
      unfold revenantlaw05_PlaceExact.j1
      repeat' first
      | (with_reducible exact ih0 _ _ _ _ _ _ _ _ _ _)
      | (with_reducible exact ih1 _ _ _ _ _ _ _)
      | (with_reducible exact ih2 _ _ _ _ _ _ _)
      | (with_reducible exact ih3 _ _ _ _ _ _ _ _ _ _ _ _)
      | (with_reducible exact place_At.mono _ _ _ _ _ _ _)
      | (with_reducible exact place_Count.mono _ _ _ _ _ _)
      | (with_reducible exact place_Is.mono _ _ _ _ _ _ _ _ _)
      | (with_reducible exact place_Number.mono _ _ _ _ _ _ _ _ _)
      | (with_reducible exact revenantlaw05_awake.mono _)
      | (with_reducible exact revenantref03_Check.mono _ _ _ _ _ _)
      | (with_reducible exact revenantref03_Roots.mono _ _ _ _ _ _)
      | (with_reducible exact revenantref05_Is.mono _ _ _ _ _ _ _ _ _)
      | (with_reducible exact revenantref05_Number.mono _ _ _ _ _ _ _ _ _)
      | (with_reducible exact LeO.refl _)
      | (with_reducible exact LeO.none _)
      | (with_reducible refine LeO.ite ?_ ?_)
      | (with_reducible refine LeO.bind ?_ (fun _ => ?_))
      | exact ih0 _ _ _ _ _ _ _ _ _ _
      | exact ih1 _ _ _ _ _ _ _
      | exact ih2 _ _ _ _ _ _ _
      | exact ih3 _ _ _ _ _ _ _ _ _ _ _ _
      | exact place_At.mono _ _ _ _ _ _ _
      | exact place_Count.mono _ _ _ _ _ _
      | exact place_Is.mono _ _ _ _ _ _ _ _ _
      | exact place_Number.mono _ _ _ _ _ _ _ _ _
      | exact revenantlaw05_awake.mono _
      | exact revenantref03_Check.mono _ _ _ _ _ _
      | exact revenantref03_Roots.mono _ _ _ _ _ _
      | exact revenantref05_Is.mono _ _ _ _ _ _ _ _ _
      | exact revenantref05_Number.mono _ _ _ _ _ _ _ _ _
      | exact LeO.none _
      | refine LeO.ite ?_ ?_
      | refine LeO.bind ?_ (fun _ => ?_)
    · intro y0 y1 y2 y3 y4 y5 y6
      unfold revenantlaw05_PlaceExact.j2
      repeat' first
      | (with_reducible exact ih0 _ _ _ _ _ _ _ _ _ _)
      | (with_reducible exact ih1 _ _ _ _ _ _ _)
      | (with_reducible exact ih2 _ _ _ _ _ _ _)
      | (with_reducible exact ih3 _ _ _ _ _ _ _ _ _ _ _ _)
      | (with_reducible exact place_At.mono _ _ _ _ _ _ _)
      | (with_reducible exact place_Count.mono _ _ _ _ _ _)
      | (with_reducible exact place_Is.mono _ _ _ _ _ _ _ _ _)
      | (with_reducible exact place_Number.mono _ _ _ _ _ _ _ _ _)
      | (with_reducible exact revenantlaw05_awake.mono _)
      | (with_reducible exact revenantref03_Check.mono _ _ _ _ _ _)
      | (with_reducible exact revenantref03_Roots.mono _ _ _ _ _ _)
      | (with_reducible exact revenantref05_Is.mono _ _ _ _ _ _ _ _ _)
      | (with_reducible exact revenantref05_Number.mono _ _ _ _ _ _ _ _ _)
      | (with_reducible exact LeO.refl _)
      | (with_reducible exact LeO.none _)
      | (with_reducible refine LeO.ite ?_ ?_)
      | (with_reducible refine LeO.bind ?_ (fun _ => ?_))
      | exact ih0 _ _ _ _ _ _ _ _ _ _
      | exact ih1 _ _ _ _ _ _ _
      | exact ih2 _ _ _ _ _ _ _
      | exact ih3 _ _ _ _ _ _ _ _ _ _ _ _
      | exact place_At.mono _ _ _ _ _ _ _
      | exact place_Count.mono _ _ _ _ _ _
      | exact place_Is.mono _ _ _ _ _ _ _ _ _
      | exact place_Number.mono _ _ _ _ _ _ _ _ _
      | exact revenantlaw05_awake.mono _
      | exact revenantref03_Check.mono _ _ _ _ _ _
      | exact revenantref03_Roots.mono _ _ _ _ _ _
      | exact revenantref05_Is.mono _ _ _ _ _ _ _ _ _
      | exact revenantref05_Number.mono _ _ _ _ _ _ _ _ _
      | exact LeO.none _
      | refine LeO.ite ?_ ?_
      | refine LeO.bind ?_ (fun _ => ?_)
    · intro y0 y1 y2 y3 y4 y5 y6 y7 y8 y9 y10 y11
      unfold revenantlaw05_PlaceExact.j3
      repeat' first
      | (with_reducible exact ih0 _ _ _ _ _ _ _ _ _ _)
      | (with_reducible exact ih1 _ _ _ _ _ _ _)
      | (with_reducible exact ih2 _ _ _ _ _ _ _)
      | (with_reducible exact ih3 _ _ _ _ _ _ _ _ _ _ _ _)
      | (with_reducible exact place_At.mono _ _ _ _ _ _ _)
      | (with_reducible exact place_Count.mono _ _ _ _ _ _)
      | (with_reducible exact place_Is.mono _ _ _ _ _ _ _ _ _)
      | (with_reducible exact place_Number.mono _ _ _ _ _ _ _ _ _)
      | (with_reducible exact revenantlaw05_awake.mono _)
      | (with_reducible exact revenantref03_Check.mono _ _ _ _ _ _)
      | (with_reducible exact revenantref03_Roots.mono _ _ _ _ _ _)
      | (with_reducible exact revenantref05_Is.mono _ _ _ _ _ _ _ _ _)
      | (with_reducible exact revenantref05_Number.mono _ _ _ _ _ _ _ _ _)
      | (with_reducible exact LeO.refl _)
      | (with_reducible exact LeO.none _)
      | (with_reducible refine LeO.ite ?_ ?_)
      | (with_reducible refine LeO.bind ?_ (fun _ => ?_))
      | exact ih0 _ _ _ _ _ _ _ _ _ _
      | exact ih1 _ _ _ _ _ _ _
      | exact ih2 _ _ _ _ _ _ _
      | exact ih3 _ _ _ _ _ _ _ _ _ _ _ _
      | exact place_At.mono _ _ _ _ _ _ _
      | exact place_Count.mono _ _ _ _ _ _
      | exact place_Is.mono _ _ _ _ _ _ _ _ _
      | exact place_Number.mono _ _ _ _ _ _ _ _ _
      | exact revenantlaw05_awake.mono _
      | exact revenantref03_Check.mono _ _ _ _ _ _
      | exact revenantref03_Roots.mono _ _ _ _ _ _
      | exact revenantref05_Is.mono _ _ _ _ _ _ _ _ _
      | exact revenantref05_Number.mono _ _ _ _ _ _ _ _ _
      | exact LeO.none _
      | refine LeO.ite ?_ ?_
      | refine LeO.bind ?_ (fun _ => ?_)
theorem revenantlaw05_PlaceExact.mono : ∀ a0 a1 a2 a3 a4 a5 a6 a7 a8 k, LeO (revenantlaw05_PlaceExact.f k a0 a1 a2 a3 a4 a5 a6 a7 a8) (revenantlaw05_PlaceExact.f (k + 1) a0 a1 a2 a3 a4 a5 a6 a7 a8) := by
  intro a0 a1 a2 a3 a4 a5 a6 a7 a8 k
  obtain ⟨ih0, ih1, ih2, ih3⟩ := revenantlaw05_PlaceExact.mono_l k
  unfold revenantlaw05_PlaceExact.f
  repeat' first
      | (with_reducible exact ih0 _ _ _ _ _ _ _ _ _ _)
      | (with_reducible exact ih1 _ _ _ _ _ _ _)
      | (with_reducible exact ih2 _ _ _ _ _ _ _)
      | (with_reducible exact ih3 _ _ _ _ _ _ _ _ _ _ _ _)
      | (with_reducible exact place_At.mono _ _ _ _ _ _ _)
      | (with_reducible exact place_Count.mono _ _ _ _ _ _)
      | (with_reducible exact place_Is.mono _ _ _ _ _ _ _ _ _)
      | (with_reducible exact place_Number.mono _ _ _ _ _ _ _ _ _)
      | (with_reducible exact revenantlaw05_awake.mono _)
      | (with_reducible exact revenantref03_Check.mono _ _ _ _ _ _)
      | (with_reducible exact revenantref03_Roots.mono _ _ _ _ _ _)
      | (with_reducible exact revenantref05_Is.mono _ _ _ _ _ _ _ _ _)
      | (with_reducible exact revenantref05_Number.mono _ _ _ _ _ _ _ _ _)
      | (with_reducible exact LeO.refl _)
      | (with_reducible exact LeO.none _)
      | (with_reducible refine LeO.ite ?_ ?_)
      | (with_reducible refine LeO.bind ?_ (fun _ => ?_))
      | exact ih0 _ _ _ _ _ _ _ _ _ _
      | exact ih1 _ _ _ _ _ _ _
      | exact ih2 _ _ _ _ _ _ _
      | exact ih3 _ _ _ _ _ _ _ _ _ _ _ _
      | exact place_At.mono _ _ _ _ _ _ _
      | exact place_Count.mono _ _ _ _ _ _
      | exact place_Is.mono _ _ _ _ _ _ _ _ _
      | exact place_Number.mono _ _ _ _ _ _ _ _ _
      | exact revenantlaw05_awake.mono _
      | exact revenantref03_Check.mono _ _ _ _ _ _
      | exact revenantref03_Roots.mono _ _ _ _ _ _
      | exact revenantref05_Is.mono _ _ _ _ _ _ _ _ _
      | exact revenantref05_Number.mono _ _ _ _ _ _ _ _ _
      | exact LeO.none _
      | refine LeO.ite ?_ ?_
      | refine LeO.bind ?_ (fun _ => ?_)
def revenantlaw05_PlaceExact.T7 : Bool × List (List Nat × List Nat) := (true, [([], []), ([0], [0]), ([], []), ([2], [2]), ([3], [3]), ([4, 1], [4]), ([5], [5]), ([6, 5], [5, 6]), ([7, 5], [5, 7]), ([5, 8], [5, 8]), ([9, 5], [9]), ([10], [10]), ([11, 10], [10, 11]), ([12, 10], [10, 12]), ([10, 13], [10, 13]), ([14, 10], [14]), ([15], [15]), ([16, 15], [15, 16]), ([17, 15], [15, 17]), ([15, 18], [15, 18]), ([1, 19], [1, 19])])
def revenantlaw05_PlaceExact.B7 : List Nat := [0, 1, 0, 4, 12, 31, 63, 127, 255, 511, 1023, 2047, 4095, 8191, 16383, 32767, 65535, 131071, 262143, 524287, 1048575]
theorem revenantlaw05_PlaceExact.tab7 : rtab .any (opsOf Tryd.f3 7) = revenantlaw05_PlaceExact.T7 := by kernel_rfl
theorem revenantlaw05_PlaceExact.bits7 : waitsOk revenantlaw05_PlaceExact.T7.2 revenantlaw05_PlaceExact.B7 = true := by kernel_rfl
def revenantlaw05_PlaceExact.T11 : Bool × List (List Nat × List Nat) := (true, [([], []), ([0], [0]), ([1], [1]), ([], []), ([3], [3]), ([], []), ([5], [5]), ([6], [6]), ([4, 7], [4, 7]), ([2, 8], [2, 8]), ([9, 1, 0, 1, 2, 3, 4, 5, 6, 7, 8, 9], [9])])
def revenantlaw05_PlaceExact.B11 : List Nat := [0, 1, 3, 0, 8, 0, 32, 96, 248, 511, 1023]
theorem revenantlaw05_PlaceExact.tab11 : rtab .any (opsOf Tryd.f3 11) = revenantlaw05_PlaceExact.T11 := by kernel_rfl
theorem revenantlaw05_PlaceExact.bits11 : waitsOk revenantlaw05_PlaceExact.T11.2 revenantlaw05_PlaceExact.B11 = true := by kernel_rfl
theorem revenantlaw05_PlaceExact.j0_no {k : Nat} {y0 : Int} {y2 : Int} {y3 : Int} {y4 : Int} {y5 : Int} {y6 : Int} {y7 : Int} {y8 : Int} {y9 : Int} {r : Bool} (h : revenantlaw05_PlaceExact.j0 k y0 true y2 y3 y4 y5 y6 y7 y8 y9 = some r) : r = false := by
  cases k with
  | zero => exact absurd h (by simp [revenantlaw05_PlaceExact.j0])
  | succ k => exact (Option.some.inj (by simpa only [revenantlaw05_PlaceExact.j0, if_true] using h)).symm
theorem revenantlaw05_PlaceExact.j1_no {k : Nat} {y0 : Int} {y2 : Int} {y3 : Int} {y4 : Int} {y5 : Int} {y6 : Int} {r : Bool} (h : revenantlaw05_PlaceExact.j1 k y0 true y2 y3 y4 y5 y6 = some r) : r = false := by
  cases k with
  | zero => exact absurd h (by simp [revenantlaw05_PlaceExact.j1])
  | succ k => exact (Option.some.inj (by simpa only [revenantlaw05_PlaceExact.j1, if_true] using h)).symm
set_option maxHeartbeats 8000000 in
set_option maxRecDepth 100000 in
theorem revenantlaw05_PlaceExact.callsT (k : Nat) (a0_0 : Int) (a0_1 : Int) (a0_2 : Int) (a0_3 : Int) (a0_4 : Int) (a1_0 : Int) (a1_1 : Int) (a1_2 : Int) (a2 : Int) (r : Bool) (w : World) (hr0 : r = true) (h : revenantlaw05_PlaceExact.f k a0_0 a0_1 a0_2 a0_3 a0_4 a1_0 a1_1 a1_2 a2 = some r) :
    Calls Tryd.prog 3 #[.agg #[.int .i64 a0_0, .int .i64 a0_1, .int .i64 a0_2, .int .i64 a0_3, .int .i64 a0_4], .agg #[.int .i64 a1_0, .int .i64 a1_1, .int .i64 a1_2], .int .i64 a2] w fun e w' => e = .returned (.bool r) ∧ Below w.heap.size w w' := by
  have hu23 := Tryd.underlying23
  have hu25 := Tryd.underlying25
  have HB := Aside0.mk (Below.refl w.heap.size w)
  have HR := Aside0.mk hr0
  clear hr0
  have H : ((revenantlaw05_awake.f k).bind fun t225 => (if t225 = true then ((revenantref05_Is.f k a0_0 a0_1 a0_2 a0_3 a0_4 a1_0 a1_1 a1_2).bind fun t226 => ((place_Number.f k a0_0 a0_1 a0_2 a0_3 a0_4 a1_0 a1_1 a1_2).bind fun bt227 => ((place_Is.f k a0_0 a0_1 a0_2 a0_3 a0_4 a1_0 a1_1 a1_2).bind fun t229 => (if (t229 != t226) = true then (revenantlaw05_PlaceExact.j0 k a2 true a0_0 a0_1 a0_2 a0_3 a0_4 a1_0 a1_1 a1_2) else (if (bt227.2 != t226) = true then (revenantlaw05_PlaceExact.j0 k a2 true a0_0 a0_1 a0_2 a0_3 a0_4 a1_0 a1_1 a1_2) else (if t226 = true then ((revenantref05_Number.f k a0_0 a0_1 a0_2 a0_3 a0_4 a1_0 a1_1 a1_2).bind fun t230 => (revenantlaw05_PlaceExact.j0 k a2 (bt227.1 != t230) a0_0 a0_1 a0_2 a0_3 a0_4 a1_0 a1_1 a1_2)) else (if bt227.1 = 0 then (revenantlaw05_PlaceExact.j0 k a2 false a0_0 a0_1 a0_2 a0_3 a0_4 a1_0 a1_1 a1_2) else (revenantlaw05_PlaceExact.j0 k a2 true a0_0 a0_1 a0_2 a0_3 a0_4 a1_0 a1_1 a1_2)))))))) else (some false))) = some r := h
  clear h
  replace H := Option.bind_eq_some_iff.mp H
  obtain ⟨t225, A40, H⟩ := H
  replace H : (if t225 = true then ((revenantref05_Is.f k a0_0 a0_1 a0_2 a0_3 a0_4 a1_0 a1_1 a1_2).bind fun t226 => ((place_Number.f k a0_0 a0_1 a0_2 a0_3 a0_4 a1_0 a1_1 a1_2).bind fun bt227 => ((place_Is.f k a0_0 a0_1 a0_2 a0_3 a0_4 a1_0 a1_1 a1_2).bind fun t229 => (if (t229 != t226) = true then (revenantlaw05_PlaceExact.j0 k a2 true a0_0 a0_1 a0_2 a0_3 a0_4 a1_0 a1_1 a1_2) else (if (bt227.2 != t226) = true then (revenantlaw05_PlaceExact.j0 k a2 true a0_0 a0_1 a0_2 a0_3 a0_4 a1_0 a1_1 a1_2) else (if t226 = true then ((revenantref05_Number.f k a0_0 a0_1 a0_2 a0_3 a0_4 a1_0 a1_1 a1_2).bind fun t230 => (revenantlaw05_PlaceExact.j0 k a2 (bt227.1 != t230) a0_0 a0_1 a0_2 a0_3 a0_4 a1_0 a1_1 a1_2)) else (if bt227.1 = 0 then (revenantlaw05_PlaceExact.j0 k a2 false a0_0 a0_1 a0_2 a0_3 a0_4 a1_0 a1_1 a1_2) else (revenantlaw05_PlaceExact.j0 k a2 true a0_0 a0_1 a0_2 a0_3 a0_4 a1_0 a1_1 a1_2)))))))) else (some false)) = some r := H
  have A4 := Aside0.mk A40
  clear A40
  by_cases c5 : t225 = true
  · subst c5
    have H1 : ((revenantref05_Is.f k a0_0 a0_1 a0_2 a0_3 a0_4 a1_0 a1_1 a1_2).bind fun t226 => ((place_Number.f k a0_0 a0_1 a0_2 a0_3 a0_4 a1_0 a1_1 a1_2).bind fun bt227 => ((place_Is.f k a0_0 a0_1 a0_2 a0_3 a0_4 a1_0 a1_1 a1_2).bind fun t229 => (if (t229 != t226) = true then (revenantlaw05_PlaceExact.j0 k a2 true a0_0 a0_1 a0_2 a0_3 a0_4 a1_0 a1_1 a1_2) else (if (bt227.2 != t226) = true then (revenantlaw05_PlaceExact.j0 k a2 true a0_0 a0_1 a0_2 a0_3 a0_4 a1_0 a1_1 a1_2) else (if t226 = true then ((revenantref05_Number.f k a0_0 a0_1 a0_2 a0_3 a0_4 a1_0 a1_1 a1_2).bind fun t230 => (revenantlaw05_PlaceExact.j0 k a2 (bt227.1 != t230) a0_0 a0_1 a0_2 a0_3 a0_4 a1_0 a1_1 a1_2)) else (if bt227.1 = 0 then (revenantlaw05_PlaceExact.j0 k a2 false a0_0 a0_1 a0_2 a0_3 a0_4 a1_0 a1_1 a1_2) else (revenantlaw05_PlaceExact.j0 k a2 true a0_0 a0_1 a0_2 a0_3 a0_4 a1_0 a1_1 a1_2)))))))) = some r := by rw [if_pos rfl] at H; exact H
    clear H
    have H := H1
    clear H1
    replace H := Option.bind_eq_some_iff.mp H
    obtain ⟨t226, A60, H⟩ := H
    replace H : ((place_Number.f k a0_0 a0_1 a0_2 a0_3 a0_4 a1_0 a1_1 a1_2).bind fun bt227 => ((place_Is.f k a0_0 a0_1 a0_2 a0_3 a0_4 a1_0 a1_1 a1_2).bind fun t229 => (if (t229 != t226) = true then (revenantlaw05_PlaceExact.j0 k a2 true a0_0 a0_1 a0_2 a0_3 a0_4 a1_0 a1_1 a1_2) else (if (bt227.2 != t226) = true then (revenantlaw05_PlaceExact.j0 k a2 true a0_0 a0_1 a0_2 a0_3 a0_4 a1_0 a1_1 a1_2) else (if t226 = true then ((revenantref05_Number.f k a0_0 a0_1 a0_2 a0_3 a0_4 a1_0 a1_1 a1_2).bind fun t230 => (revenantlaw05_PlaceExact.j0 k a2 (bt227.1 != t230) a0_0 a0_1 a0_2 a0_3 a0_4 a1_0 a1_1 a1_2)) else (if bt227.1 = 0 then (revenantlaw05_PlaceExact.j0 k a2 false a0_0 a0_1 a0_2 a0_3 a0_4 a1_0 a1_1 a1_2) else (revenantlaw05_PlaceExact.j0 k a2 true a0_0 a0_1 a0_2 a0_3 a0_4 a1_0 a1_1 a1_2))))))) = some r := H
    have A6 := Aside0.mk A60
    clear A60
    replace H := Option.bind_eq_some_iff.mp H
    obtain ⟨⟨t227, t228⟩, A70, H⟩ := H
    replace H : ((place_Is.f k a0_0 a0_1 a0_2 a0_3 a0_4 a1_0 a1_1 a1_2).bind fun t229 => (if (t229 != t226) = true then (revenantlaw05_PlaceExact.j0 k a2 true a0_0 a0_1 a0_2 a0_3 a0_4 a1_0 a1_1 a1_2) else (if (t228 != t226) = true then (revenantlaw05_PlaceExact.j0 k a2 true a0_0 a0_1 a0_2 a0_3 a0_4 a1_0 a1_1 a1_2) else (if t226 = true then ((revenantref05_Number.f k a0_0 a0_1 a0_2 a0_3 a0_4 a1_0 a1_1 a1_2).bind fun t230 => (revenantlaw05_PlaceExact.j0 k a2 (t227 != t230) a0_0 a0_1 a0_2 a0_3 a0_4 a1_0 a1_1 a1_2)) else (if t227 = 0 then (revenantlaw05_PlaceExact.j0 k a2 false a0_0 a0_1 a0_2 a0_3 a0_4 a1_0 a1_1 a1_2) else (revenantlaw05_PlaceExact.j0 k a2 true a0_0 a0_1 a0_2 a0_3 a0_4 a1_0 a1_1 a1_2)))))) = some r := H
    have A7 := Aside0.mk A70
    clear A70
    have HC8 := Aside0.mk H
    clear H
    go_enter Tryd.func3, Tryd.ntmps3
    go_upto_region 5 with (first | ((with_reducible refine gate_dst (N := 3) rfl ?_); refine box_event ?hg (N := 3) ?hd (cs := #[.int .i64 a0_0, .int .i64 a0_1, .int .i64 a0_2, .int .i64 a0_3, .int .i64 a0_4]) (t := 23) ?hr ?_; (case hd => rfl); (case hg => rfl); (case hr => first | (go_simp; done) | (go_simp; rfl)); intro gb223 hg w9 hbox hb; have n0_ := Aside0.mk (below_step (by repeat (first | (with_reducible first | exact HB.out | apply below_alloc | apply pw_below_drewN | apply below_drew1) | exact HB.out)) hb); have n1_ := Aside0.mk (hbox); have n2_ := Aside0.mk ((by rw [hg]; exact (below_size (by repeat (first | (with_reducible first | exact HB.out | apply below_alloc | apply pw_below_drewN | apply below_drew1) | exact HB.out))) : w.heap.size ≤ gb223)); have n3_ := Aside0.mk ((by rw [hg]; exact (below_size (by repeat (first | (with_reducible first | exact HB.out | apply below_alloc | apply pw_below_drewN | apply below_drew1) | exact HB.out))) : w.heap.size ≤ gb223)); clear HB; have HB := n0_; have BK223 := n1_; have GW223 := n2_; have GE223 := n3_; clear n0_ n1_ n2_ n3_; clear hb hbox hg) | ((with_reducible refine gate_dst (N := 4) rfl ?_); refine box_event ?hg (N := 4) ?hd (cs := #[.int .i64 a1_0, .int .i64 a1_1, .int .i64 a1_2]) (t := 25) ?hr ?_; (case hd => rfl); (case hg => rfl); (case hr => first | (go_simp; done) | (go_simp; rfl)); intro gb224 hg w10 hbox hb; have n0_ := Aside0.mk (blk_below (g := gb223) (o := .cells #[.int .i64 a0_0, .int .i64 a0_1, .int .i64 a0_2, .int .i64 a0_3, .int .i64 a0_4] 23 (0, 0)) (by (with_reducible repeat (first | refine blk_drewN ?_ _ | refine blk_drew ?_ | refine blk_alloc ?_ _)); exact BK223.out) hb); have n1_ := Aside0.mk (below_step (by repeat (first | (with_reducible first | exact HB.out | apply below_alloc | apply pw_below_drewN | apply below_drew1 | refine below_set ?_ GE223.out) | exact HB.out)) hb); have n2_ := Aside0.mk (hbox); have n3_ := Aside0.mk ((by rw [hg]; exact (below_size (by repeat (first | (with_reducible first | exact HB.out | apply below_alloc | apply pw_below_drewN | apply below_drew1 | refine below_set ?_ GE223.out) | exact HB.out))) : w.heap.size ≤ gb224)); have n4_ := Aside0.mk ((by rw [hg]; exact (below_size (by repeat (first | (with_reducible first | exact HB.out | apply below_alloc | apply pw_below_drewN | apply below_drew1 | refine below_set ?_ GE223.out) | exact HB.out))) : w.heap.size ≤ gb224)); have n5_ := Aside0.mk ((by rw [hg]; exact Nat.ne_of_lt (blk_lt (g := gb223) (o := .cells #[.int .i64 a0_0, .int .i64 a0_1, .int .i64 a0_2, .int .i64 a0_3, .int .i64 a0_4] 23 (0, 0)) (by (with_reducible repeat (first | refine blk_drewN ?_ _ | refine blk_drew ?_ | refine blk_alloc ?_ _)); exact BK223.out)) : gb223 ≠ gb224)); have n6_ := Aside0.mk ((by rw [hg]; exact Nat.ne_of_gt (blk_lt (g := gb223) (o := .cells #[.int .i64 a0_0, .int .i64 a0_1, .int .i64 a0_2, .int .i64 a0_3, .int .i64 a0_4] 23 (0, 0)) (by (with_reducible repeat (first | refine blk_drewN ?_ _ | refine blk_drew ?_ | refine blk_alloc ?_ _)); exact BK223.out)) : gb224 ≠ gb223)); clear BK223; clear HB; have BK223 := n0_; have HB := n1_; have BK224 := n2_; have GW224 := n3_; have GE224 := n4_; have NB223_224 := n5_; have NB224_223 := n6_; clear n0_ n1_ n2_ n3_ n4_ n5_ n6_; clear hb hbox hg) | ((with_reducible refine gate_callee (f := 9) rfl ?_); refine goesL_ (some 13) rfl rfl Tryd.func9 (by kernel_rfl) rfl #[] rfl (by (try simp only [List.map_toArray, List.map_cons, List.map_nil]); first | done | rfl | (simp only [List.length_drop, List.length_take]; rfl)) ?_; (with_reducible refine (revenantlaw05_awake.calls k  true _ A4.out).mono ?_); rintro e w11 ⟨rfl, hb⟩; refine ⟨_, rfl, ?_⟩; have n0_ := Aside0.mk (blk_below (g := gb223) (o := .cells #[.int .i64 a0_0, .int .i64 a0_1, .int .i64 a0_2, .int .i64 a0_3, .int .i64 a0_4] 23 (0, 0)) (by (with_reducible repeat (first | refine blk_drewN ?_ _ | refine blk_drew ?_ | refine blk_alloc ?_ _)); exact BK223.out) hb); have n1_ := Aside0.mk (blk_below (g := gb224) (o := .cells #[.int .i64 a1_0, .int .i64 a1_1, .int .i64 a1_2] 25 (0, 0)) (by (with_reducible repeat (first | refine blk_drewN ?_ _ | refine blk_drew ?_ | refine blk_alloc ?_ _)); exact BK224.out) hb); have n2_ := Aside0.mk (below_step (by repeat (first | (with_reducible first | exact HB.out | apply below_alloc | apply pw_below_drewN | apply below_drew1 | refine below_set ?_ GE223.out | refine below_set ?_ GE224.out) | exact HB.out)) hb); clear BK223; clear BK224; clear HB; have BK223 := n0_; have BK224 := n1_; have HB := n2_; clear n0_ n1_ n2_; (try clear hb); (try clear hb2); (try clear hk); (try clear hi); have hnb12 := NB223_224.out; have hnc12 := NB224_223.out; have hcz13_0 : w11.cell? ⟨gb223, 0, none⟩ = some (.int .i64 a0_0) := (blk_cell BK223.out 0).trans rfl; have hcz13_1 : w11.cell? ⟨gb223, 1, none⟩ = some (.int .i64 a0_1) := (blk_cell BK223.out 1).trans rfl; have hcz13_2 : w11.cell? ⟨gb223, 2, none⟩ = some (.int .i64 a0_2) := (blk_cell BK223.out 2).trans rfl; have hcz13_3 : w11.cell? ⟨gb223, 3, none⟩ = some (.int .i64 a0_3) := (blk_cell BK223.out 3).trans rfl; have hcz13_4 : w11.cell? ⟨gb223, 4, none⟩ = some (.int .i64 a0_4) := (blk_cell BK223.out 4).trans rfl; have hfz13_0 := blk_frozen BK223.out 0; have hfz13_1 := blk_frozen BK223.out 1; have hfz13_2 := blk_frozen BK223.out 2; have hfz13_3 := blk_frozen BK223.out 3; have hfz13_4 := blk_frozen BK223.out 4; have hcz14_0 : w11.cell? ⟨gb224, 0, none⟩ = some (.int .i64 a1_0) := (blk_cell BK224.out 0).trans rfl; have hcz14_1 : w11.cell? ⟨gb224, 1, none⟩ = some (.int .i64 a1_1) := (blk_cell BK224.out 1).trans rfl; have hcz14_2 : w11.cell? ⟨gb224, 2, none⟩ = some (.int .i64 a1_2) := (blk_cell BK224.out 2).trans rfl; have hfz14_0 := blk_frozen BK224.out 0; have hfz14_1 := blk_frozen BK224.out 1; have hfz14_2 := blk_frozen BK224.out 2) | ((with_reducible refine gate_callee (f := 10) rfl ?_); refine goesL_ (some 17) rfl rfl Tryd.func10 (by kernel_rfl) rfl #[.agg #[.int .i64 a0_0, .int .i64 a0_1, .int .i64 a0_2, .int .i64 a0_3, .int .i64 a0_4], .agg #[.int .i64 a1_0, .int .i64 a1_1, .int .i64 a1_2]] rfl (by (try simp only [List.map_toArray, List.map_cons, List.map_nil]); first | done | rfl | (simp only [List.length_drop, List.length_take]; rfl)) ?_; (with_reducible refine (revenantref05_Is.calls k a0_0 a0_1 a0_2 a0_3 a0_4 a1_0 a1_1 a1_2 t226 _ A6.out).mono ?_); rintro e w15 ⟨rfl, hb⟩; refine ⟨_, rfl, ?_⟩; have n0_ := Aside0.mk (blk_below (g := gb223) (o := .cells #[.int .i64 a0_0, .int .i64 a0_1, .int .i64 a0_2, .int .i64 a0_3, .int .i64 a0_4] 23 (0, 0)) (by (with_reducible repeat (first | refine blk_drewN ?_ _ | refine blk_drew ?_ | refine blk_alloc ?_ _)); exact BK223.out) hb); have n1_ := Aside0.mk (blk_below (g := gb224) (o := .cells #[.int .i64 a1_0, .int .i64 a1_1, .int .i64 a1_2] 25 (0, 0)) (by (with_reducible repeat (first | refine blk_drewN ?_ _ | refine blk_drew ?_ | refine blk_alloc ?_ _)); exact BK224.out) hb); have n2_ := Aside0.mk (below_step (by repeat (first | (with_reducible first | exact HB.out | apply below_alloc | apply pw_below_drewN | apply below_drew1 | refine below_set ?_ GE223.out | refine below_set ?_ GE224.out) | exact HB.out)) hb); clear BK223; clear BK224; clear HB; have BK223 := n0_; have BK224 := n1_; have HB := n2_; clear n0_ n1_ n2_; (try clear hb); (try clear hb2); (try clear hk); (try clear hi); have hcz16_0 : w15.cell? ⟨gb223, 0, none⟩ = some (.int .i64 a0_0) := (blk_cell BK223.out 0).trans rfl; have hcz16_1 : w15.cell? ⟨gb223, 1, none⟩ = some (.int .i64 a0_1) := (blk_cell BK223.out 1).trans rfl; have hcz16_2 : w15.cell? ⟨gb223, 2, none⟩ = some (.int .i64 a0_2) := (blk_cell BK223.out 2).trans rfl; have hcz16_3 : w15.cell? ⟨gb223, 3, none⟩ = some (.int .i64 a0_3) := (blk_cell BK223.out 3).trans rfl; have hcz16_4 : w15.cell? ⟨gb223, 4, none⟩ = some (.int .i64 a0_4) := (blk_cell BK223.out 4).trans rfl; have hfz16_0 := blk_frozen BK223.out 0; have hfz16_1 := blk_frozen BK223.out 1; have hfz16_2 := blk_frozen BK223.out 2; have hfz16_3 := blk_frozen BK223.out 3; have hfz16_4 := blk_frozen BK223.out 4; have hcz17_0 : w15.cell? ⟨gb224, 0, none⟩ = some (.int .i64 a1_0) := (blk_cell BK224.out 0).trans rfl; have hcz17_1 : w15.cell? ⟨gb224, 1, none⟩ = some (.int .i64 a1_1) := (blk_cell BK224.out 1).trans rfl; have hcz17_2 : w15.cell? ⟨gb224, 2, none⟩ = some (.int .i64 a1_2) := (blk_cell BK224.out 2).trans rfl; have hfz17_0 := blk_frozen BK224.out 0; have hfz17_1 := blk_frozen BK224.out 1; have hfz17_2 := blk_frozen BK224.out 2) | ((with_reducible refine gate_callee (f := 11) rfl ?_); refine goesL_ (some 21) rfl rfl Tryd.func11 (by kernel_rfl) rfl #[.agg #[.int .i64 a0_0, .int .i64 a0_1, .int .i64 a0_2, .int .i64 a0_3, .int .i64 a0_4], .agg #[.int .i64 a1_0, .int .i64 a1_1, .int .i64 a1_2]] rfl (by (try simp only [List.map_toArray, List.map_cons, List.map_nil]); first | done | rfl | (simp only [List.length_drop, List.length_take]; rfl)) ?_; (with_reducible refine (place_Number.calls k a0_0 a0_1 a0_2 a0_3 a0_4 a1_0 a1_1 a1_2 t227 t228 _ A7.out).mono ?_); rintro e w18 ⟨rfl, hb⟩; refine ⟨_, rfl, ?_⟩; have n0_ := Aside0.mk (blk_below (g := gb223) (o := .cells #[.int .i64 a0_0, .int .i64 a0_1, .int .i64 a0_2, .int .i64 a0_3, .int .i64 a0_4] 23 (0, 0)) (by (with_reducible repeat (first | refine blk_drewN ?_ _ | refine blk_drew ?_ | refine blk_alloc ?_ _)); exact BK223.out) hb); have n1_ := Aside0.mk (blk_below (g := gb224) (o := .cells #[.int .i64 a1_0, .int .i64 a1_1, .int .i64 a1_2] 25 (0, 0)) (by (with_reducible repeat (first | refine blk_drewN ?_ _ | refine blk_drew ?_ | refine blk_alloc ?_ _)); exact BK224.out) hb); have n2_ := Aside0.mk (below_step (by repeat (first | (with_reducible first | exact HB.out | apply below_alloc | apply pw_below_drewN | apply below_drew1 | refine below_set ?_ GE223.out | refine below_set ?_ GE224.out) | exact HB.out)) hb); clear BK223; clear BK224; clear HB; have BK223 := n0_; have BK224 := n1_; have HB := n2_; clear n0_ n1_ n2_; (try clear hb); (try clear hb2); (try clear hk); (try clear hi)))
    (try simp only [Act.put, List.setIfInBounds_toArray, List.set_cons_zero, List.set_cons_succ])
    go_cut [51] (fun v51 wc => ∃ (kq : Nat) (x51_7 : Bool), v51 = .bool x51_7 ∧ Aside0 (revenantlaw05_PlaceExact.j0 kq a2 x51_7 a0_0 a0_1 a0_2 a0_3 a0_4 a1_0 a1_1 a1_2 = some r) ∧ Aside0 (kq ≤ k) ∧ Aside0 (wc.heap[gb223]? = some (.cells #[.int .i64 a0_0, .int .i64 a0_1, .int .i64 a0_2, .int .i64 a0_3, .int .i64 a0_4] 23 (0, 0))) ∧ Aside0 (wc.heap[gb224]? = some (.cells #[.int .i64 a1_0, .int .i64 a1_1, .int .i64 a1_2] 25 (0, 0))) ∧ Aside0 (Below w.heap.size w wc))
    case first =>
      have H := HC8.out
      clear HC8
      replace H := Option.bind_eq_some_iff.mp H
      obtain ⟨t229, A190, H⟩ := H
      replace H : (if (t229 != t226) = true then (revenantlaw05_PlaceExact.j0 k a2 true a0_0 a0_1 a0_2 a0_3 a0_4 a1_0 a1_1 a1_2) else (if (t228 != t226) = true then (revenantlaw05_PlaceExact.j0 k a2 true a0_0 a0_1 a0_2 a0_3 a0_4 a1_0 a1_1 a1_2) else (if t226 = true then ((revenantref05_Number.f k a0_0 a0_1 a0_2 a0_3 a0_4 a1_0 a1_1 a1_2).bind fun t230 => (revenantlaw05_PlaceExact.j0 k a2 (t227 != t230) a0_0 a0_1 a0_2 a0_3 a0_4 a1_0 a1_1 a1_2)) else (if t227 = 0 then (revenantlaw05_PlaceExact.j0 k a2 false a0_0 a0_1 a0_2 a0_3 a0_4 a1_0 a1_1 a1_2) else (revenantlaw05_PlaceExact.j0 k a2 true a0_0 a0_1 a0_2 a0_3 a0_4 a1_0 a1_1 a1_2))))) = some r := H
      have A19 := Aside0.mk A190
      clear A190
      by_cases c20 : (t229 != t226) = true
      · rw [if_pos c20] at H
        exact absurd ((revenantlaw05_PlaceExact.j0_no H).symm.trans HR.out) (by decide)
      · rw [if_neg c20] at H
        have c20b0 : (t229 != t226) = false := by simpa using c20
        (try (have c20b1 : decide (t229 = t226) = true := by simpa using c20))
        (try (have c20b2 : (t229 == t226) = true := by simpa using c20))
        clear c20
        (first | rw [c20b0] | (simp only [i64_w, i32_w]; rw [c20b0]) | skip)
        by_cases c25 : (t228 != t226) = true
        · rw [if_pos c25] at H
          exact absurd ((revenantlaw05_PlaceExact.j0_no H).symm.trans HR.out) (by decide)
        · rw [if_neg c25] at H
          have c25b0 : (t228 != t226) = false := by simpa using c25
          (try (have c25b1 : decide (t228 = t226) = true := by simpa using c25))
          (try (have c25b2 : (t228 == t226) = true := by simpa using c25))
          clear c25
          by_cases c30 : t226 = true
          · subst c30
            have H1 : ((revenantref05_Number.f k a0_0 a0_1 a0_2 a0_3 a0_4 a1_0 a1_1 a1_2).bind fun t230 => (revenantlaw05_PlaceExact.j0 k a2 (t227 != t230) a0_0 a0_1 a0_2 a0_3 a0_4 a1_0 a1_1 a1_2)) = some r := by rw [if_pos rfl] at H; exact H
            clear H
            have H := H1
            clear H1
            replace H := Option.bind_eq_some_iff.mp H
            obtain ⟨t230, A310, H⟩ := H
            replace H : (revenantlaw05_PlaceExact.j0 k a2 (t227 != t230) a0_0 a0_1 a0_2 a0_3 a0_4 a1_0 a1_1 a1_2) = some r := H
            have A31 := Aside0.mk A310
            clear A310
            have H' := Aside0.mk H
            clear H
            have hnb32 := NB223_224.out
            have hnc32 := NB224_223.out
            have hcz33_0 : w18.cell? ⟨gb223, 0, none⟩ = some (.int .i64 a0_0) := (blk_cell BK223.out 0).trans rfl
            have hcz33_1 : w18.cell? ⟨gb223, 1, none⟩ = some (.int .i64 a0_1) := (blk_cell BK223.out 1).trans rfl
            have hcz33_2 : w18.cell? ⟨gb223, 2, none⟩ = some (.int .i64 a0_2) := (blk_cell BK223.out 2).trans rfl
            have hcz33_3 : w18.cell? ⟨gb223, 3, none⟩ = some (.int .i64 a0_3) := (blk_cell BK223.out 3).trans rfl
            have hcz33_4 : w18.cell? ⟨gb223, 4, none⟩ = some (.int .i64 a0_4) := (blk_cell BK223.out 4).trans rfl
            have hfz33_0 := blk_frozen BK223.out 0
            have hfz33_1 := blk_frozen BK223.out 1
            have hfz33_2 := blk_frozen BK223.out 2
            have hfz33_3 := blk_frozen BK223.out 3
            have hfz33_4 := blk_frozen BK223.out 4
            have hcz34_0 : w18.cell? ⟨gb224, 0, none⟩ = some (.int .i64 a1_0) := (blk_cell BK224.out 0).trans rfl
            have hcz34_1 : w18.cell? ⟨gb224, 1, none⟩ = some (.int .i64 a1_1) := (blk_cell BK224.out 1).trans rfl
            have hcz34_2 : w18.cell? ⟨gb224, 2, none⟩ = some (.int .i64 a1_2) := (blk_cell BK224.out 2).trans rfl
            have hfz34_0 := blk_frozen BK224.out 0
            have hfz34_1 := blk_frozen BK224.out 1
            have hfz34_2 := blk_frozen BK224.out 2
            go_wp2_with (first | ((with_reducible refine gate_callee (f := 12) rfl ?_); refine goesL_ (some 26) rfl rfl Tryd.func12 (by kernel_rfl) rfl #[.agg #[.int .i64 a0_0, .int .i64 a0_1, .int .i64 a0_2, .int .i64 a0_3, .int .i64 a0_4], .agg #[.int .i64 a1_0, .int .i64 a1_1, .int .i64 a1_2]] rfl (by (try simp only [List.map_toArray, List.map_cons, List.map_nil]); first | done | rfl | (simp only [List.length_drop, List.length_take]; rfl)) ?_; (with_reducible refine (place_Is.calls k a0_0 a0_1 a0_2 a0_3 a0_4 a1_0 a1_1 a1_2 t229 _ A19.out).mono ?_); rintro e w35 ⟨rfl, hb⟩; refine ⟨_, rfl, ?_⟩; have n0_ := Aside0.mk (blk_below (g := gb223) (o := .cells #[.int .i64 a0_0, .int .i64 a0_1, .int .i64 a0_2, .int .i64 a0_3, .int .i64 a0_4] 23 (0, 0)) (by (with_reducible repeat (first | refine blk_drewN ?_ _ | refine blk_drew ?_ | refine blk_alloc ?_ _)); exact BK223.out) hb); have n1_ := Aside0.mk (blk_below (g := gb224) (o := .cells #[.int .i64 a1_0, .int .i64 a1_1, .int .i64 a1_2] 25 (0, 0)) (by (with_reducible repeat (first | refine blk_drewN ?_ _ | refine blk_drew ?_ | refine blk_alloc ?_ _)); exact BK224.out) hb); have n2_ := Aside0.mk (below_step (by repeat (first | (with_reducible first | exact HB.out | apply below_alloc | apply pw_below_drewN | apply below_drew1 | refine below_set ?_ GE223.out | refine below_set ?_ GE224.out) | exact HB.out)) hb); clear BK223; clear BK224; clear HB; have BK223 := n0_; have BK224 := n1_; have HB := n2_; clear n0_ n1_ n2_; (try clear hb); (try clear hb2); (try clear hk); (try clear hi); have hcz36_0 : w35.cell? ⟨gb223, 0, none⟩ = some (.int .i64 a0_0) := (blk_cell BK223.out 0).trans rfl; have hcz36_1 : w35.cell? ⟨gb223, 1, none⟩ = some (.int .i64 a0_1) := (blk_cell BK223.out 1).trans rfl; have hcz36_2 : w35.cell? ⟨gb223, 2, none⟩ = some (.int .i64 a0_2) := (blk_cell BK223.out 2).trans rfl; have hcz36_3 : w35.cell? ⟨gb223, 3, none⟩ = some (.int .i64 a0_3) := (blk_cell BK223.out 3).trans rfl; have hcz36_4 : w35.cell? ⟨gb223, 4, none⟩ = some (.int .i64 a0_4) := (blk_cell BK223.out 4).trans rfl; have hfz36_0 := blk_frozen BK223.out 0; have hfz36_1 := blk_frozen BK223.out 1; have hfz36_2 := blk_frozen BK223.out 2; have hfz36_3 := blk_frozen BK223.out 3; have hfz36_4 := blk_frozen BK223.out 4; have hcz37_0 : w35.cell? ⟨gb224, 0, none⟩ = some (.int .i64 a1_0) := (blk_cell BK224.out 0).trans rfl; have hcz37_1 : w35.cell? ⟨gb224, 1, none⟩ = some (.int .i64 a1_1) := (blk_cell BK224.out 1).trans rfl; have hcz37_2 : w35.cell? ⟨gb224, 2, none⟩ = some (.int .i64 a1_2) := (blk_cell BK224.out 2).trans rfl; have hfz37_0 := blk_frozen BK224.out 0; have hfz37_1 := blk_frozen BK224.out 1; have hfz37_2 := blk_frozen BK224.out 2) | (go_at_call 13; (with_reducible refine (revenantref05_Number.calls k a0_0 a0_1 a0_2 a0_3 a0_4 a1_0 a1_1 a1_2 t230 _ A31.out).mono ?_); rintro e w38 ⟨rfl, hb⟩; have n0_ := Aside0.mk (blk_below (g := gb223) (o := .cells #[.int .i64 a0_0, .int .i64 a0_1, .int .i64 a0_2, .int .i64 a0_3, .int .i64 a0_4] 23 (0, 0)) (by (with_reducible repeat (first | refine blk_drewN ?_ _ | refine blk_drew ?_ | refine blk_alloc ?_ _)); exact BK223.out) hb); have n1_ := Aside0.mk (blk_below (g := gb224) (o := .cells #[.int .i64 a1_0, .int .i64 a1_1, .int .i64 a1_2] 25 (0, 0)) (by (with_reducible repeat (first | refine blk_drewN ?_ _ | refine blk_drew ?_ | refine blk_alloc ?_ _)); exact BK224.out) hb); have n2_ := Aside0.mk (below_step (by repeat (first | (with_reducible first | exact HB.out | apply below_alloc | apply pw_below_drewN | apply below_drew1 | refine below_set ?_ GE223.out | refine below_set ?_ GE224.out) | exact HB.out)) hb); clear BK223; clear BK224; clear HB; have BK223 := n0_; have BK224 := n1_; have HB := n2_; clear n0_ n1_ n2_; (try clear hb); (try clear hb2); (try clear hk); (try clear hi)))
            go_meet
            case rel => exact ⟨_, ((t227 != t230)), (by first | rfl | (simp; done) | (simp [*]; done)), H', ⟨by first | omega | exact Nat.le_refl _⟩, ⟨by (with_reducible repeat (first | refine blk_drewN ?_ _ | refine blk_drew ?_ | refine blk_alloc ?_ _)); exact BK223.out⟩, ⟨by (with_reducible repeat (first | refine blk_drewN ?_ _ | refine blk_drew ?_ | refine blk_alloc ?_ _)); exact BK224.out⟩, ⟨by repeat (first | (with_reducible first | exact HB.out | apply below_alloc | apply pw_below_drewN | apply below_drew1 | refine below_set ?_ GE223.out | refine below_set ?_ GE224.out) | exact HB.out)⟩⟩
          · replace c30 := Bool.eq_false_iff.mpr c30
            subst c30
            have H1 : (if t227 = 0 then (revenantlaw05_PlaceExact.j0 k a2 false a0_0 a0_1 a0_2 a0_3 a0_4 a1_0 a1_1 a1_2) else (revenantlaw05_PlaceExact.j0 k a2 true a0_0 a0_1 a0_2 a0_3 a0_4 a1_0 a1_1 a1_2)) = some r := by rw [if_neg (show ¬ (false = true) by decide)] at H; exact H
            clear H
            have H := H1
            clear H1
            by_cases c39 : t227 = 0
            · rw [if_pos c39] at H
              have c39b0 : (t227 == 0) = true := beq_iff_eq.mpr c39
              have c39b1 : (t227 != 0) = false := bne_eq_false_iff_eq.mpr c39
              clear c39
              have H' := Aside0.mk H
              clear H
              have hnb40 := NB223_224.out
              have hnc40 := NB224_223.out
              have hcz41_0 : w18.cell? ⟨gb223, 0, none⟩ = some (.int .i64 a0_0) := (blk_cell BK223.out 0).trans rfl
              have hcz41_1 : w18.cell? ⟨gb223, 1, none⟩ = some (.int .i64 a0_1) := (blk_cell BK223.out 1).trans rfl
              have hcz41_2 : w18.cell? ⟨gb223, 2, none⟩ = some (.int .i64 a0_2) := (blk_cell BK223.out 2).trans rfl
              have hcz41_3 : w18.cell? ⟨gb223, 3, none⟩ = some (.int .i64 a0_3) := (blk_cell BK223.out 3).trans rfl
              have hcz41_4 : w18.cell? ⟨gb223, 4, none⟩ = some (.int .i64 a0_4) := (blk_cell BK223.out 4).trans rfl
              have hfz41_0 := blk_frozen BK223.out 0
              have hfz41_1 := blk_frozen BK223.out 1
              have hfz41_2 := blk_frozen BK223.out 2
              have hfz41_3 := blk_frozen BK223.out 3
              have hfz41_4 := blk_frozen BK223.out 4
              have hcz42_0 : w18.cell? ⟨gb224, 0, none⟩ = some (.int .i64 a1_0) := (blk_cell BK224.out 0).trans rfl
              have hcz42_1 : w18.cell? ⟨gb224, 1, none⟩ = some (.int .i64 a1_1) := (blk_cell BK224.out 1).trans rfl
              have hcz42_2 : w18.cell? ⟨gb224, 2, none⟩ = some (.int .i64 a1_2) := (blk_cell BK224.out 2).trans rfl
              have hfz42_0 := blk_frozen BK224.out 0
              have hfz42_1 := blk_frozen BK224.out 1
              have hfz42_2 := blk_frozen BK224.out 2
              go_wp2_with (first | ((with_reducible refine gate_callee (f := 12) rfl ?_); refine goesL_ (some 26) rfl rfl Tryd.func12 (by kernel_rfl) rfl #[.agg #[.int .i64 a0_0, .int .i64 a0_1, .int .i64 a0_2, .int .i64 a0_3, .int .i64 a0_4], .agg #[.int .i64 a1_0, .int .i64 a1_1, .int .i64 a1_2]] rfl (by (try simp only [List.map_toArray, List.map_cons, List.map_nil]); first | done | rfl | (simp only [List.length_drop, List.length_take]; rfl)) ?_; (with_reducible refine (place_Is.calls k a0_0 a0_1 a0_2 a0_3 a0_4 a1_0 a1_1 a1_2 t229 _ A19.out).mono ?_); rintro e w43 ⟨rfl, hb⟩; refine ⟨_, rfl, ?_⟩; have n0_ := Aside0.mk (blk_below (g := gb223) (o := .cells #[.int .i64 a0_0, .int .i64 a0_1, .int .i64 a0_2, .int .i64 a0_3, .int .i64 a0_4] 23 (0, 0)) (by (with_reducible repeat (first | refine blk_drewN ?_ _ | refine blk_drew ?_ | refine blk_alloc ?_ _)); exact BK223.out) hb); have n1_ := Aside0.mk (blk_below (g := gb224) (o := .cells #[.int .i64 a1_0, .int .i64 a1_1, .int .i64 a1_2] 25 (0, 0)) (by (with_reducible repeat (first | refine blk_drewN ?_ _ | refine blk_drew ?_ | refine blk_alloc ?_ _)); exact BK224.out) hb); have n2_ := Aside0.mk (below_step (by repeat (first | (with_reducible first | exact HB.out | apply below_alloc | apply pw_below_drewN | apply below_drew1 | refine below_set ?_ GE223.out | refine below_set ?_ GE224.out) | exact HB.out)) hb); clear BK223; clear BK224; clear HB; have BK223 := n0_; have BK224 := n1_; have HB := n2_; clear n0_ n1_ n2_; (try clear hb); (try clear hb2); (try clear hk); (try clear hi)))
              go_meet
              case rel => exact ⟨_, (false), (by first | rfl | (simp; done) | (simp [*]; done)), H', ⟨by first | omega | exact Nat.le_refl _⟩, ⟨by (with_reducible repeat (first | refine blk_drewN ?_ _ | refine blk_drew ?_ | refine blk_alloc ?_ _)); exact BK223.out⟩, ⟨by (with_reducible repeat (first | refine blk_drewN ?_ _ | refine blk_drew ?_ | refine blk_alloc ?_ _)); exact BK224.out⟩, ⟨by repeat (first | (with_reducible first | exact HB.out | apply below_alloc | apply pw_below_drewN | apply below_drew1 | refine below_set ?_ GE223.out | refine below_set ?_ GE224.out) | exact HB.out)⟩⟩
            · rw [if_neg c39] at H
              exact absurd ((revenantlaw05_PlaceExact.j0_no H).symm.trans HR.out) (by decide)
    case rest =>
      clear HC8
      try clear c1
      try clear c2
      try clear p2
      try clear c3
      try clear c4
      try clear c5
      try clear c9
      try clear c10
      try clear c11
      try clear c12
      try clear c20
      try clear c20b0
      try clear c20b1
      try clear c20b2
      try clear c21
      try clear c25
      try clear c25b0
      try clear c25b1
      try clear c25b2
      try clear c26
      try clear c30
      try clear c32
      try clear c39
      try clear c39b0
      try clear c39b1
      try clear c40
      try clear c44
      try clear hcz13_0
      try clear hcz13_1
      try clear hcz13_2
      try clear hcz13_3
      try clear hcz13_4
      try clear hcz14_0
      try clear hcz14_1
      try clear hcz14_2
      try clear hcz16_0
      try clear hcz16_1
      try clear hcz16_2
      try clear hcz16_3
      try clear hcz16_4
      try clear hcz17_0
      try clear hcz17_1
      try clear hcz17_2
      try clear hcz22_0
      try clear hcz22_1
      try clear hcz22_2
      try clear hcz22_3
      try clear hcz22_4
      try clear hcz23_0
      try clear hcz23_1
      try clear hcz23_2
      try clear hcz27_0
      try clear hcz27_1
      try clear hcz27_2
      try clear hcz27_3
      try clear hcz27_4
      try clear hcz28_0
      try clear hcz28_1
      try clear hcz28_2
      try clear hcz33_0
      try clear hcz33_1
      try clear hcz33_2
      try clear hcz33_3
      try clear hcz33_4
      try clear hcz34_0
      try clear hcz34_1
      try clear hcz34_2
      try clear hcz36_0
      try clear hcz36_1
      try clear hcz36_2
      try clear hcz36_3
      try clear hcz36_4
      try clear hcz37_0
      try clear hcz37_1
      try clear hcz37_2
      try clear hcz41_0
      try clear hcz41_1
      try clear hcz41_2
      try clear hcz41_3
      try clear hcz41_4
      try clear hcz42_0
      try clear hcz42_1
      try clear hcz42_2
      try clear hcz45_0
      try clear hcz45_1
      try clear hcz45_2
      try clear hcz45_3
      try clear hcz45_4
      try clear hcz46_0
      try clear hcz46_1
      try clear hcz46_2
      try clear hfz13_0
      try clear hfz13_1
      try clear hfz13_2
      try clear hfz13_3
      try clear hfz13_4
      try clear hfz14_0
      try clear hfz14_1
      try clear hfz14_2
      try clear hfz16_0
      try clear hfz16_1
      try clear hfz16_2
      try clear hfz16_3
      try clear hfz16_4
      try clear hfz17_0
      try clear hfz17_1
      try clear hfz17_2
      try clear hfz22_0
      try clear hfz22_1
      try clear hfz22_2
      try clear hfz22_3
      try clear hfz22_4
      try clear hfz23_0
      try clear hfz23_1
      try clear hfz23_2
      try clear hfz27_0
      try clear hfz27_1
      try clear hfz27_2
      try clear hfz27_3
      try clear hfz27_4
      try clear hfz28_0
      try clear hfz28_1
      try clear hfz28_2
      try clear hfz33_0
      try clear hfz33_1
      try clear hfz33_2
      try clear hfz33_3
      try clear hfz33_4
      try clear hfz34_0
      try clear hfz34_1
      try clear hfz34_2
      try clear hfz36_0
      try clear hfz36_1
      try clear hfz36_2
      try clear hfz36_3
      try clear hfz36_4
      try clear hfz37_0
      try clear hfz37_1
      try clear hfz37_2
      try clear hfz41_0
      try clear hfz41_1
      try clear hfz41_2
      try clear hfz41_3
      try clear hfz41_4
      try clear hfz42_0
      try clear hfz42_1
      try clear hfz42_2
      try clear hfz45_0
      try clear hfz45_1
      try clear hfz45_2
      try clear hfz45_3
      try clear hfz45_4
      try clear hfz46_0
      try clear hfz46_1
      try clear hfz46_2
      obtain ⟨kq, x51_7, rfl, HA, HJ7, BK223, BK224, HB⟩ := hcut
      cases kq with
      | zero => exact absurd HA.out (by simp [revenantlaw05_PlaceExact.j0])
      | succ kj7 =>
        have H := HA.out
        clear HA
        simp only [revenantlaw05_PlaceExact.j0] at H
        by_cases c48 : x51_7 = true
        · subst c48
          have H1 : (some false) = some r := by rw [if_pos rfl] at H; exact H
          clear H
          have H := H1
          clear H1
          exact absurd ((Option.some.inj H).trans HR.out) (by decide)
        · replace c48 := Bool.eq_false_iff.mpr c48
          subst c48
          have H1 : ((place_IsContent.f a1_0 a1_1 a1_2).bind fun t231 => (if a1_0 = 5 then (if a1_2 ≥ 0 then (if a1_2 = 1 then (revenantlaw05_PlaceExact.j1 kj7 a2 (t231 != false) a0_0 a0_1 a0_2 a0_3 a0_4) else (revenantlaw05_PlaceExact.j1 kj7 a2 (t231 != (a1_2 != 2)) a0_0 a0_1 a0_2 a0_3 a0_4)) else (revenantlaw05_PlaceExact.j1 kj7 a2 (t231 != false) a0_0 a0_1 a0_2 a0_3 a0_4)) else (revenantlaw05_PlaceExact.j1 kj7 a2 (t231 != false) a0_0 a0_1 a0_2 a0_3 a0_4))) = some r := by rw [if_neg (show ¬ (false = true) by decide)] at H; exact H
          clear H
          have H := H1
          clear H1
          have HC49 := Aside0.mk H
          clear H
          go_upto_region 7 with (fail)
          go_cut [72] (fun v72 wc => ∃ (kq : Nat) (x72_48 : Bool), v72 = .bool x72_48 ∧ Aside0 (revenantlaw05_PlaceExact.j1 kq a2 x72_48 a0_0 a0_1 a0_2 a0_3 a0_4 = some r) ∧ Aside0 (kq ≤ kj7) ∧ Aside0 (wc.heap[gb223]? = some (.cells #[.int .i64 a0_0, .int .i64 a0_1, .int .i64 a0_2, .int .i64 a0_3, .int .i64 a0_4] 23 (0, 0))) ∧ Aside0 (wc.heap[gb224]? = some (.cells #[.int .i64 a1_0, .int .i64 a1_1, .int .i64 a1_2] 25 (0, 0))) ∧ Aside0 (Below w.heap.size w wc))
          case first =>
            have H := HC49.out
            clear HC49
            replace H := Option.bind_eq_some_iff.mp H
            obtain ⟨t231, A500, H⟩ := H
            replace H : (if a1_0 = 5 then (if a1_2 ≥ 0 then (if a1_2 = 1 then (revenantlaw05_PlaceExact.j1 kj7 a2 (t231 != false) a0_0 a0_1 a0_2 a0_3 a0_4) else (revenantlaw05_PlaceExact.j1 kj7 a2 (t231 != (a1_2 != 2)) a0_0 a0_1 a0_2 a0_3 a0_4)) else (revenantlaw05_PlaceExact.j1 kj7 a2 (t231 != false) a0_0 a0_1 a0_2 a0_3 a0_4)) else (revenantlaw05_PlaceExact.j1 kj7 a2 (t231 != false) a0_0 a0_1 a0_2 a0_3 a0_4)) = some r := H
            have A50 := Aside0.mk A500
            clear A500
            by_cases c51 : a1_0 = 5
            · rw [if_pos c51] at H
              have c51b0 : (a1_0 == 5) = true := beq_iff_eq.mpr c51
              have c51b1 : (a1_0 != 5) = false := bne_eq_false_iff_eq.mpr c51
              clear c51
              (first | rw [c51b0] | (simp only [i64_w, i32_w]; rw [c51b0]) | skip)
              by_cases c52 : a1_2 ≥ 0
              · rw [if_pos c52] at H
                have c52b0 : decide (0 ≤ a1_2) = true := decide_eq_true c52
                clear c52
                by_cases c53 : a1_2 = 1
                · rw [if_pos c53] at H
                  have c53b0 : (a1_2 == 1) = true := beq_iff_eq.mpr c53
                  have c53b1 : (a1_2 != 1) = false := bne_eq_false_iff_eq.mpr c53
                  clear c53
                  have H' := Aside0.mk H
                  clear H
                  try go_wp2
                  have n0_ := Aside0.mk (blk_drew BK223.out)
                  have n1_ := Aside0.mk (blk_drew BK224.out)
                  have n2_ := Aside0.mk (below_drew1 HB.out)
                  clear BK223
                  clear BK224
                  clear HB
                  have BK223 := n0_
                  have BK224 := n1_
                  have HB := n2_
                  clear n0_ n1_ n2_
                  refine start_ (n := 21) (S := fun w' => w'.cell? ⟨gb224, 0, none⟩ = some (.int .i64 a1_0) ∧ w'.cell? ⟨gb224, 1, none⟩ = some (.int .i64 a1_1) ∧ w'.cell? ⟨gb224, 2, none⟩ = some (.int .i64 a1_2)) (ds := []) #[false, false, false, false, false, false, false, false, false, false, false, false, false, false, false, false, false, false, false, false, false] (by kernel_rfl) rfl rfl ⟨(blk_cell BK224.out 0).trans rfl, (blk_cell BK224.out 1).trans rfl, (blk_cell BK224.out 2).trans rfl⟩ (fun hHeld => ?_); refine with_tabW revenantlaw05_PlaceExact.tab7 revenantlaw05_PlaceExact.bits7 (fun HT_ HW_ => ?_)
                  generalize wc.drew = w54 at BK223 BK224 HB hHeld ⊢
                  refine pure_ (i := 2) (N := some 54) (v := ?_) (a' := ?_) #[false, false, true, false, false, false, false, false, false, false, false, false, false, false, false, false, false, false, false, false, false] rfl rfl (any_of HT_.out (by kernel_rfl)) (fun _ _ _ h => h) (Or.inl ⟨by rfl, ?_⟩) ?_ ?_
                  rotate_left
                  · intro w'
                    go_simp
                    with_reducible rfl
                  rotate_left
                  · simp only [Act.put, List.setIfInBounds_toArray, List.set_cons_zero, List.set_cons_succ, i64_w, i32_w]
                    rfl
                  refine take_ (i := 0) (N := some 52) (v := ?_) (a' := ?_) #[true, false, true, false, false, false, false, false, false, false, false, false, false, false, false, false, false, false, false, false, false] rfl rfl (take_ofW HT_.out HW_.out (by kernel_rfl)) (fun _ _ _ h => h) (Or.inl ⟨by rfl, ?_⟩) hHeld ?_ ?_
                  rotate_left
                  · rintro w' ⟨s0, s1, s2⟩
                    go_simp
                    with_reducible rfl
                  rotate_left
                  · simp only [Act.put, List.setIfInBounds_toArray, List.set_cons_zero, List.set_cons_succ, i64_w, i32_w]
                    rfl
                  refine take_ (i := 3) (N := some 55) (v := ?_) (a' := ?_) #[true, false, true, true, false, false, false, false, false, false, false, false, false, false, false, false, false, false, false, false, false] rfl rfl (take_ofW HT_.out HW_.out (by kernel_rfl)) (fun _ _ _ h => h) (Or.inl ⟨by rfl, ?_⟩) hHeld ?_ ?_
                  rotate_left
                  · rintro w' ⟨s0, s1, s2⟩
                    go_simp
                    with_reducible rfl
                  rotate_left
                  · simp only [Act.put, List.setIfInBounds_toArray, List.set_cons_zero, List.set_cons_succ, i64_w, i32_w]
                    rfl
                  refine pure_ (i := 4) (N := some 56) (v := ?_) (a' := ?_) #[true, false, true, true, true, false, false, false, false, false, false, false, false, false, false, false, false, false, false, false, false] rfl rfl (any_of HT_.out (by kernel_rfl)) (fun _ _ _ h => h) (Or.inl ⟨by rfl, ?_⟩) ?_ ?_
                  rotate_left
                  · intro w'
                    go_simp
                    with_reducible rfl
                  rotate_left
                  · simp only [Act.put, List.setIfInBounds_toArray, List.set_cons_zero, List.set_cons_succ, i64_w, i32_w]
                    rfl
                  refine one_ (i := 1) (N := some 53) #[true, true, true, true, true, false, false, false, false, false, false, false, false, false, false, false, false, false, false, false, false] rfl rfl (one_of HT_.out (by kernel_rfl)) (by decide) (fun K hK => ?_)
                  refine goes_ Tryd.func14 (by kernel_rfl) rfl #[.agg #[.int .i64 a1_0, .int .i64 a1_1, .int .i64 a1_2]] (by rfl) rfl rfl (by (try simp only [List.map_toArray, List.map_cons, List.map_nil]); first | done | rfl | (simp only [List.length_drop, List.length_take]; rfl)) ?_
                  with_reducible refine (place_IsContent.calls a1_0 a1_1 a1_2 t231 _ A50.out).mono ?_
                  rintro e w55 ⟨rfl, hb⟩
                  refine ⟨_, rfl, ?_⟩
                  have n0_ := Aside0.mk (blk_below (g := gb223) (o := .cells #[.int .i64 a0_0, .int .i64 a0_1, .int .i64 a0_2, .int .i64 a0_3, .int .i64 a0_4] 23 (0, 0)) (by (with_reducible repeat (first | refine blk_drewN ?_ _ | refine blk_drew ?_ | refine blk_alloc ?_ _)); exact BK223.out) hb)
                  have n1_ := Aside0.mk (blk_below (g := gb224) (o := .cells #[.int .i64 a1_0, .int .i64 a1_1, .int .i64 a1_2] 25 (0, 0)) (by (with_reducible repeat (first | refine blk_drewN ?_ _ | refine blk_drew ?_ | refine blk_alloc ?_ _)); exact BK224.out) hb)
                  have n2_ := Aside0.mk (below_step (by repeat (first | (with_reducible first | exact HB.out | apply below_alloc | apply pw_below_drewN | apply below_drew1 | refine below_set ?_ GE223.out | refine below_set ?_ GE224.out) | exact HB.out)) hb)
                  clear BK223
                  clear BK224
                  clear HB
                  have BK223 := n0_
                  have BK224 := n1_
                  have HB := n2_
                  clear n0_ n1_ n2_
                  (try clear hb)
                  (try clear hb2)
                  (try clear hk)
                  (try clear hi)
                  refine hK.out _ _ ⟨(blk_cell BK224.out 0).trans rfl, (blk_cell BK224.out 1).trans rfl, (blk_cell BK224.out 2).trans rfl⟩ (fun hHeld => ?_)
                  clear hK K
                  refine norm_ (a' := ?_) ?_ ?_
                  rotate_left
                  · show Act.put _ (some 53) _ = _
                    simp only [Act.put, List.setIfInBounds_toArray, List.set_cons_zero, List.set_cons_succ, i64_w, i32_w]
                    rfl
                  refine pure_ (i := 5) (N := some 57) (v := ?_) (a' := ?_) #[true, true, true, true, true, true, false, false, false, false, false, false, false, false, false, false, false, false, false, false, false] rfl rfl (any_of HT_.out (by kernel_rfl)) (fun _ _ _ h => h) (Or.inl ⟨by rfl, ?_⟩) ?_ ?_
                  rotate_left
                  · intro w'
                    go_simp
                    with_reducible rfl
                  rotate_left
                  · simp only [Act.put, List.setIfInBounds_toArray, List.set_cons_zero, List.set_cons_succ, i64_w, i32_w]
                    rfl
                  refine pure_ (i := 6) (N := some 58) (v := ?_) (a' := ?_) #[true, true, true, true, true, true, true, false, false, false, false, false, false, false, false, false, false, false, false, false, false] rfl rfl (any_of HT_.out (by kernel_rfl)) (fun _ _ _ h => h) (Or.inl ⟨by rfl, ?_⟩) ?_ ?_
                  rotate_left
                  · intro w'
                    go_simp
                    with_reducible rfl
                  rotate_left
                  · simp only [Act.put, List.setIfInBounds_toArray, List.set_cons_zero, List.set_cons_succ, i64_w, i32_w]
                    rfl
                  refine take_ (i := 7) (N := some 59) (v := ?_) (a' := ?_) #[true, true, true, true, true, true, true, true, false, false, false, false, false, false, false, false, false, false, false, false, false] rfl rfl (take_ofW HT_.out HW_.out (by kernel_rfl)) (fun _ _ _ h => h) (Or.inl ⟨by rfl, ?_⟩) hHeld ?_ ?_
                  rotate_left
                  · rintro w' ⟨s0, s1, s2⟩
                    go_simp
                    with_reducible rfl
                  rotate_left
                  · simp only [Act.put, List.setIfInBounds_toArray, List.set_cons_zero, List.set_cons_succ, i64_w, i32_w]
                    rfl
                  refine pure_ (i := 8) (N := some 60) (v := ?_) (a' := ?_) #[true, true, true, true, true, true, true, true, true, false, false, false, false, false, false, false, false, false, false, false, false] rfl rfl (any_of HT_.out (by kernel_rfl)) (fun _ _ _ h => h) (Or.inl ⟨by rfl, ?_⟩) ?_ ?_
                  rotate_left
                  · intro w'
                    go_simp
                    with_reducible rfl
                  rotate_left
                  · simp only [Act.put, List.setIfInBounds_toArray, List.set_cons_zero, List.set_cons_succ, i64_w, i32_w]
                    rfl
                  refine pure_ (i := 9) (N := some 61) (v := ?_) (a' := ?_) #[true, true, true, true, true, true, true, true, true, true, false, false, false, false, false, false, false, false, false, false, false] rfl rfl (any_of HT_.out (by kernel_rfl)) (fun _ _ _ h => h) (Or.inl ⟨by rfl, ?_⟩) ?_ ?_
                  rotate_left
                  · intro w'
                    go_simp
                    with_reducible rfl
                  rotate_left
                  · simp only [Act.put, List.setIfInBounds_toArray, List.set_cons_zero, List.set_cons_succ, i64_w, i32_w]
                    rfl
                  refine pure_ (i := 10) (N := some 62) (v := ?_) (a' := ?_) #[true, true, true, true, true, true, true, true, true, true, true, false, false, false, false, false, false, false, false, false, false] rfl rfl (any_of HT_.out (by kernel_rfl)) (fun _ _ _ h => h) (Or.inl ⟨by rfl, ?_⟩) ?_ ?_
                  rotate_left
                  · intro w'
                    go_simp
                    with_reducible rfl
                  rotate_left
                  · simp only [Act.put, List.setIfInBounds_toArray, List.set_cons_zero, List.set_cons_succ, i64_w, i32_w]
                    rfl
                  refine pure_ (i := 11) (N := some 63) (v := ?_) (a' := ?_) #[true, true, true, true, true, true, true, true, true, true, true, true, false, false, false, false, false, false, false, false, false] rfl rfl (any_of HT_.out (by kernel_rfl)) (fun _ _ _ h => h) (Or.inl ⟨by rfl, ?_⟩) ?_ ?_
                  rotate_left
                  · intro w'
                    go_simp
                    with_reducible rfl
                  rotate_left
                  · simp only [Act.put, List.setIfInBounds_toArray, List.set_cons_zero, List.set_cons_succ, i64_w, i32_w]
                    rfl
                  refine take_ (i := 12) (N := some 64) (v := ?_) (a' := ?_) #[true, true, true, true, true, true, true, true, true, true, true, true, true, false, false, false, false, false, false, false, false] rfl rfl (take_ofW HT_.out HW_.out (by kernel_rfl)) (fun _ _ _ h => h) (Or.inl ⟨by rfl, ?_⟩) hHeld ?_ ?_
                  rotate_left
                  · rintro w' ⟨s0, s1, s2⟩
                    go_simp
                    with_reducible rfl
                  rotate_left
                  · simp only [Act.put, List.setIfInBounds_toArray, List.set_cons_zero, List.set_cons_succ, i64_w, i32_w]
                    rfl
                  refine pure_ (i := 13) (N := some 65) (v := ?_) (a' := ?_) #[true, true, true, true, true, true, true, true, true, true, true, true, true, true, false, false, false, false, false, false, false] rfl rfl (any_of HT_.out (by kernel_rfl)) (fun _ _ _ h => h) (Or.inl ⟨by rfl, ?_⟩) ?_ ?_
                  rotate_left
                  · intro w'
                    go_simp
                    with_reducible rfl
                  rotate_left
                  · simp only [Act.put, List.setIfInBounds_toArray, List.set_cons_zero, List.set_cons_succ, i64_w, i32_w]
                    rfl
                  refine pure_ (i := 14) (N := some 66) (v := ?_) (a' := ?_) #[true, true, true, true, true, true, true, true, true, true, true, true, true, true, true, false, false, false, false, false, false] rfl rfl (any_of HT_.out (by kernel_rfl)) (fun _ _ _ h => h) (Or.inl ⟨by rfl, ?_⟩) ?_ ?_
                  rotate_left
                  · intro w'
                    go_simp
                    with_reducible rfl
                  rotate_left
                  · simp only [Act.put, List.setIfInBounds_toArray, List.set_cons_zero, List.set_cons_succ, i64_w, i32_w]
                    rfl
                  refine pure_ (i := 15) (N := some 67) (v := ?_) (a' := ?_) #[true, true, true, true, true, true, true, true, true, true, true, true, true, true, true, true, false, false, false, false, false] rfl rfl (any_of HT_.out (by kernel_rfl)) (fun _ _ _ h => h) (Or.inl ⟨by rfl, ?_⟩) ?_ ?_
                  rotate_left
                  · intro w'
                    go_simp
                    with_reducible rfl
                  rotate_left
                  · simp only [Act.put, List.setIfInBounds_toArray, List.set_cons_zero, List.set_cons_succ, i64_w, i32_w]
                    rfl
                  refine pure_ (i := 16) (N := some 68) (v := undef) (a' := ?_) #[true, true, true, true, true, true, true, true, true, true, true, true, true, true, true, true, true, false, false, false, false] rfl rfl (any_of HT_.out (by kernel_rfl)) (fun _ _ _ h => h) (Or.inr ⟨by rfl, rfl⟩) ?_ ?_
                  rotate_left
                  · simp only [Act.put, List.setIfInBounds_toArray, List.set_cons_zero, List.set_cons_succ, i64_w, i32_w]
                    rfl
                  refine pure_ (i := 17) (N := some 69) (v := undef) (a' := ?_) #[true, true, true, true, true, true, true, true, true, true, true, true, true, true, true, true, true, true, false, false, false] rfl rfl (any_of HT_.out (by kernel_rfl)) (fun _ _ _ h => h) (Or.inr ⟨by rfl, rfl⟩) ?_ ?_
                  rotate_left
                  · simp only [Act.put, List.setIfInBounds_toArray, List.set_cons_zero, List.set_cons_succ, i64_w, i32_w]
                    rfl
                  refine pure_ (i := 18) (N := some 70) (v := undef) (a' := ?_) #[true, true, true, true, true, true, true, true, true, true, true, true, true, true, true, true, true, true, true, false, false] rfl rfl (any_of HT_.out (by kernel_rfl)) (fun _ _ _ h => h) (Or.inr ⟨by rfl, rfl⟩) ?_ ?_
                  rotate_left
                  · simp only [Act.put, List.setIfInBounds_toArray, List.set_cons_zero, List.set_cons_succ, i64_w, i32_w]
                    rfl
                  refine pure_ (i := 19) (N := some 71) (v := ?_) (a' := ?_) #[true, true, true, true, true, true, true, true, true, true, true, true, true, true, true, true, true, true, true, true, false] rfl rfl (any_of HT_.out (by kernel_rfl)) (fun _ _ _ h => h) (Or.inl ⟨by rfl, ?_⟩) ?_ ?_
                  rotate_left
                  · intro w'
                    go_simp
                    with_reducible rfl
                  rotate_left
                  · simp only [Act.put, List.setIfInBounds_toArray, List.set_cons_zero, List.set_cons_succ, i64_w, i32_w]
                    rfl
                  refine pure_ (i := 20) (N := some 72) (v := ?_) (a' := ?_) #[true, true, true, true, true, true, true, true, true, true, true, true, true, true, true, true, true, true, true, true, true] rfl rfl (any_of HT_.out (by kernel_rfl)) (fun _ _ _ h => h) (Or.inl ⟨by rfl, ?_⟩) ?_ ?_
                  rotate_left
                  · intro w'
                    go_simp
                    with_reducible rfl
                  rotate_left
                  · simp only [Act.put, List.setIfInBounds_toArray, List.set_cons_zero, List.set_cons_succ, i64_w, i32_w]
                    rfl
                  refine done_ (done_of HT_.out (by kernel_rfl)) ?_
                  try go_wp2
                  go_meet
                  case rel => exact ⟨_, ((t231 != false)), (by first | rfl | (simp; done) | (simp [*]; done)), H', ⟨by have := HJ7.out; first | omega | exact Nat.le_refl _⟩, ⟨by (with_reducible repeat (first | refine blk_drewN ?_ _ | refine blk_drew ?_ | refine blk_alloc ?_ _)); exact BK223.out⟩, ⟨by (with_reducible repeat (first | refine blk_drewN ?_ _ | refine blk_drew ?_ | refine blk_alloc ?_ _)); exact BK224.out⟩, ⟨by repeat (first | (with_reducible first | exact HB.out | apply below_alloc | apply pw_below_drewN | apply below_drew1 | refine below_set ?_ GE223.out | refine below_set ?_ GE224.out) | exact HB.out)⟩⟩
                · rw [if_neg c53] at H
                  have c53b0 : (a1_2 == 1) = false := beq_eq_false_iff_ne.mpr c53
                  have c53b1 : (a1_2 != 1) = true := bne_iff_ne.mpr c53
                  have H' := Aside0.mk H
                  clear H
                  try go_wp2
                  have n0_ := Aside0.mk (blk_drew BK223.out)
                  have n1_ := Aside0.mk (blk_drew BK224.out)
                  have n2_ := Aside0.mk (below_drew1 HB.out)
                  clear BK223
                  clear BK224
                  clear HB
                  have BK223 := n0_
                  have BK224 := n1_
                  have HB := n2_
                  clear n0_ n1_ n2_
                  refine start_ (n := 21) (S := fun w' => w'.cell? ⟨gb224, 0, none⟩ = some (.int .i64 a1_0) ∧ w'.cell? ⟨gb224, 1, none⟩ = some (.int .i64 a1_1) ∧ w'.cell? ⟨gb224, 2, none⟩ = some (.int .i64 a1_2)) (ds := []) #[false, false, false, false, false, false, false, false, false, false, false, false, false, false, false, false, false, false, false, false, false] (by kernel_rfl) rfl rfl ⟨(blk_cell BK224.out 0).trans rfl, (blk_cell BK224.out 1).trans rfl, (blk_cell BK224.out 2).trans rfl⟩ (fun hHeld => ?_); refine with_tabW revenantlaw05_PlaceExact.tab7 revenantlaw05_PlaceExact.bits7 (fun HT_ HW_ => ?_)
                  generalize wc.drew = w56 at BK223 BK224 HB hHeld ⊢
                  refine pure_ (i := 2) (N := some 54) (v := ?_) (a' := ?_) #[false, false, true, false, false, false, false, false, false, false, false, false, false, false, false, false, false, false, false, false, false] rfl rfl (any_of HT_.out (by kernel_rfl)) (fun _ _ _ h => h) (Or.inl ⟨by rfl, ?_⟩) ?_ ?_
                  rotate_left
                  · intro w'
                    go_simp
                    with_reducible rfl
                  rotate_left
                  · simp only [Act.put, List.setIfInBounds_toArray, List.set_cons_zero, List.set_cons_succ, i64_w, i32_w]
                    rfl
                  refine take_ (i := 0) (N := some 52) (v := ?_) (a' := ?_) #[true, false, true, false, false, false, false, false, false, false, false, false, false, false, false, false, false, false, false, false, false] rfl rfl (take_ofW HT_.out HW_.out (by kernel_rfl)) (fun _ _ _ h => h) (Or.inl ⟨by rfl, ?_⟩) hHeld ?_ ?_
                  rotate_left
                  · rintro w' ⟨s0, s1, s2⟩
                    go_simp
                    with_reducible rfl
                  rotate_left
                  · simp only [Act.put, List.setIfInBounds_toArray, List.set_cons_zero, List.set_cons_succ, i64_w, i32_w]
                    rfl
                  refine take_ (i := 3) (N := some 55) (v := ?_) (a' := ?_) #[true, false, true, true, false, false, false, false, false, false, false, false, false, false, false, false, false, false, false, false, false] rfl rfl (take_ofW HT_.out HW_.out (by kernel_rfl)) (fun _ _ _ h => h) (Or.inl ⟨by rfl, ?_⟩) hHeld ?_ ?_
                  rotate_left
                  · rintro w' ⟨s0, s1, s2⟩
                    go_simp
                    with_reducible rfl
                  rotate_left
                  · simp only [Act.put, List.setIfInBounds_toArray, List.set_cons_zero, List.set_cons_succ, i64_w, i32_w]
                    rfl
                  refine pure_ (i := 4) (N := some 56) (v := ?_) (a' := ?_) #[true, false, true, true, true, false, false, false, false, false, false, false, false, false, false, false, false, false, false, false, false] rfl rfl (any_of HT_.out (by kernel_rfl)) (fun _ _ _ h => h) (Or.inl ⟨by rfl, ?_⟩) ?_ ?_
                  rotate_left
                  · intro w'
                    go_simp
                    with_reducible rfl
                  rotate_left
                  · simp only [Act.put, List.setIfInBounds_toArray, List.set_cons_zero, List.set_cons_succ, i64_w, i32_w]
                    rfl
                  refine one_ (i := 1) (N := some 53) #[true, true, true, true, true, false, false, false, false, false, false, false, false, false, false, false, false, false, false, false, false] rfl rfl (one_of HT_.out (by kernel_rfl)) (by decide) (fun K hK => ?_)
                  refine goes_ Tryd.func14 (by kernel_rfl) rfl #[.agg #[.int .i64 a1_0, .int .i64 a1_1, .int .i64 a1_2]] (by rfl) rfl rfl (by (try simp only [List.map_toArray, List.map_cons, List.map_nil]); first | done | rfl | (simp only [List.length_drop, List.length_take]; rfl)) ?_
                  with_reducible refine (place_IsContent.calls a1_0 a1_1 a1_2 t231 _ A50.out).mono ?_
                  rintro e w57 ⟨rfl, hb⟩
                  refine ⟨_, rfl, ?_⟩
                  have n0_ := Aside0.mk (blk_below (g := gb223) (o := .cells #[.int .i64 a0_0, .int .i64 a0_1, .int .i64 a0_2, .int .i64 a0_3, .int .i64 a0_4] 23 (0, 0)) (by (with_reducible repeat (first | refine blk_drewN ?_ _ | refine blk_drew ?_ | refine blk_alloc ?_ _)); exact BK223.out) hb)
                  have n1_ := Aside0.mk (blk_below (g := gb224) (o := .cells #[.int .i64 a1_0, .int .i64 a1_1, .int .i64 a1_2] 25 (0, 0)) (by (with_reducible repeat (first | refine blk_drewN ?_ _ | refine blk_drew ?_ | refine blk_alloc ?_ _)); exact BK224.out) hb)
                  have n2_ := Aside0.mk (below_step (by repeat (first | (with_reducible first | exact HB.out | apply below_alloc | apply pw_below_drewN | apply below_drew1 | refine below_set ?_ GE223.out | refine below_set ?_ GE224.out) | exact HB.out)) hb)
                  clear BK223
                  clear BK224
                  clear HB
                  have BK223 := n0_
                  have BK224 := n1_
                  have HB := n2_
                  clear n0_ n1_ n2_
                  (try clear hb)
                  (try clear hb2)
                  (try clear hk)
                  (try clear hi)
                  refine hK.out _ _ ⟨(blk_cell BK224.out 0).trans rfl, (blk_cell BK224.out 1).trans rfl, (blk_cell BK224.out 2).trans rfl⟩ (fun hHeld => ?_)
                  clear hK K
                  refine norm_ (a' := ?_) ?_ ?_
                  rotate_left
                  · show Act.put _ (some 53) _ = _
                    simp only [Act.put, List.setIfInBounds_toArray, List.set_cons_zero, List.set_cons_succ, i64_w, i32_w]
                    rfl
                  refine pure_ (i := 5) (N := some 57) (v := ?_) (a' := ?_) #[true, true, true, true, true, true, false, false, false, false, false, false, false, false, false, false, false, false, false, false, false] rfl rfl (any_of HT_.out (by kernel_rfl)) (fun _ _ _ h => h) (Or.inl ⟨by rfl, ?_⟩) ?_ ?_
                  rotate_left
                  · intro w'
                    go_simp
                    with_reducible rfl
                  rotate_left
                  · simp only [Act.put, List.setIfInBounds_toArray, List.set_cons_zero, List.set_cons_succ, i64_w, i32_w]
                    rfl
                  refine pure_ (i := 6) (N := some 58) (v := ?_) (a' := ?_) #[true, true, true, true, true, true, true, false, false, false, false, false, false, false, false, false, false, false, false, false, false] rfl rfl (any_of HT_.out (by kernel_rfl)) (fun _ _ _ h => h) (Or.inl ⟨by rfl, ?_⟩) ?_ ?_
                  rotate_left
                  · intro w'
                    go_simp
                    with_reducible rfl
                  rotate_left
                  · simp only [Act.put, List.setIfInBounds_toArray, List.set_cons_zero, List.set_cons_succ, i64_w, i32_w]
                    rfl
                  refine take_ (i := 7) (N := some 59) (v := ?_) (a' := ?_) #[true, true, true, true, true, true, true, true, false, false, false, false, false, false, false, false, false, false, false, false, false] rfl rfl (take_ofW HT_.out HW_.out (by kernel_rfl)) (fun _ _ _ h => h) (Or.inl ⟨by rfl, ?_⟩) hHeld ?_ ?_
                  rotate_left
                  · rintro w' ⟨s0, s1, s2⟩
                    go_simp
                    with_reducible rfl
                  rotate_left
                  · simp only [Act.put, List.setIfInBounds_toArray, List.set_cons_zero, List.set_cons_succ, i64_w, i32_w]
                    rfl
                  refine pure_ (i := 8) (N := some 60) (v := ?_) (a' := ?_) #[true, true, true, true, true, true, true, true, true, false, false, false, false, false, false, false, false, false, false, false, false] rfl rfl (any_of HT_.out (by kernel_rfl)) (fun _ _ _ h => h) (Or.inl ⟨by rfl, ?_⟩) ?_ ?_
                  rotate_left
                  · intro w'
                    go_simp
                    with_reducible rfl
                  rotate_left
                  · simp only [Act.put, List.setIfInBounds_toArray, List.set_cons_zero, List.set_cons_succ, i64_w, i32_w]
                    rfl
                  refine pure_ (i := 9) (N := some 61) (v := ?_) (a' := ?_) #[true, true, true, true, true, true, true, true, true, true, false, false, false, false, false, false, false, false, false, false, false] rfl rfl (any_of HT_.out (by kernel_rfl)) (fun _ _ _ h => h) (Or.inl ⟨by rfl, ?_⟩) ?_ ?_
                  rotate_left
                  · intro w'
                    go_simp
                    with_reducible rfl
                  rotate_left
                  · simp only [Act.put, List.setIfInBounds_toArray, List.set_cons_zero, List.set_cons_succ, i64_w, i32_w]
                    rfl
                  refine pure_ (i := 10) (N := some 62) (v := ?_) (a' := ?_) #[true, true, true, true, true, true, true, true, true, true, true, false, false, false, false, false, false, false, false, false, false] rfl rfl (any_of HT_.out (by kernel_rfl)) (fun _ _ _ h => h) (Or.inl ⟨by rfl, ?_⟩) ?_ ?_
                  rotate_left
                  · intro w'
                    go_simp
                    with_reducible rfl
                  rotate_left
                  · simp only [Act.put, List.setIfInBounds_toArray, List.set_cons_zero, List.set_cons_succ, i64_w, i32_w]
                    rfl
                  refine pure_ (i := 11) (N := some 63) (v := ?_) (a' := ?_) #[true, true, true, true, true, true, true, true, true, true, true, true, false, false, false, false, false, false, false, false, false] rfl rfl (any_of HT_.out (by kernel_rfl)) (fun _ _ _ h => h) (Or.inl ⟨by rfl, ?_⟩) ?_ ?_
                  rotate_left
                  · intro w'
                    go_simp
                    with_reducible rfl
                  rotate_left
                  · simp only [Act.put, List.setIfInBounds_toArray, List.set_cons_zero, List.set_cons_succ, i64_w, i32_w]
                    rfl
                  refine take_ (i := 12) (N := some 64) (v := ?_) (a' := ?_) #[true, true, true, true, true, true, true, true, true, true, true, true, true, false, false, false, false, false, false, false, false] rfl rfl (take_ofW HT_.out HW_.out (by kernel_rfl)) (fun _ _ _ h => h) (Or.inl ⟨by rfl, ?_⟩) hHeld ?_ ?_
                  rotate_left
                  · rintro w' ⟨s0, s1, s2⟩
                    go_simp
                    with_reducible rfl
                  rotate_left
                  · simp only [Act.put, List.setIfInBounds_toArray, List.set_cons_zero, List.set_cons_succ, i64_w, i32_w]
                    rfl
                  refine pure_ (i := 13) (N := some 65) (v := ?_) (a' := ?_) #[true, true, true, true, true, true, true, true, true, true, true, true, true, true, false, false, false, false, false, false, false] rfl rfl (any_of HT_.out (by kernel_rfl)) (fun _ _ _ h => h) (Or.inl ⟨by rfl, ?_⟩) ?_ ?_
                  rotate_left
                  · intro w'
                    go_simp
                    with_reducible rfl
                  rotate_left
                  · simp only [Act.put, List.setIfInBounds_toArray, List.set_cons_zero, List.set_cons_succ, i64_w, i32_w]
                    rfl
                  refine pure_ (i := 14) (N := some 66) (v := ?_) (a' := ?_) #[true, true, true, true, true, true, true, true, true, true, true, true, true, true, true, false, false, false, false, false, false] rfl rfl (any_of HT_.out (by kernel_rfl)) (fun _ _ _ h => h) (Or.inl ⟨by rfl, ?_⟩) ?_ ?_
                  rotate_left
                  · intro w'
                    go_simp
                    with_reducible rfl
                  rotate_left
                  · simp only [Act.put, List.setIfInBounds_toArray, List.set_cons_zero, List.set_cons_succ, i64_w, i32_w]
                    rfl
                  refine pure_ (i := 15) (N := some 67) (v := ?_) (a' := ?_) #[true, true, true, true, true, true, true, true, true, true, true, true, true, true, true, true, false, false, false, false, false] rfl rfl (any_of HT_.out (by kernel_rfl)) (fun _ _ _ h => h) (Or.inl ⟨by rfl, ?_⟩) ?_ ?_
                  rotate_left
                  · intro w'
                    go_simp
                    with_reducible rfl
                  rotate_left
                  · simp only [Act.put, List.setIfInBounds_toArray, List.set_cons_zero, List.set_cons_succ, i64_w, i32_w]
                    rfl
                  refine pure_ (i := 16) (N := some 68) (v := ?_) (a' := ?_) #[true, true, true, true, true, true, true, true, true, true, true, true, true, true, true, true, true, false, false, false, false] rfl rfl (any_of HT_.out (by kernel_rfl)) (fun _ _ _ h => h) (Or.inl ⟨by rfl, ?_⟩) ?_ ?_
                  rotate_left
                  · intro w'
                    go_simp
                    with_reducible rfl
                  rotate_left
                  · simp only [Act.put, List.setIfInBounds_toArray, List.set_cons_zero, List.set_cons_succ, i64_w, i32_w]
                    rfl
                  refine take_ (i := 17) (N := some 69) (v := ?_) (a' := ?_) #[true, true, true, true, true, true, true, true, true, true, true, true, true, true, true, true, true, true, false, false, false] rfl rfl (take_ofW HT_.out HW_.out (by kernel_rfl)) (fun _ _ _ h => h) (Or.inl ⟨by rfl, ?_⟩) hHeld ?_ ?_
                  rotate_left
                  · rintro w' ⟨s0, s1, s2⟩
                    go_simp
                    with_reducible rfl
                  rotate_left
                  · simp only [Act.put, List.setIfInBounds_toArray, List.set_cons_zero, List.set_cons_succ, i64_w, i32_w]
                    rfl
                  refine pure_ (i := 18) (N := some 70) (v := ?_) (a' := ?_) #[true, true, true, true, true, true, true, true, true, true, true, true, true, true, true, true, true, true, true, false, false] rfl rfl (any_of HT_.out (by kernel_rfl)) (fun _ _ _ h => h) (Or.inl ⟨by rfl, ?_⟩) ?_ ?_
                  rotate_left
                  · intro w'
                    go_simp
                    with_reducible rfl
                  rotate_left
                  · simp only [Act.put, List.setIfInBounds_toArray, List.set_cons_zero, List.set_cons_succ, i64_w, i32_w]
                    rfl
                  refine pure_ (i := 19) (N := some 71) (v := ?_) (a' := ?_) #[true, true, true, true, true, true, true, true, true, true, true, true, true, true, true, true, true, true, true, true, false] rfl rfl (any_of HT_.out (by kernel_rfl)) (fun _ _ _ h => h) (Or.inl ⟨by rfl, ?_⟩) ?_ ?_
                  rotate_left
                  · intro w'
                    go_simp
                    with_reducible rfl
                  rotate_left
                  · simp only [Act.put, List.setIfInBounds_toArray, List.set_cons_zero, List.set_cons_succ, i64_w, i32_w]
                    rfl
                  refine pure_ (i := 20) (N := some 72) (v := ?_) (a' := ?_) #[true, true, true, true, true, true, true, true, true, true, true, true, true, true, true, true, true, true, true, true, true] rfl rfl (any_of HT_.out (by kernel_rfl)) (fun _ _ _ h => h) (Or.inl ⟨by rfl, ?_⟩) ?_ ?_
                  rotate_left
                  · intro w'
                    go_simp
                    with_reducible rfl
                  rotate_left
                  · simp only [Act.put, List.setIfInBounds_toArray, List.set_cons_zero, List.set_cons_succ, i64_w, i32_w]
                    rfl
                  refine done_ (done_of HT_.out (by kernel_rfl)) ?_
                  try go_wp2
                  go_meet
                  case rel => exact ⟨_, ((t231 != (a1_2 != 2))), (by first | rfl | (simp; done) | (simp [*]; done)), H', ⟨by have := HJ7.out; first | omega | exact Nat.le_refl _⟩, ⟨by (with_reducible repeat (first | refine blk_drewN ?_ _ | refine blk_drew ?_ | refine blk_alloc ?_ _)); exact BK223.out⟩, ⟨by (with_reducible repeat (first | refine blk_drewN ?_ _ | refine blk_drew ?_ | refine blk_alloc ?_ _)); exact BK224.out⟩, ⟨by repeat (first | (with_reducible first | exact HB.out | apply below_alloc | apply pw_below_drewN | apply below_drew1 | refine below_set ?_ GE223.out | refine below_set ?_ GE224.out) | exact HB.out)⟩⟩
              · rw [if_neg c52] at H
                have c52b0 : decide (0 ≤ a1_2) = false := decide_eq_false c52
                clear c52
                have H' := Aside0.mk H
                clear H
                try go_wp2
                have n0_ := Aside0.mk (blk_drew BK223.out)
                have n1_ := Aside0.mk (blk_drew BK224.out)
                have n2_ := Aside0.mk (below_drew1 HB.out)
                clear BK223
                clear BK224
                clear HB
                have BK223 := n0_
                have BK224 := n1_
                have HB := n2_
                clear n0_ n1_ n2_
                refine start_ (n := 21) (S := fun w' => w'.cell? ⟨gb224, 0, none⟩ = some (.int .i64 a1_0) ∧ w'.cell? ⟨gb224, 1, none⟩ = some (.int .i64 a1_1) ∧ w'.cell? ⟨gb224, 2, none⟩ = some (.int .i64 a1_2)) (ds := []) #[false, false, false, false, false, false, false, false, false, false, false, false, false, false, false, false, false, false, false, false, false] (by kernel_rfl) rfl rfl ⟨(blk_cell BK224.out 0).trans rfl, (blk_cell BK224.out 1).trans rfl, (blk_cell BK224.out 2).trans rfl⟩ (fun hHeld => ?_); refine with_tabW revenantlaw05_PlaceExact.tab7 revenantlaw05_PlaceExact.bits7 (fun HT_ HW_ => ?_)
                generalize wc.drew = w58 at BK223 BK224 HB hHeld ⊢
                refine pure_ (i := 2) (N := some 54) (v := ?_) (a' := ?_) #[false, false, true, false, false, false, false, false, false, false, false, false, false, false, false, false, false, false, false, false, false] rfl rfl (any_of HT_.out (by kernel_rfl)) (fun _ _ _ h => h) (Or.inl ⟨by rfl, ?_⟩) ?_ ?_
                rotate_left
                · intro w'
                  go_simp
                  with_reducible rfl
                rotate_left
                · simp only [Act.put, List.setIfInBounds_toArray, List.set_cons_zero, List.set_cons_succ, i64_w, i32_w]
                  rfl
                refine take_ (i := 0) (N := some 52) (v := ?_) (a' := ?_) #[true, false, true, false, false, false, false, false, false, false, false, false, false, false, false, false, false, false, false, false, false] rfl rfl (take_ofW HT_.out HW_.out (by kernel_rfl)) (fun _ _ _ h => h) (Or.inl ⟨by rfl, ?_⟩) hHeld ?_ ?_
                rotate_left
                · rintro w' ⟨s0, s1, s2⟩
                  go_simp
                  with_reducible rfl
                rotate_left
                · simp only [Act.put, List.setIfInBounds_toArray, List.set_cons_zero, List.set_cons_succ, i64_w, i32_w]
                  rfl
                refine take_ (i := 3) (N := some 55) (v := ?_) (a' := ?_) #[true, false, true, true, false, false, false, false, false, false, false, false, false, false, false, false, false, false, false, false, false] rfl rfl (take_ofW HT_.out HW_.out (by kernel_rfl)) (fun _ _ _ h => h) (Or.inl ⟨by rfl, ?_⟩) hHeld ?_ ?_
                rotate_left
                · rintro w' ⟨s0, s1, s2⟩
                  go_simp
                  with_reducible rfl
                rotate_left
                · simp only [Act.put, List.setIfInBounds_toArray, List.set_cons_zero, List.set_cons_succ, i64_w, i32_w]
                  rfl
                refine pure_ (i := 4) (N := some 56) (v := ?_) (a' := ?_) #[true, false, true, true, true, false, false, false, false, false, false, false, false, false, false, false, false, false, false, false, false] rfl rfl (any_of HT_.out (by kernel_rfl)) (fun _ _ _ h => h) (Or.inl ⟨by rfl, ?_⟩) ?_ ?_
                rotate_left
                · intro w'
                  go_simp
                  with_reducible rfl
                rotate_left
                · simp only [Act.put, List.setIfInBounds_toArray, List.set_cons_zero, List.set_cons_succ, i64_w, i32_w]
                  rfl
                refine one_ (i := 1) (N := some 53) #[true, true, true, true, true, false, false, false, false, false, false, false, false, false, false, false, false, false, false, false, false] rfl rfl (one_of HT_.out (by kernel_rfl)) (by decide) (fun K hK => ?_)
                refine goes_ Tryd.func14 (by kernel_rfl) rfl #[.agg #[.int .i64 a1_0, .int .i64 a1_1, .int .i64 a1_2]] (by rfl) rfl rfl (by (try simp only [List.map_toArray, List.map_cons, List.map_nil]); first | done | rfl | (simp only [List.length_drop, List.length_take]; rfl)) ?_
                with_reducible refine (place_IsContent.calls a1_0 a1_1 a1_2 t231 _ A50.out).mono ?_
                rintro e w59 ⟨rfl, hb⟩
                refine ⟨_, rfl, ?_⟩
                have n0_ := Aside0.mk (blk_below (g := gb223) (o := .cells #[.int .i64 a0_0, .int .i64 a0_1, .int .i64 a0_2, .int .i64 a0_3, .int .i64 a0_4] 23 (0, 0)) (by (with_reducible repeat (first | refine blk_drewN ?_ _ | refine blk_drew ?_ | refine blk_alloc ?_ _)); exact BK223.out) hb)
                have n1_ := Aside0.mk (blk_below (g := gb224) (o := .cells #[.int .i64 a1_0, .int .i64 a1_1, .int .i64 a1_2] 25 (0, 0)) (by (with_reducible repeat (first | refine blk_drewN ?_ _ | refine blk_drew ?_ | refine blk_alloc ?_ _)); exact BK224.out) hb)
                have n2_ := Aside0.mk (below_step (by repeat (first | (with_reducible first | exact HB.out | apply below_alloc | apply pw_below_drewN | apply below_drew1 | refine below_set ?_ GE223.out | refine below_set ?_ GE224.out) | exact HB.out)) hb)
                clear BK223
                clear BK224
                clear HB
                have BK223 := n0_
                have BK224 := n1_
                have HB := n2_
                clear n0_ n1_ n2_
                (try clear hb)
                (try clear hb2)
                (try clear hk)
                (try clear hi)
                refine hK.out _ _ ⟨(blk_cell BK224.out 0).trans rfl, (blk_cell BK224.out 1).trans rfl, (blk_cell BK224.out 2).trans rfl⟩ (fun hHeld => ?_)
                clear hK K
                refine norm_ (a' := ?_) ?_ ?_
                rotate_left
                · show Act.put _ (some 53) _ = _
                  simp only [Act.put, List.setIfInBounds_toArray, List.set_cons_zero, List.set_cons_succ, i64_w, i32_w]
                  rfl
                refine pure_ (i := 5) (N := some 57) (v := ?_) (a' := ?_) #[true, true, true, true, true, true, false, false, false, false, false, false, false, false, false, false, false, false, false, false, false] rfl rfl (any_of HT_.out (by kernel_rfl)) (fun _ _ _ h => h) (Or.inl ⟨by rfl, ?_⟩) ?_ ?_
                rotate_left
                · intro w'
                  go_simp
                  with_reducible rfl
                rotate_left
                · simp only [Act.put, List.setIfInBounds_toArray, List.set_cons_zero, List.set_cons_succ, i64_w, i32_w]
                  rfl
                refine pure_ (i := 6) (N := some 58) (v := ?_) (a' := ?_) #[true, true, true, true, true, true, true, false, false, false, false, false, false, false, false, false, false, false, false, false, false] rfl rfl (any_of HT_.out (by kernel_rfl)) (fun _ _ _ h => h) (Or.inl ⟨by rfl, ?_⟩) ?_ ?_
                rotate_left
                · intro w'
                  go_simp
                  with_reducible rfl
                rotate_left
                · simp only [Act.put, List.setIfInBounds_toArray, List.set_cons_zero, List.set_cons_succ, i64_w, i32_w]
                  rfl
                refine take_ (i := 7) (N := some 59) (v := ?_) (a' := ?_) #[true, true, true, true, true, true, true, true, false, false, false, false, false, false, false, false, false, false, false, false, false] rfl rfl (take_ofW HT_.out HW_.out (by kernel_rfl)) (fun _ _ _ h => h) (Or.inl ⟨by rfl, ?_⟩) hHeld ?_ ?_
                rotate_left
                · rintro w' ⟨s0, s1, s2⟩
                  go_simp
                  with_reducible rfl
                rotate_left
                · simp only [Act.put, List.setIfInBounds_toArray, List.set_cons_zero, List.set_cons_succ, i64_w, i32_w]
                  rfl
                refine pure_ (i := 8) (N := some 60) (v := ?_) (a' := ?_) #[true, true, true, true, true, true, true, true, true, false, false, false, false, false, false, false, false, false, false, false, false] rfl rfl (any_of HT_.out (by kernel_rfl)) (fun _ _ _ h => h) (Or.inl ⟨by rfl, ?_⟩) ?_ ?_
                rotate_left
                · intro w'
                  go_simp
                  with_reducible rfl
                rotate_left
                · simp only [Act.put, List.setIfInBounds_toArray, List.set_cons_zero, List.set_cons_succ, i64_w, i32_w]
                  rfl
                refine pure_ (i := 9) (N := some 61) (v := ?_) (a' := ?_) #[true, true, true, true, true, true, true, true, true, true, false, false, false, false, false, false, false, false, false, false, false] rfl rfl (any_of HT_.out (by kernel_rfl)) (fun _ _ _ h => h) (Or.inl ⟨by rfl, ?_⟩) ?_ ?_
                rotate_left
                · intro w'
                  go_simp
                  with_reducible rfl
                rotate_left
                · simp only [Act.put, List.setIfInBounds_toArray, List.set_cons_zero, List.set_cons_succ, i64_w, i32_w]
                  rfl
                refine pure_ (i := 10) (N := some 62) (v := ?_) (a' := ?_) #[true, true, true, true, true, true, true, true, true, true, true, false, false, false, false, false, false, false, false, false, false] rfl rfl (any_of HT_.out (by kernel_rfl)) (fun _ _ _ h => h) (Or.inl ⟨by rfl, ?_⟩) ?_ ?_
                rotate_left
                · intro w'
                  go_simp
                  with_reducible rfl
                rotate_left
                · simp only [Act.put, List.setIfInBounds_toArray, List.set_cons_zero, List.set_cons_succ, i64_w, i32_w]
                  rfl
                refine pure_ (i := 11) (N := some 63) (v := undef) (a' := ?_) #[true, true, true, true, true, true, true, true, true, true, true, true, false, false, false, false, false, false, false, false, false] rfl rfl (any_of HT_.out (by kernel_rfl)) (fun _ _ _ h => h) (Or.inr ⟨by rfl, rfl⟩) ?_ ?_
                rotate_left
                · simp only [Act.put, List.setIfInBounds_toArray, List.set_cons_zero, List.set_cons_succ, i64_w, i32_w]
                  rfl
                refine pure_ (i := 12) (N := some 64) (v := undef) (a' := ?_) #[true, true, true, true, true, true, true, true, true, true, true, true, true, false, false, false, false, false, false, false, false] rfl rfl (any_of HT_.out (by kernel_rfl)) (fun _ _ _ h => h) (Or.inr ⟨by rfl, rfl⟩) ?_ ?_
                rotate_left
                · simp only [Act.put, List.setIfInBounds_toArray, List.set_cons_zero, List.set_cons_succ, i64_w, i32_w]
                  rfl
                refine pure_ (i := 13) (N := some 65) (v := undef) (a' := ?_) #[true, true, true, true, true, true, true, true, true, true, true, true, true, true, false, false, false, false, false, false, false] rfl rfl (any_of HT_.out (by kernel_rfl)) (fun _ _ _ h => h) (Or.inr ⟨by rfl, rfl⟩) ?_ ?_
                rotate_left
                · simp only [Act.put, List.setIfInBounds_toArray, List.set_cons_zero, List.set_cons_succ, i64_w, i32_w]
                  rfl
                refine pure_ (i := 14) (N := some 66) (v := ?_) (a' := ?_) #[true, true, true, true, true, true, true, true, true, true, true, true, true, true, true, false, false, false, false, false, false] rfl rfl (any_of HT_.out (by kernel_rfl)) (fun _ _ _ h => h) (Or.inl ⟨by rfl, ?_⟩) ?_ ?_
                rotate_left
                · intro w'
                  go_simp
                  with_reducible rfl
                rotate_left
                · simp only [Act.put, List.setIfInBounds_toArray, List.set_cons_zero, List.set_cons_succ, i64_w, i32_w]
                  rfl
                refine pure_ (i := 15) (N := some 67) (v := ?_) (a' := ?_) #[true, true, true, true, true, true, true, true, true, true, true, true, true, true, true, true, false, false, false, false, false] rfl rfl (any_of HT_.out (by kernel_rfl)) (fun _ _ _ h => h) (Or.inl ⟨by rfl, ?_⟩) ?_ ?_
                rotate_left
                · intro w'
                  go_simp
                  with_reducible rfl
                rotate_left
                · simp only [Act.put, List.setIfInBounds_toArray, List.set_cons_zero, List.set_cons_succ, i64_w, i32_w]
                  rfl
                refine pure_ (i := 16) (N := some 68) (v := undef) (a' := ?_) #[true, true, true, true, true, true, true, true, true, true, true, true, true, true, true, true, true, false, false, false, false] rfl rfl (any_of HT_.out (by kernel_rfl)) (fun _ _ _ h => h) (Or.inr ⟨by rfl, rfl⟩) ?_ ?_
                rotate_left
                · simp only [Act.put, List.setIfInBounds_toArray, List.set_cons_zero, List.set_cons_succ, i64_w, i32_w]
                  rfl
                refine pure_ (i := 17) (N := some 69) (v := undef) (a' := ?_) #[true, true, true, true, true, true, true, true, true, true, true, true, true, true, true, true, true, true, false, false, false] rfl rfl (any_of HT_.out (by kernel_rfl)) (fun _ _ _ h => h) (Or.inr ⟨by rfl, rfl⟩) ?_ ?_
                rotate_left
                · simp only [Act.put, List.setIfInBounds_toArray, List.set_cons_zero, List.set_cons_succ, i64_w, i32_w]
                  rfl
                refine pure_ (i := 18) (N := some 70) (v := undef) (a' := ?_) #[true, true, true, true, true, true, true, true, true, true, true, true, true, true, true, true, true, true, true, false, false] rfl rfl (any_of HT_.out (by kernel_rfl)) (fun _ _ _ h => h) (Or.inr ⟨by rfl, rfl⟩) ?_ ?_
                rotate_left
                · simp only [Act.put, List.setIfInBounds_toArray, List.set_cons_zero, List.set_cons_succ, i64_w, i32_w]
                  rfl
                refine pure_ (i := 19) (N := some 71) (v := ?_) (a' := ?_) #[true, true, true, true, true, true, true, true, true, true, true, true, true, true, true, true, true, true, true, true, false] rfl rfl (any_of HT_.out (by kernel_rfl)) (fun _ _ _ h => h) (Or.inl ⟨by rfl, ?_⟩) ?_ ?_
                rotate_left
                · intro w'
                  go_simp
                  with_reducible rfl
                rotate_left
                · simp only [Act.put, List.setIfInBounds_toArray, List.set_cons_zero, List.set_cons_succ, i64_w, i32_w]
                  rfl
                refine pure_ (i := 20) (N := some 72) (v := ?_) (a' := ?_) #[true, true, true, true, true, true, true, true, true, true, true, true, true, true, true, true, true, true, true, true, true] rfl rfl (any_of HT_.out (by kernel_rfl)) (fun _ _ _ h => h) (Or.inl ⟨by rfl, ?_⟩) ?_ ?_
                rotate_left
                · intro w'
                  go_simp
                  with_reducible rfl
                rotate_left
                · simp only [Act.put, List.setIfInBounds_toArray, List.set_cons_zero, List.set_cons_succ, i64_w, i32_w]
                  rfl
                refine done_ (done_of HT_.out (by kernel_rfl)) ?_
                try go_wp2
                go_meet
                case rel => exact ⟨_, ((t231 != false)), (by first | rfl | (simp; done) | (simp [*]; done)), H', ⟨by have := HJ7.out; first | omega | exact Nat.le_refl _⟩, ⟨by (with_reducible repeat (first | refine blk_drewN ?_ _ | refine blk_drew ?_ | refine blk_alloc ?_ _)); exact BK223.out⟩, ⟨by (with_reducible repeat (first | refine blk_drewN ?_ _ | refine blk_drew ?_ | refine blk_alloc ?_ _)); exact BK224.out⟩, ⟨by repeat (first | (with_reducible first | exact HB.out | apply below_alloc | apply pw_below_drewN | apply below_drew1 | refine below_set ?_ GE223.out | refine below_set ?_ GE224.out) | exact HB.out)⟩⟩
            · rw [if_neg c51] at H
              have c51b0 : (a1_0 == 5) = false := beq_eq_false_iff_ne.mpr c51
              have c51b1 : (a1_0 != 5) = true := bne_iff_ne.mpr c51
              (first | rw [c51b0] | (simp only [i64_w, i32_w]; rw [c51b0]) | skip)
              have H' := Aside0.mk H
              clear H
              try go_wp2
              have n0_ := Aside0.mk (blk_drew BK223.out)
              have n1_ := Aside0.mk (blk_drew BK224.out)
              have n2_ := Aside0.mk (below_drew1 HB.out)
              clear BK223
              clear BK224
              clear HB
              have BK223 := n0_
              have BK224 := n1_
              have HB := n2_
              clear n0_ n1_ n2_
              refine start_ (n := 21) (S := fun w' => w'.cell? ⟨gb224, 0, none⟩ = some (.int .i64 a1_0) ∧ w'.cell? ⟨gb224, 1, none⟩ = some (.int .i64 a1_1) ∧ w'.cell? ⟨gb224, 2, none⟩ = some (.int .i64 a1_2)) (ds := []) #[false, false, false, false, false, false, false, false, false, false, false, false, false, false, false, false, false, false, false, false, false] (by kernel_rfl) rfl rfl ⟨(blk_cell BK224.out 0).trans rfl, (blk_cell BK224.out 1).trans rfl, (blk_cell BK224.out 2).trans rfl⟩ (fun hHeld => ?_); refine with_tabW revenantlaw05_PlaceExact.tab7 revenantlaw05_PlaceExact.bits7 (fun HT_ HW_ => ?_)
              generalize wc.drew = w60 at BK223 BK224 HB hHeld ⊢
              refine pure_ (i := 2) (N := some 54) (v := ?_) (a' := ?_) #[false, false, true, false, false, false, false, false, false, false, false, false, false, false, false, false, false, false, false, false, false] rfl rfl (any_of HT_.out (by kernel_rfl)) (fun _ _ _ h => h) (Or.inl ⟨by rfl, ?_⟩) ?_ ?_
              rotate_left
              · intro w'
                go_simp
                with_reducible rfl
              rotate_left
              · simp only [Act.put, List.setIfInBounds_toArray, List.set_cons_zero, List.set_cons_succ, i64_w, i32_w]
                rfl
              refine take_ (i := 0) (N := some 52) (v := ?_) (a' := ?_) #[true, false, true, false, false, false, false, false, false, false, false, false, false, false, false, false, false, false, false, false, false] rfl rfl (take_ofW HT_.out HW_.out (by kernel_rfl)) (fun _ _ _ h => h) (Or.inl ⟨by rfl, ?_⟩) hHeld ?_ ?_
              rotate_left
              · rintro w' ⟨s0, s1, s2⟩
                go_simp
                with_reducible rfl
              rotate_left
              · simp only [Act.put, List.setIfInBounds_toArray, List.set_cons_zero, List.set_cons_succ, i64_w, i32_w]
                rfl
              refine take_ (i := 3) (N := some 55) (v := ?_) (a' := ?_) #[true, false, true, true, false, false, false, false, false, false, false, false, false, false, false, false, false, false, false, false, false] rfl rfl (take_ofW HT_.out HW_.out (by kernel_rfl)) (fun _ _ _ h => h) (Or.inl ⟨by rfl, ?_⟩) hHeld ?_ ?_
              rotate_left
              · rintro w' ⟨s0, s1, s2⟩
                go_simp
                with_reducible rfl
              rotate_left
              · simp only [Act.put, List.setIfInBounds_toArray, List.set_cons_zero, List.set_cons_succ, i64_w, i32_w]
                rfl
              refine pure_ (i := 4) (N := some 56) (v := ?_) (a' := ?_) #[true, false, true, true, true, false, false, false, false, false, false, false, false, false, false, false, false, false, false, false, false] rfl rfl (any_of HT_.out (by kernel_rfl)) (fun _ _ _ h => h) (Or.inl ⟨by rfl, ?_⟩) ?_ ?_
              rotate_left
              · intro w'
                go_simp
                with_reducible rfl
              rotate_left
              · simp only [Act.put, List.setIfInBounds_toArray, List.set_cons_zero, List.set_cons_succ, i64_w, i32_w]
                rfl
              refine one_ (i := 1) (N := some 53) #[true, true, true, true, true, false, false, false, false, false, false, false, false, false, false, false, false, false, false, false, false] rfl rfl (one_of HT_.out (by kernel_rfl)) (by decide) (fun K hK => ?_)
              refine goes_ Tryd.func14 (by kernel_rfl) rfl #[.agg #[.int .i64 a1_0, .int .i64 a1_1, .int .i64 a1_2]] (by rfl) rfl rfl (by (try simp only [List.map_toArray, List.map_cons, List.map_nil]); first | done | rfl | (simp only [List.length_drop, List.length_take]; rfl)) ?_
              with_reducible refine (place_IsContent.calls a1_0 a1_1 a1_2 t231 _ A50.out).mono ?_
              rintro e w61 ⟨rfl, hb⟩
              refine ⟨_, rfl, ?_⟩
              have n0_ := Aside0.mk (blk_below (g := gb223) (o := .cells #[.int .i64 a0_0, .int .i64 a0_1, .int .i64 a0_2, .int .i64 a0_3, .int .i64 a0_4] 23 (0, 0)) (by (with_reducible repeat (first | refine blk_drewN ?_ _ | refine blk_drew ?_ | refine blk_alloc ?_ _)); exact BK223.out) hb)
              have n1_ := Aside0.mk (blk_below (g := gb224) (o := .cells #[.int .i64 a1_0, .int .i64 a1_1, .int .i64 a1_2] 25 (0, 0)) (by (with_reducible repeat (first | refine blk_drewN ?_ _ | refine blk_drew ?_ | refine blk_alloc ?_ _)); exact BK224.out) hb)
              have n2_ := Aside0.mk (below_step (by repeat (first | (with_reducible first | exact HB.out | apply below_alloc | apply pw_below_drewN | apply below_drew1 | refine below_set ?_ GE223.out | refine below_set ?_ GE224.out) | exact HB.out)) hb)
              clear BK223
              clear BK224
              clear HB
              have BK223 := n0_
              have BK224 := n1_
              have HB := n2_
              clear n0_ n1_ n2_
              (try clear hb)
              (try clear hb2)
              (try clear hk)
              (try clear hi)
              refine hK.out _ _ ⟨(blk_cell BK224.out 0).trans rfl, (blk_cell BK224.out 1).trans rfl, (blk_cell BK224.out 2).trans rfl⟩ (fun hHeld => ?_)
              clear hK K
              refine norm_ (a' := ?_) ?_ ?_
              rotate_left
              · show Act.put _ (some 53) _ = _
                simp only [Act.put, List.setIfInBounds_toArray, List.set_cons_zero, List.set_cons_succ, i64_w, i32_w]
                rfl
              refine pure_ (i := 5) (N := some 57) (v := ?_) (a' := ?_) #[true, true, true, true, true, true, false, false, false, false, false, false, false, false, false, false, false, false, false, false, false] rfl rfl (any_of HT_.out (by kernel_rfl)) (fun _ _ _ h => h) (Or.inl ⟨by rfl, ?_⟩) ?_ ?_
              rotate_left
              · intro w'
                go_simp
                with_reducible rfl
              rotate_left
              · simp only [Act.put, List.setIfInBounds_toArray, List.set_cons_zero, List.set_cons_succ, i64_w, i32_w]
                rfl
              refine pure_ (i := 6) (N := some 58) (v := undef) (a' := ?_) #[true, true, true, true, true, true, true, false, false, false, false, false, false, false, false, false, false, false, false, false, false] rfl rfl (any_of HT_.out (by kernel_rfl)) (fun _ _ _ h => h) (Or.inr ⟨by rfl, rfl⟩) ?_ ?_
              rotate_left
              · simp only [Act.put, List.setIfInBounds_toArray, List.set_cons_zero, List.set_cons_succ, i64_w, i32_w]
                rfl
              refine pure_ (i := 7) (N := some 59) (v := undef) (a' := ?_) #[true, true, true, true, true, true, true, true, false, false, false, false, false, false, false, false, false, false, false, false, false] rfl rfl (any_of HT_.out (by kernel_rfl)) (fun _ _ _ h => h) (Or.inr ⟨by rfl, rfl⟩) ?_ ?_
              rotate_left
              · simp only [Act.put, List.setIfInBounds_toArray, List.set_cons_zero, List.set_cons_succ, i64_w, i32_w]
                rfl
              refine pure_ (i := 8) (N := some 60) (v := undef) (a' := ?_) #[true, true, true, true, true, true, true, true, true, false, false, false, false, false, false, false, false, false, false, false, false] rfl rfl (any_of HT_.out (by kernel_rfl)) (fun _ _ _ h => h) (Or.inr ⟨by rfl, rfl⟩) ?_ ?_
              rotate_left
              · simp only [Act.put, List.setIfInBounds_toArray, List.set_cons_zero, List.set_cons_succ, i64_w, i32_w]
                rfl
              refine pure_ (i := 9) (N := some 61) (v := ?_) (a' := ?_) #[true, true, true, true, true, true, true, true, true, true, false, false, false, false, false, false, false, false, false, false, false] rfl rfl (any_of HT_.out (by kernel_rfl)) (fun _ _ _ h => h) (Or.inl ⟨by rfl, ?_⟩) ?_ ?_
              rotate_left
              · intro w'
                go_simp
                with_reducible rfl
              rotate_left
              · simp only [Act.put, List.setIfInBounds_toArray, List.set_cons_zero, List.set_cons_succ, i64_w, i32_w]
                rfl
              refine pure_ (i := 10) (N := some 62) (v := ?_) (a' := ?_) #[true, true, true, true, true, true, true, true, true, true, true, false, false, false, false, false, false, false, false, false, false] rfl rfl (any_of HT_.out (by kernel_rfl)) (fun _ _ _ h => h) (Or.inl ⟨by rfl, ?_⟩) ?_ ?_
              rotate_left
              · intro w'
                go_simp
                with_reducible rfl
              rotate_left
              · simp only [Act.put, List.setIfInBounds_toArray, List.set_cons_zero, List.set_cons_succ, i64_w, i32_w]
                rfl
              refine pure_ (i := 11) (N := some 63) (v := undef) (a' := ?_) #[true, true, true, true, true, true, true, true, true, true, true, true, false, false, false, false, false, false, false, false, false] rfl rfl (any_of HT_.out (by kernel_rfl)) (fun _ _ _ h => h) (Or.inr ⟨by rfl, rfl⟩) ?_ ?_
              rotate_left
              · simp only [Act.put, List.setIfInBounds_toArray, List.set_cons_zero, List.set_cons_succ, i64_w, i32_w]
                rfl
              refine pure_ (i := 12) (N := some 64) (v := undef) (a' := ?_) #[true, true, true, true, true, true, true, true, true, true, true, true, true, false, false, false, false, false, false, false, false] rfl rfl (any_of HT_.out (by kernel_rfl)) (fun _ _ _ h => h) (Or.inr ⟨by rfl, rfl⟩) ?_ ?_
              rotate_left
              · simp only [Act.put, List.setIfInBounds_toArray, List.set_cons_zero, List.set_cons_succ, i64_w, i32_w]
                rfl
              refine pure_ (i := 13) (N := some 65) (v := undef) (a' := ?_) #[true, true, true, true, true, true, true, true, true, true, true, true, true, true, false, false, false, false, false, false, false] rfl rfl (any_of HT_.out (by kernel_rfl)) (fun _ _ _ h => h) (Or.inr ⟨by rfl, rfl⟩) ?_ ?_
              rotate_left
              · simp only [Act.put, List.setIfInBounds_toArray, List.set_cons_zero, List.set_cons_succ, i64_w, i32_w]
                rfl
              refine pure_ (i := 14) (N := some 66) (v := ?_) (a' := ?_) #[true, true, true, true, true, true, true, true, true, true, true, true, true, true, true, false, false, false, false, false, false] rfl rfl (any_of HT_.out (by kernel_rfl)) (fun _ _ _ h => h) (Or.inl ⟨by rfl, ?_⟩) ?_ ?_
              rotate_left
              · intro w'
                go_simp
                with_reducible rfl
              rotate_left
              · simp only [Act.put, List.setIfInBounds_toArray, List.set_cons_zero, List.set_cons_succ, i64_w, i32_w]
                rfl
              refine pure_ (i := 15) (N := some 67) (v := ?_) (a' := ?_) #[true, true, true, true, true, true, true, true, true, true, true, true, true, true, true, true, false, false, false, false, false] rfl rfl (any_of HT_.out (by kernel_rfl)) (fun _ _ _ h => h) (Or.inl ⟨by rfl, ?_⟩) ?_ ?_
              rotate_left
              · intro w'
                go_simp
                with_reducible rfl
              rotate_left
              · simp only [Act.put, List.setIfInBounds_toArray, List.set_cons_zero, List.set_cons_succ, i64_w, i32_w]
                rfl
              refine pure_ (i := 16) (N := some 68) (v := undef) (a' := ?_) #[true, true, true, true, true, true, true, true, true, true, true, true, true, true, true, true, true, false, false, false, false] rfl rfl (any_of HT_.out (by kernel_rfl)) (fun _ _ _ h => h) (Or.inr ⟨by rfl, rfl⟩) ?_ ?_
              rotate_left
              · simp only [Act.put, List.setIfInBounds_toArray, List.set_cons_zero, List.set_cons_succ, i64_w, i32_w]
                rfl
              refine pure_ (i := 17) (N := some 69) (v := undef) (a' := ?_) #[true, true, true, true, true, true, true, true, true, true, true, true, true, true, true, true, true, true, false, false, false] rfl rfl (any_of HT_.out (by kernel_rfl)) (fun _ _ _ h => h) (Or.inr ⟨by rfl, rfl⟩) ?_ ?_
              rotate_left
              · simp only [Act.put, List.setIfInBounds_toArray, List.set_cons_zero, List.set_cons_succ, i64_w, i32_w]
                rfl
              refine pure_ (i := 18) (N := some 70) (v := undef) (a' := ?_) #[true, true, true, true, true, true, true, true, true, true, true, true, true, true, true, true, true, true, true, false, false] rfl rfl (any_of HT_.out (by kernel_rfl)) (fun _ _ _ h => h) (Or.inr ⟨by rfl, rfl⟩) ?_ ?_
              rotate_left
              · simp only [Act.put, List.setIfInBounds_toArray, List.set_cons_zero, List.set_cons_succ, i64_w, i32_w]
                rfl
              refine pure_ (i := 19) (N := some 71) (v := ?_) (a' := ?_) #[true, true, true, true, true, true, true, true, true, true, true, true, true, true, true, true, true, true, true, true, false] rfl rfl (any_of HT_.out (by kernel_rfl)) (fun _ _ _ h => h) (Or.inl ⟨by rfl, ?_⟩) ?_ ?_
              rotate_left
              · intro w'
                go_simp
                with_reducible rfl
              rotate_left
              · simp only [Act.put, List.setIfInBounds_toArray, List.set_cons_zero, List.set_cons_succ, i64_w, i32_w]
                rfl
              refine pure_ (i := 20) (N := some 72) (v := ?_) (a' := ?_) #[true, true, true, true, true, true, true, true, true, true, true, true, true, true, true, true, true, true, true, true, true] rfl rfl (any_of HT_.out (by kernel_rfl)) (fun _ _ _ h => h) (Or.inl ⟨by rfl, ?_⟩) ?_ ?_
              rotate_left
              · intro w'
                go_simp
                with_reducible rfl
              rotate_left
              · simp only [Act.put, List.setIfInBounds_toArray, List.set_cons_zero, List.set_cons_succ, i64_w, i32_w]
                rfl
              refine done_ (done_of HT_.out (by kernel_rfl)) ?_
              try go_wp2
              go_meet
              case rel => exact ⟨_, ((t231 != false)), (by first | rfl | (simp; done) | (simp [*]; done)), H', ⟨by have := HJ7.out; first | omega | exact Nat.le_refl _⟩, ⟨by (with_reducible repeat (first | refine blk_drewN ?_ _ | refine blk_drew ?_ | refine blk_alloc ?_ _)); exact BK223.out⟩, ⟨by (with_reducible repeat (first | refine blk_drewN ?_ _ | refine blk_drew ?_ | refine blk_alloc ?_ _)); exact BK224.out⟩, ⟨by repeat (first | (with_reducible first | exact HB.out | apply below_alloc | apply pw_below_drewN | apply below_drew1 | refine below_set ?_ GE223.out | refine below_set ?_ GE224.out) | exact HB.out)⟩⟩
          case rest =>
            clear HC49
            try clear c1
            try clear p2
            try clear c5
            try clear c14
            try clear c51
            try clear c51b0
            try clear c51b1
            try clear c52
            try clear c52b0
            try clear c53
            try clear c53b0
            try clear c53b1
            obtain ⟨kq, x72_48, rfl, HA, HJ48, BK223, BK224, HB⟩ := hcut
            cases kq with
            | zero => exact absurd HA.out (by simp [revenantlaw05_PlaceExact.j1])
            | succ kj48 =>
              have H := HA.out
              clear HA
              simp only [revenantlaw05_PlaceExact.j1] at H
              by_cases c62 : x72_48 = true
              · subst c62
                have H1 : (some false) = some r := by rw [if_pos rfl] at H; exact H
                clear H
                have H := H1
                clear H1
                exact absurd ((Option.some.inj H).trans HR.out) (by decide)
              · replace c62 := Bool.eq_false_iff.mpr c62
                subst c62
                have H1 : ((revenantref03_Check.f kj48 a0_0 a0_1 a0_2 a0_3 a0_4).bind fun t232 => (if t232 = 0 then ((revenantref03_Roots.f kj48 a0_0 a0_1 a0_2 a0_3 a0_4).bind fun t233 => (revenantlaw05_PlaceExact.j2 kj48 a2 (wrap64 ((wrap64 (3 + t233)) + (wrap64 (a0_1 * (wrap64 (7 + a0_3)))))) a0_0 a0_1 a0_2 a0_3 a0_4)) else (revenantlaw05_PlaceExact.j2 kj48 a2 0 a0_0 a0_1 a0_2 a0_3 a0_4))) = some r := by rw [if_neg (show ¬ (false = true) by decide)] at H; exact H
                clear H
                have H := H1
                clear H1
                replace H := Option.bind_eq_some_iff.mp H
                obtain ⟨t232, A630, H⟩ := H
                replace H : (if t232 = 0 then ((revenantref03_Roots.f kj48 a0_0 a0_1 a0_2 a0_3 a0_4).bind fun t233 => (revenantlaw05_PlaceExact.j2 kj48 a2 (wrap64 ((wrap64 (3 + t233)) + (wrap64 (a0_1 * (wrap64 (7 + a0_3)))))) a0_0 a0_1 a0_2 a0_3 a0_4)) else (revenantlaw05_PlaceExact.j2 kj48 a2 0 a0_0 a0_1 a0_2 a0_3 a0_4)) = some r := H
                have A63 := Aside0.mk A630
                clear A630
                have HC64 := Aside0.mk H
                clear H
                have hnb65 := NB223_224.out
                have hnc65 := NB224_223.out
                have hcz66_0 : wc.cell? ⟨gb223, 0, none⟩ = some (.int .i64 a0_0) := (blk_cell BK223.out 0).trans rfl
                have hcz66_1 : wc.cell? ⟨gb223, 1, none⟩ = some (.int .i64 a0_1) := (blk_cell BK223.out 1).trans rfl
                have hcz66_2 : wc.cell? ⟨gb223, 2, none⟩ = some (.int .i64 a0_2) := (blk_cell BK223.out 2).trans rfl
                have hcz66_3 : wc.cell? ⟨gb223, 3, none⟩ = some (.int .i64 a0_3) := (blk_cell BK223.out 3).trans rfl
                have hcz66_4 : wc.cell? ⟨gb223, 4, none⟩ = some (.int .i64 a0_4) := (blk_cell BK223.out 4).trans rfl
                have hfz66_0 := blk_frozen BK223.out 0
                have hfz66_1 := blk_frozen BK223.out 1
                have hfz66_2 := blk_frozen BK223.out 2
                have hfz66_3 := blk_frozen BK223.out 3
                have hfz66_4 := blk_frozen BK223.out 4
                go_upto_if 75 with (first | ((with_reducible refine gate_callee (f := 15) rfl ?_); refine goesL_ (some 74) rfl rfl Tryd.func15 (by kernel_rfl) rfl #[.agg #[.int .i64 a0_0, .int .i64 a0_1, .int .i64 a0_2, .int .i64 a0_3, .int .i64 a0_4]] rfl (by (try simp only [List.map_toArray, List.map_cons, List.map_nil]); first | done | rfl | (simp only [List.length_drop, List.length_take]; rfl)) ?_; (with_reducible refine (revenantref03_Check.calls kj48 a0_0 a0_1 a0_2 a0_3 a0_4 t232 _ A63.out).mono ?_); rintro e w67 ⟨rfl, hb⟩; refine ⟨_, rfl, ?_⟩; have n0_ := Aside0.mk (blk_below (g := gb223) (o := .cells #[.int .i64 a0_0, .int .i64 a0_1, .int .i64 a0_2, .int .i64 a0_3, .int .i64 a0_4] 23 (0, 0)) (by (with_reducible repeat (first | refine blk_drewN ?_ _ | refine blk_drew ?_ | refine blk_alloc ?_ _)); exact BK223.out) hb); have n1_ := Aside0.mk (blk_below (g := gb224) (o := .cells #[.int .i64 a1_0, .int .i64 a1_1, .int .i64 a1_2] 25 (0, 0)) (by (with_reducible repeat (first | refine blk_drewN ?_ _ | refine blk_drew ?_ | refine blk_alloc ?_ _)); exact BK224.out) hb); have n2_ := Aside0.mk (below_step (by repeat (first | (with_reducible first | exact HB.out | apply below_alloc | apply pw_below_drewN | apply below_drew1 | refine below_set ?_ GE223.out | refine below_set ?_ GE224.out) | exact HB.out)) hb); clear BK223; clear BK224; clear HB; have BK223 := n0_; have BK224 := n1_; have HB := n2_; clear n0_ n1_ n2_; (try clear hb); (try clear hb2); (try clear hk); (try clear hi)))
                (try simp only [Act.put, List.setIfInBounds_toArray, List.set_cons_zero, List.set_cons_succ])
                go_cut [10] (fun v10 wc => ∃ (kq : Nat) (x10_63 : Int), v10 = .int .i64 x10_63 ∧ Aside0 (revenantlaw05_PlaceExact.j2 kq a2 x10_63 a0_0 a0_1 a0_2 a0_3 a0_4 = some r) ∧ Aside0 (kq ≤ kj48) ∧ Aside0 (wc.heap[gb223]? = some (.cells #[.int .i64 a0_0, .int .i64 a0_1, .int .i64 a0_2, .int .i64 a0_3, .int .i64 a0_4] 23 (0, 0))) ∧ Aside0 (wc.heap[gb224]? = some (.cells #[.int .i64 a1_0, .int .i64 a1_1, .int .i64 a1_2] 25 (0, 0))) ∧ Aside0 (Below w.heap.size w wc))
                case first =>
                  have H := HC64.out
                  clear HC64
                  by_cases c68 : t232 = 0
                  · rw [if_pos c68] at H
                    have c68b0 : (t232 == 0) = true := beq_iff_eq.mpr c68
                    have c68b1 : (t232 != 0) = false := bne_eq_false_iff_eq.mpr c68
                    clear c68
                    (first | rw [c68b0] | (simp only [i64_w, i32_w]; rw [c68b0]) | skip)
                    replace H := Option.bind_eq_some_iff.mp H
                    obtain ⟨t233, A690, H⟩ := H
                    replace H : (revenantlaw05_PlaceExact.j2 kj48 a2 (wrap64 ((wrap64 (3 + t233)) + (wrap64 (a0_1 * (wrap64 (7 + a0_3)))))) a0_0 a0_1 a0_2 a0_3 a0_4) = some r := H
                    have A69 := Aside0.mk A690
                    clear A690
                    have H' := Aside0.mk H
                    clear H
                    try go_wp2
                    have n0_ := Aside0.mk (blk_drew BK223.out)
                    have n1_ := Aside0.mk (blk_drew BK224.out)
                    have n2_ := Aside0.mk (below_drew1 HB.out)
                    clear BK223
                    clear BK224
                    clear HB
                    have BK223 := n0_
                    have BK224 := n1_
                    have HB := n2_
                    clear n0_ n1_ n2_
                    refine start_ (n := 11) (S := fun w' => w'.cell? ⟨gb223, 0, none⟩ = some (.int .i64 a0_0) ∧ w'.cell? ⟨gb223, 1, none⟩ = some (.int .i64 a0_1) ∧ w'.cell? ⟨gb223, 2, none⟩ = some (.int .i64 a0_2) ∧ w'.cell? ⟨gb223, 3, none⟩ = some (.int .i64 a0_3) ∧ w'.cell? ⟨gb223, 4, none⟩ = some (.int .i64 a0_4)) (ds := []) #[false, false, false, false, false, false, false, false, false, false, false] (by kernel_rfl) rfl rfl ⟨(blk_cell BK223.out 0).trans rfl, (blk_cell BK223.out 1).trans rfl, (blk_cell BK223.out 2).trans rfl, (blk_cell BK223.out 3).trans rfl, (blk_cell BK223.out 4).trans rfl⟩ (fun hHeld => ?_); refine with_tabW revenantlaw05_PlaceExact.tab11 revenantlaw05_PlaceExact.bits11 (fun HT_ HW_ => ?_)
                    generalize w67.drew = w70 at BK223 BK224 HB hHeld ⊢
                    refine pure_ (i := 3) (N := some 79) (v := ?_) (a' := ?_) #[false, false, false, true, false, false, false, false, false, false, false] rfl rfl (any_of HT_.out (by kernel_rfl)) (fun _ _ _ h => h) (Or.inl ⟨by rfl, ?_⟩) ?_ ?_
                    rotate_left
                    · intro w'
                      go_simp
                      with_reducible rfl
                    rotate_left
                    · simp only [Act.put, List.setIfInBounds_toArray, List.set_cons_zero, List.set_cons_succ, i64_w, i32_w]
                      rfl
                    refine pure_ (i := 5) (N := some 81) (v := ?_) (a' := ?_) #[false, false, false, true, false, true, false, false, false, false, false] rfl rfl (any_of HT_.out (by kernel_rfl)) (fun _ _ _ h => h) (Or.inl ⟨by rfl, ?_⟩) ?_ ?_
                    rotate_left
                    · intro w'
                      go_simp
                      with_reducible rfl
                    rotate_left
                    · simp only [Act.put, List.setIfInBounds_toArray, List.set_cons_zero, List.set_cons_succ, i64_w, i32_w]
                      rfl
                    refine take_ (i := 0) (N := some 76) (v := ?_) (a' := ?_) #[true, false, false, true, false, true, false, false, false, false, false] rfl rfl (take_ofW HT_.out HW_.out (by kernel_rfl)) (fun _ _ _ h => h) (Or.inl ⟨by rfl, ?_⟩) hHeld ?_ ?_
                    rotate_left
                    · rintro w' ⟨s0, s1, s2, s3, s4⟩
                      go_simp
                      with_reducible rfl
                    rotate_left
                    · simp only [Act.put, List.setIfInBounds_toArray, List.set_cons_zero, List.set_cons_succ, i64_w, i32_w]
                      rfl
                    refine take_ (i := 4) (N := some 80) (v := ?_) (a' := ?_) #[true, false, false, true, true, true, false, false, false, false, false] rfl rfl (take_ofW HT_.out HW_.out (by kernel_rfl)) (fun _ _ _ h => h) (Or.inl ⟨by rfl, ?_⟩) hHeld ?_ ?_
                    rotate_left
                    · rintro w' ⟨s0, s1, s2, s3, s4⟩
                      go_simp
                      with_reducible rfl
                    rotate_left
                    · simp only [Act.put, List.setIfInBounds_toArray, List.set_cons_zero, List.set_cons_succ, i64_w, i32_w]
                      rfl
                    refine take_ (i := 6) (N := some 82) (v := ?_) (a' := ?_) #[true, false, false, true, true, true, true, false, false, false, false] rfl rfl (take_ofW HT_.out HW_.out (by kernel_rfl)) (fun _ _ _ h => h) (Or.inl ⟨by rfl, ?_⟩) hHeld ?_ ?_
                    rotate_left
                    · rintro w' ⟨s0, s1, s2, s3, s4⟩
                      go_simp
                      with_reducible rfl
                    rotate_left
                    · simp only [Act.put, List.setIfInBounds_toArray, List.set_cons_zero, List.set_cons_succ, i64_w, i32_w]
                      rfl
                    refine pure_ (i := 7) (N := some 83) (v := ?_) (a' := ?_) #[true, false, false, true, true, true, true, true, false, false, false] rfl rfl (any_of HT_.out (by kernel_rfl)) (fun _ _ _ h => h) (Or.inl ⟨by rfl, ?_⟩) ?_ ?_
                    rotate_left
                    · intro w'
                      go_simp
                      with_reducible rfl
                    rotate_left
                    · simp only [Act.put, List.setIfInBounds_toArray, List.set_cons_zero, List.set_cons_succ, i64_w, i32_w]
                      rfl
                    refine pure_ (i := 8) (N := some 84) (v := ?_) (a' := ?_) #[true, false, false, true, true, true, true, true, true, false, false] rfl rfl (any_of HT_.out (by kernel_rfl)) (fun _ _ _ h => h) (Or.inl ⟨by rfl, ?_⟩) ?_ ?_
                    rotate_left
                    · intro w'
                      go_simp
                      with_reducible rfl
                    rotate_left
                    · simp only [Act.put, List.setIfInBounds_toArray, List.set_cons_zero, List.set_cons_succ, i64_w, i32_w]
                      rfl
                    refine one_ (i := 1) (N := some 77) #[true, true, false, true, true, true, true, true, true, false, false] rfl rfl (one_of HT_.out (by kernel_rfl)) (by decide) (fun K hK => ?_)
                    refine goes_ Tryd.func16 (by kernel_rfl) rfl #[.agg #[.int .i64 a0_0, .int .i64 a0_1, .int .i64 a0_2, .int .i64 a0_3, .int .i64 a0_4]] (by rfl) rfl rfl (by (try simp only [List.map_toArray, List.map_cons, List.map_nil]); first | done | rfl | (simp only [List.length_drop, List.length_take]; rfl)) ?_
                    with_reducible refine (revenantref03_Roots.calls kj48 a0_0 a0_1 a0_2 a0_3 a0_4 t233 _ A69.out).mono ?_
                    rintro e w71 ⟨rfl, hb⟩
                    refine ⟨_, rfl, ?_⟩
                    have n0_ := Aside0.mk (blk_below (g := gb223) (o := .cells #[.int .i64 a0_0, .int .i64 a0_1, .int .i64 a0_2, .int .i64 a0_3, .int .i64 a0_4] 23 (0, 0)) (by (with_reducible repeat (first | refine blk_drewN ?_ _ | refine blk_drew ?_ | refine blk_alloc ?_ _)); exact BK223.out) hb)
                    have n1_ := Aside0.mk (blk_below (g := gb224) (o := .cells #[.int .i64 a1_0, .int .i64 a1_1, .int .i64 a1_2] 25 (0, 0)) (by (with_reducible repeat (first | refine blk_drewN ?_ _ | refine blk_drew ?_ | refine blk_alloc ?_ _)); exact BK224.out) hb)
                    have n2_ := Aside0.mk (below_step (by repeat (first | (with_reducible first | exact HB.out | apply below_alloc | apply pw_below_drewN | apply below_drew1 | refine below_set ?_ GE223.out | refine below_set ?_ GE224.out) | exact HB.out)) hb)
                    clear BK223
                    clear BK224
                    clear HB
                    have BK223 := n0_
                    have BK224 := n1_
                    have HB := n2_
                    clear n0_ n1_ n2_
                    (try clear hb)
                    (try clear hb2)
                    (try clear hk)
                    (try clear hi)
                    refine hK.out _ _ ⟨(blk_cell BK223.out 0).trans rfl, (blk_cell BK223.out 1).trans rfl, (blk_cell BK223.out 2).trans rfl, (blk_cell BK223.out 3).trans rfl, (blk_cell BK223.out 4).trans rfl⟩ (fun hHeld => ?_)
                    clear hK K
                    refine norm_ (a' := ?_) ?_ ?_
                    rotate_left
                    · show Act.put _ (some 77) _ = _
                      simp only [Act.put, List.setIfInBounds_toArray, List.set_cons_zero, List.set_cons_succ, i64_w, i32_w]
                      rfl
                    refine pure_ (i := 2) (N := some 78) (v := ?_) (a' := ?_) #[true, true, true, true, true, true, true, true, true, false, false] rfl rfl (any_of HT_.out (by kernel_rfl)) (fun _ _ _ h => h) (Or.inl ⟨by rfl, ?_⟩) ?_ ?_
                    rotate_left
                    · intro w'
                      go_simp
                      with_reducible rfl
                    rotate_left
                    · simp only [Act.put, List.setIfInBounds_toArray, List.set_cons_zero, List.set_cons_succ, i64_w, i32_w]
                      rfl
                    refine pure_ (i := 9) (N := some 85) (v := ?_) (a' := ?_) #[true, true, true, true, true, true, true, true, true, true, false] rfl rfl (any_of HT_.out (by kernel_rfl)) (fun _ _ _ h => h) (Or.inl ⟨by rfl, ?_⟩) ?_ ?_
                    rotate_left
                    · intro w'
                      go_simp
                      with_reducible rfl
                    rotate_left
                    · simp only [Act.put, List.setIfInBounds_toArray, List.set_cons_zero, List.set_cons_succ, i64_w, i32_w]
                      rfl
                    refine pure_ (i := 10) (N := some 10) (v := ?_) (a' := ?_) #[true, true, true, true, true, true, true, true, true, true, true] rfl rfl (any_of HT_.out (by kernel_rfl)) (fun _ _ _ h => h) (Or.inl ⟨by rfl, ?_⟩) ?_ ?_
                    rotate_left
                    · intro w'
                      go_simp
                      with_reducible rfl
                    rotate_left
                    · simp only [Act.put, List.setIfInBounds_toArray, List.set_cons_zero, List.set_cons_succ, i64_w, i32_w]
                      rfl
                    refine done_ (done_of HT_.out (by kernel_rfl)) ?_
                    try go_wp2
                    go_meet
                    case rel => exact ⟨_, (wrap64 ((wrap64 (3 + t233)) + (wrap64 (a0_1 * (wrap64 (7 + a0_3)))))), (by first | rfl | (simp; done) | (simp [*]; done)), H', ⟨by have := HJ7.out; have := HJ48.out; first | omega | exact Nat.le_refl _⟩, ⟨by (with_reducible repeat (first | refine blk_drewN ?_ _ | refine blk_drew ?_ | refine blk_alloc ?_ _)); exact BK223.out⟩, ⟨by (with_reducible repeat (first | refine blk_drewN ?_ _ | refine blk_drew ?_ | refine blk_alloc ?_ _)); exact BK224.out⟩, ⟨by repeat (first | (with_reducible first | exact HB.out | apply below_alloc | apply pw_below_drewN | apply below_drew1 | refine below_set ?_ GE223.out | refine below_set ?_ GE224.out) | exact HB.out)⟩⟩
                  · rw [if_neg c68] at H
                    have c68b0 : (t232 == 0) = false := beq_eq_false_iff_ne.mpr c68
                    have c68b1 : (t232 != 0) = true := bne_iff_ne.mpr c68
                    (first | rw [c68b0] | (simp only [i64_w, i32_w]; rw [c68b0]) | skip)
                    have H' := Aside0.mk H
                    clear H
                    go_wp2
                    go_meet
                    case rel => exact ⟨_, (0), (by first | rfl | (simp; done) | (simp [*]; done)), H', ⟨by have := HJ7.out; have := HJ48.out; first | omega | exact Nat.le_refl _⟩, ⟨by (with_reducible repeat (first | refine blk_drewN ?_ _ | refine blk_drew ?_ | refine blk_alloc ?_ _)); exact BK223.out⟩, ⟨by (with_reducible repeat (first | refine blk_drewN ?_ _ | refine blk_drew ?_ | refine blk_alloc ?_ _)); exact BK224.out⟩, ⟨by repeat (first | (with_reducible first | exact HB.out | apply below_alloc | apply pw_below_drewN | apply below_drew1 | refine below_set ?_ GE223.out | refine below_set ?_ GE224.out) | exact HB.out)⟩⟩
                case rest =>
                  clear HC64
                  try clear c1
                  try clear p2
                  try clear c5
                  try clear c6
                  try clear p6
                  try clear c14
                  try clear c15
                  try clear c16
                  try clear c51
                  try clear c51b0
                  try clear c51b1
                  try clear c52
                  try clear c52b0
                  try clear c53
                  try clear c53b0
                  try clear c53b1
                  try clear c62
                  try clear p64
                  try clear c65
                  try clear c68
                  try clear c68b0
                  try clear c68b1
                  try clear hcz66_0
                  try clear hcz66_1
                  try clear hcz66_2
                  try clear hcz66_3
                  try clear hcz66_4
                  try clear hfz66_0
                  try clear hfz66_1
                  try clear hfz66_2
                  try clear hfz66_3
                  try clear hfz66_4
                  try clear p2
                  obtain ⟨kq, x10_63, rfl, HA, HJ63, BK223, BK224, HB⟩ := hcut
                  cases kq with
                  | zero => exact absurd HA.out (by simp [revenantlaw05_PlaceExact.j2])
                  | succ kj63 =>
                    have H := HA.out
                    clear HA
                    simp only [revenantlaw05_PlaceExact.j2] at H
                    replace H := Option.bind_eq_some_iff.mp H
                    obtain ⟨⟨t234, t235, t236, t237⟩, A720, H⟩ := H
                    replace H : (if a2 < 0 then (revenantlaw05_PlaceExact.j3 kj63 a2 x10_63 t237 true a0_0 a0_1 a0_2 a0_3 a0_4 t234 t235 t236) else (revenantlaw05_PlaceExact.j3 kj63 a2 x10_63 t237 (decide (a2 ≥ x10_63)) a0_0 a0_1 a0_2 a0_3 a0_4 t234 t235 t236)) = some r := H
                    have A72 := Aside0.mk A720
                    clear A720
                    have HC73 := Aside0.mk H
                    clear H
                    have hnb74 := NB223_224.out
                    have hnc74 := NB224_223.out
                    have hcz75_0 : wc.cell? ⟨gb223, 0, none⟩ = some (.int .i64 a0_0) := (blk_cell BK223.out 0).trans rfl
                    have hcz75_1 : wc.cell? ⟨gb223, 1, none⟩ = some (.int .i64 a0_1) := (blk_cell BK223.out 1).trans rfl
                    have hcz75_2 : wc.cell? ⟨gb223, 2, none⟩ = some (.int .i64 a0_2) := (blk_cell BK223.out 2).trans rfl
                    have hcz75_3 : wc.cell? ⟨gb223, 3, none⟩ = some (.int .i64 a0_3) := (blk_cell BK223.out 3).trans rfl
                    have hcz75_4 : wc.cell? ⟨gb223, 4, none⟩ = some (.int .i64 a0_4) := (blk_cell BK223.out 4).trans rfl
                    have hfz75_0 := blk_frozen BK223.out 0
                    have hfz75_1 := blk_frozen BK223.out 1
                    have hfz75_2 := blk_frozen BK223.out 2
                    have hfz75_3 := blk_frozen BK223.out 3
                    have hfz75_4 := blk_frozen BK223.out 4
                    go_upto_region 13 with (first | ((with_reducible refine gate_callee (f := 17) rfl ?_); refine goesL_ (some 89) rfl rfl Tryd.func17 (by kernel_rfl) rfl #[.agg #[.int .i64 a0_0, .int .i64 a0_1, .int .i64 a0_2, .int .i64 a0_3, .int .i64 a0_4], .int .i64 a2] rfl (by (try simp only [List.map_toArray, List.map_cons, List.map_nil]); first | done | rfl | (simp only [List.length_drop, List.length_take]; rfl)) ?_; (with_reducible refine (place_At.calls kj63 a0_0 a0_1 a0_2 a0_3 a0_4 a2 t234 t235 t236 t237 _ A72.out).mono ?_); rintro e w76 ⟨rfl, hb⟩; refine ⟨_, rfl, ?_⟩; have n0_ := Aside0.mk (blk_below (g := gb223) (o := .cells #[.int .i64 a0_0, .int .i64 a0_1, .int .i64 a0_2, .int .i64 a0_3, .int .i64 a0_4] 23 (0, 0)) (by (with_reducible repeat (first | refine blk_drewN ?_ _ | refine blk_drew ?_ | refine blk_alloc ?_ _)); exact BK223.out) hb); have n1_ := Aside0.mk (blk_below (g := gb224) (o := .cells #[.int .i64 a1_0, .int .i64 a1_1, .int .i64 a1_2] 25 (0, 0)) (by (with_reducible repeat (first | refine blk_drewN ?_ _ | refine blk_drew ?_ | refine blk_alloc ?_ _)); exact BK224.out) hb); have n2_ := Aside0.mk (below_step (by repeat (first | (with_reducible first | exact HB.out | apply below_alloc | apply pw_below_drewN | apply below_drew1 | refine below_set ?_ GE223.out | refine below_set ?_ GE224.out) | exact HB.out)) hb); clear BK223; clear BK224; clear HB; have BK223 := n0_; have BK224 := n1_; have HB := n2_; clear n0_ n1_ n2_; (try clear hb); (try clear hb2); (try clear hk); (try clear hi)) | ((with_reducible refine gate_dst (N := 11) rfl ?_); refine box_event ?hg (N := 11) ?hd (cs := #[.int .i64 0, .int .i64 0, .int .i64 0]) (t := 25) ?hr ?_; (case hd => rfl); (case hg => rfl); (case hr => first | (go_simp; done) | (go_simp; rfl)); intro gb238 hg w77 hbox hb; have n0_ := Aside0.mk (blk_below (g := gb223) (o := .cells #[.int .i64 a0_0, .int .i64 a0_1, .int .i64 a0_2, .int .i64 a0_3, .int .i64 a0_4] 23 (0, 0)) (by (with_reducible repeat (first | refine blk_drewN ?_ _ | refine blk_drew ?_ | refine blk_alloc ?_ _)); exact BK223.out) hb); have n1_ := Aside0.mk (blk_below (g := gb224) (o := .cells #[.int .i64 a1_0, .int .i64 a1_1, .int .i64 a1_2] 25 (0, 0)) (by (with_reducible repeat (first | refine blk_drewN ?_ _ | refine blk_drew ?_ | refine blk_alloc ?_ _)); exact BK224.out) hb); have n2_ := Aside0.mk (below_step (by repeat (first | (with_reducible first | exact HB.out | apply below_alloc | apply pw_below_drewN | apply below_drew1 | refine below_set ?_ GE223.out | refine below_set ?_ GE224.out) | exact HB.out)) hb); have n3_ := Aside0.mk (hbox); have n4_ := Aside0.mk ((by rw [hg]; exact (below_size (by repeat (first | (with_reducible first | exact HB.out | apply below_alloc | apply pw_below_drewN | apply below_drew1 | refine below_set ?_ GE223.out | refine below_set ?_ GE224.out) | exact HB.out))) : w.heap.size ≤ gb238)); have n5_ := Aside0.mk ((by rw [hg]; exact (below_size (by repeat (first | (with_reducible first | exact HB.out | apply below_alloc | apply pw_below_drewN | apply below_drew1 | refine below_set ?_ GE223.out | refine below_set ?_ GE224.out) | exact HB.out))) : w.heap.size ≤ gb238)); have n6_ := Aside0.mk ((by rw [hg]; exact Nat.ne_of_lt (blk_lt (g := gb223) (o := .cells #[.int .i64 a0_0, .int .i64 a0_1, .int .i64 a0_2, .int .i64 a0_3, .int .i64 a0_4] 23 (0, 0)) (by (with_reducible repeat (first | refine blk_drewN ?_ _ | refine blk_drew ?_ | refine blk_alloc ?_ _)); exact BK223.out)) : gb223 ≠ gb238)); have n7_ := Aside0.mk ((by rw [hg]; exact Nat.ne_of_gt (blk_lt (g := gb223) (o := .cells #[.int .i64 a0_0, .int .i64 a0_1, .int .i64 a0_2, .int .i64 a0_3, .int .i64 a0_4] 23 (0, 0)) (by (with_reducible repeat (first | refine blk_drewN ?_ _ | refine blk_drew ?_ | refine blk_alloc ?_ _)); exact BK223.out)) : gb238 ≠ gb223)); have n8_ := Aside0.mk ((by rw [hg]; exact Nat.ne_of_lt (blk_lt (g := gb224) (o := .cells #[.int .i64 a1_0, .int .i64 a1_1, .int .i64 a1_2] 25 (0, 0)) (by (with_reducible repeat (first | refine blk_drewN ?_ _ | refine blk_drew ?_ | refine blk_alloc ?_ _)); exact BK224.out)) : gb224 ≠ gb238)); have n9_ := Aside0.mk ((by rw [hg]; exact Nat.ne_of_gt (blk_lt (g := gb224) (o := .cells #[.int .i64 a1_0, .int .i64 a1_1, .int .i64 a1_2] 25 (0, 0)) (by (with_reducible repeat (first | refine blk_drewN ?_ _ | refine blk_drew ?_ | refine blk_alloc ?_ _)); exact BK224.out)) : gb238 ≠ gb224)); clear BK223; clear BK224; clear HB; have BK223 := n0_; have BK224 := n1_; have HB := n2_; have BK238 := n3_; have GW238 := n4_; have GE238 := n5_; have NB223_238 := n6_; have NB238_223 := n7_; have NB224_238 := n8_; have NB238_224 := n9_; clear n0_ n1_ n2_ n3_ n4_ n5_ n6_ n7_ n8_ n9_; clear hb hbox hg; have hnb78 := NB238_223.out; have hnc78 := NB223_238.out; have hnb79 := NB238_224.out; have hnc79 := NB224_238.out; have hcz80_0 : w77.cell? ⟨gb238, 0, none⟩ = some (.int .i64 0) := (blk_cell BK238.out 0).trans rfl; have hcz80_1 : w77.cell? ⟨gb238, 1, none⟩ = some (.int .i64 0) := (blk_cell BK238.out 1).trans rfl; have hcz80_2 : w77.cell? ⟨gb238, 2, none⟩ = some (.int .i64 0) := (blk_cell BK238.out 2).trans rfl; have hfz80_0 := blk_frozen BK238.out 0; have hfz80_1 := blk_frozen BK238.out 1; have hfz80_2 := blk_frozen BK238.out 2))
                    (try simp only [Act.put, List.setIfInBounds_toArray, List.set_cons_zero, List.set_cons_succ])
                    go_cut [98] (fun v98 wc => ∃ (kq : Nat) (x98_72 : Bool), v98 = .bool x98_72 ∧ Aside0 (revenantlaw05_PlaceExact.j3 kq a2 x10_63 t237 x98_72 a0_0 a0_1 a0_2 a0_3 a0_4 t234 t235 t236 = some r) ∧ Aside0 (kq ≤ kj63) ∧ Aside0 (wc.heap[gb223]? = some (.cells #[.int .i64 a0_0, .int .i64 a0_1, .int .i64 a0_2, .int .i64 a0_3, .int .i64 a0_4] 23 (0, 0))) ∧ Aside0 (wc.heap[gb224]? = some (.cells #[.int .i64 a1_0, .int .i64 a1_1, .int .i64 a1_2] 25 (0, 0))) ∧ Aside0 (wc.heap[gb238]? = some (.cells #[.int .i64 t234, .int .i64 t235, .int .i64 t236] 25 (0, 0))) ∧ Aside0 (Below w.heap.size w wc))
                    case first =>
                      have H := HC73.out
                      clear HC73
                      by_cases c81 : a2 < 0
                      · rw [if_pos c81] at H
                        have c81b0 : decide (a2 < 0) = true := decide_eq_true c81
                        clear c81
                        (first | rw [c81b0] | (simp only [i64_w, i32_w]; rw [c81b0]) | skip)
                        have H' := Aside0.mk H
                        clear H
                        go_wp2
                        go_meet
                        case rel => exact ⟨_, (true), (by first | rfl | (simp; done) | (simp [*]; done)), H', ⟨by have := HJ7.out; have := HJ48.out; have := HJ63.out; first | omega | exact Nat.le_refl _⟩, ⟨by (with_reducible repeat (first | refine blk_drewN ?_ _ | refine blk_drew ?_ | refine blk_alloc ?_ _)); refine blk_far ?_ NB223_238.out _; (with_reducible repeat (first | refine blk_drewN ?_ _ | refine blk_drew ?_ | refine blk_alloc ?_ _)); refine blk_far ?_ NB223_238.out _; (with_reducible repeat (first | refine blk_drewN ?_ _ | refine blk_drew ?_ | refine blk_alloc ?_ _)); refine blk_far ?_ NB223_238.out _; (with_reducible repeat (first | refine blk_drewN ?_ _ | refine blk_drew ?_ | refine blk_alloc ?_ _)); exact BK223.out⟩, ⟨by (with_reducible repeat (first | refine blk_drewN ?_ _ | refine blk_drew ?_ | refine blk_alloc ?_ _)); refine blk_far ?_ NB224_238.out _; (with_reducible repeat (first | refine blk_drewN ?_ _ | refine blk_drew ?_ | refine blk_alloc ?_ _)); refine blk_far ?_ NB224_238.out _; (with_reducible repeat (first | refine blk_drewN ?_ _ | refine blk_drew ?_ | refine blk_alloc ?_ _)); refine blk_far ?_ NB224_238.out _; (with_reducible repeat (first | refine blk_drewN ?_ _ | refine blk_drew ?_ | refine blk_alloc ?_ _)); exact BK224.out⟩, ⟨by (with_reducible repeat (first | refine blk_drewN ?_ _ | refine blk_drew ?_ | refine blk_alloc ?_ _)); refine blk_put (cs := #[.int .i64 t234, .int .i64 t235, .int .i64 0]) ?_ 2 _ rfl; (with_reducible repeat (first | refine blk_drewN ?_ _ | refine blk_drew ?_ | refine blk_alloc ?_ _)); refine blk_put (cs := #[.int .i64 t234, .int .i64 0, .int .i64 0]) ?_ 1 _ rfl; (with_reducible repeat (first | refine blk_drewN ?_ _ | refine blk_drew ?_ | refine blk_alloc ?_ _)); refine blk_put (cs := #[.int .i64 0, .int .i64 0, .int .i64 0]) ?_ 0 _ rfl; (with_reducible repeat (first | refine blk_drewN ?_ _ | refine blk_drew ?_ | refine blk_alloc ?_ _)); exact BK238.out⟩, ⟨by repeat (first | (with_reducible first | exact HB.out | apply below_alloc | apply pw_below_drewN | apply below_drew1 | refine below_set ?_ GE223.out | refine below_set ?_ GE224.out | refine below_set ?_ GE238.out) | exact HB.out)⟩⟩
                      · rw [if_neg c81] at H
                        have c81b0 : decide (a2 < 0) = false := decide_eq_false c81
                        clear c81
                        (first | rw [c81b0] | (simp only [i64_w, i32_w]; rw [c81b0]) | skip)
                        have H' := Aside0.mk H
                        clear H
                        go_wp2
                        go_meet
                        case rel => exact ⟨_, (decide (a2 ≥ x10_63)), (by first | rfl | (simp; done) | (simp [*]; done)), H', ⟨by have := HJ7.out; have := HJ48.out; have := HJ63.out; first | omega | exact Nat.le_refl _⟩, ⟨by (with_reducible repeat (first | refine blk_drewN ?_ _ | refine blk_drew ?_ | refine blk_alloc ?_ _)); refine blk_far ?_ NB223_238.out _; (with_reducible repeat (first | refine blk_drewN ?_ _ | refine blk_drew ?_ | refine blk_alloc ?_ _)); refine blk_far ?_ NB223_238.out _; (with_reducible repeat (first | refine blk_drewN ?_ _ | refine blk_drew ?_ | refine blk_alloc ?_ _)); refine blk_far ?_ NB223_238.out _; (with_reducible repeat (first | refine blk_drewN ?_ _ | refine blk_drew ?_ | refine blk_alloc ?_ _)); exact BK223.out⟩, ⟨by (with_reducible repeat (first | refine blk_drewN ?_ _ | refine blk_drew ?_ | refine blk_alloc ?_ _)); refine blk_far ?_ NB224_238.out _; (with_reducible repeat (first | refine blk_drewN ?_ _ | refine blk_drew ?_ | refine blk_alloc ?_ _)); refine blk_far ?_ NB224_238.out _; (with_reducible repeat (first | refine blk_drewN ?_ _ | refine blk_drew ?_ | refine blk_alloc ?_ _)); refine blk_far ?_ NB224_238.out _; (with_reducible repeat (first | refine blk_drewN ?_ _ | refine blk_drew ?_ | refine blk_alloc ?_ _)); exact BK224.out⟩, ⟨by (with_reducible repeat (first | refine blk_drewN ?_ _ | refine blk_drew ?_ | refine blk_alloc ?_ _)); refine blk_put (cs := #[.int .i64 t234, .int .i64 t235, .int .i64 0]) ?_ 2 _ rfl; (with_reducible repeat (first | refine blk_drewN ?_ _ | refine blk_drew ?_ | refine blk_alloc ?_ _)); refine blk_put (cs := #[.int .i64 t234, .int .i64 0, .int .i64 0]) ?_ 1 _ rfl; (with_reducible repeat (first | refine blk_drewN ?_ _ | refine blk_drew ?_ | refine blk_alloc ?_ _)); refine blk_put (cs := #[.int .i64 0, .int .i64 0, .int .i64 0]) ?_ 0 _ rfl; (with_reducible repeat (first | refine blk_drewN ?_ _ | refine blk_drew ?_ | refine blk_alloc ?_ _)); exact BK238.out⟩, ⟨by repeat (first | (with_reducible first | exact HB.out | apply below_alloc | apply pw_below_drewN | apply below_drew1 | refine below_set ?_ GE223.out | refine below_set ?_ GE224.out | refine below_set ?_ GE238.out) | exact HB.out)⟩⟩
                    case rest =>
                      clear HC73
                      try clear c1
                      try clear p2
                      try clear c5
                      try clear c6
                      try clear p6
                      try clear c7
                      try clear c8
                      try clear c14
                      try clear c15
                      try clear c16
                      try clear c17
                      try clear c51
                      try clear c51b0
                      try clear c51b1
                      try clear c52
                      try clear c52b0
                      try clear c53
                      try clear c53b0
                      try clear c53b1
                      try clear c62
                      try clear p64
                      try clear c65
                      try clear c68
                      try clear c68b0
                      try clear c68b1
                      try clear c74
                      try clear c78
                      try clear c79
                      try clear c81
                      try clear c81b0
                      try clear hcz66_0
                      try clear hcz66_1
                      try clear hcz66_2
                      try clear hcz66_3
                      try clear hcz66_4
                      try clear hcz75_0
                      try clear hcz75_1
                      try clear hcz75_2
                      try clear hcz75_3
                      try clear hcz75_4
                      try clear hcz80_0
                      try clear hcz80_1
                      try clear hcz80_2
                      try clear hfz66_0
                      try clear hfz66_1
                      try clear hfz66_2
                      try clear hfz66_3
                      try clear hfz66_4
                      try clear hfz75_0
                      try clear hfz75_1
                      try clear hfz75_2
                      try clear hfz75_3
                      try clear hfz75_4
                      try clear hfz80_0
                      try clear hfz80_1
                      try clear hfz80_2
                      try clear p2
                      try clear p6
                      try clear p64
                      obtain ⟨kq, x98_72, rfl, HA, HJ72, BK223, BK224, BK238, HB⟩ := hcut
                      cases kq with
                      | zero => exact absurd HA.out (by simp [revenantlaw05_PlaceExact.j3])
                      | succ kj72 =>
                        have H := HA.out
                        clear HA
                        simp only [revenantlaw05_PlaceExact.j3] at H
                        by_cases c82 : x98_72 = true
                        · subst c82
                          have H1 : ((place_Count.f kj72 a0_0 a0_1 a0_2 a0_3 a0_4).bind fun t239 => (if t239 = x10_63 then (if t237 = true then (some false) else (some (t234 == 0 && (t235 == 0 && (t236 == 0))))) else (some false))) = some r := by rw [if_pos rfl] at H; exact H
                          clear H
                          have H := H1
                          clear H1
                          replace H := Option.bind_eq_some_iff.mp H
                          obtain ⟨t239, A830, H⟩ := H
                          replace H : (if t239 = x10_63 then (if t237 = true then (some false) else (some (t234 == 0 && (t235 == 0 && (t236 == 0))))) else (some false)) = some r := H
                          have A83 := Aside0.mk A830
                          clear A830
                          by_cases c84 : t239 = x10_63
                          · rw [if_pos c84] at H
                            have c84b0 : (t239 == x10_63) = true := beq_iff_eq.mpr c84
                            have c84b1 : (t239 != x10_63) = false := bne_eq_false_iff_eq.mpr c84
                            clear c84
                            by_cases c85 : t237 = true
                            · subst c85
                              have H1 : (some false) = some r := by rw [if_pos rfl] at H; exact H
                              clear H
                              have H := H1
                              clear H1
                              exact absurd ((Option.some.inj H).trans HR.out) (by decide)
                            · replace c85 := Bool.eq_false_iff.mpr c85
                              subst c85
                              have H1 : (some (t234 == 0 && (t235 == 0 && (t236 == 0)))) = some r := by rw [if_neg (show ¬ (false = true) by decide)] at H; exact H
                              clear H
                              have H := H1
                              clear H1
                              obtain rfl := Option.some.inj H
                              have hnb90 := NB223_224.out
                              have hnc90 := NB224_223.out
                              have hnb91 := NB223_238.out
                              have hnc91 := NB238_223.out
                              have hcz92_0 : wc.cell? ⟨gb223, 0, none⟩ = some (.int .i64 a0_0) := (blk_cell BK223.out 0).trans rfl
                              have hcz92_1 : wc.cell? ⟨gb223, 1, none⟩ = some (.int .i64 a0_1) := (blk_cell BK223.out 1).trans rfl
                              have hcz92_2 : wc.cell? ⟨gb223, 2, none⟩ = some (.int .i64 a0_2) := (blk_cell BK223.out 2).trans rfl
                              have hcz92_3 : wc.cell? ⟨gb223, 3, none⟩ = some (.int .i64 a0_3) := (blk_cell BK223.out 3).trans rfl
                              have hcz92_4 : wc.cell? ⟨gb223, 4, none⟩ = some (.int .i64 a0_4) := (blk_cell BK223.out 4).trans rfl
                              have hfz92_0 := blk_frozen BK223.out 0
                              have hfz92_1 := blk_frozen BK223.out 1
                              have hfz92_2 := blk_frozen BK223.out 2
                              have hfz92_3 := blk_frozen BK223.out 3
                              have hfz92_4 := blk_frozen BK223.out 4
                              go_wp2_with (first | ((with_reducible refine gate_callee (f := 18) rfl ?_); refine goesL_ (some 100) rfl rfl Tryd.func18 (by kernel_rfl) rfl #[.agg #[.int .i64 a0_0, .int .i64 a0_1, .int .i64 a0_2, .int .i64 a0_3, .int .i64 a0_4]] rfl (by (try simp only [List.map_toArray, List.map_cons, List.map_nil]); first | done | rfl | (simp only [List.length_drop, List.length_take]; rfl)) ?_; (with_reducible refine (place_Count.calls kj72 a0_0 a0_1 a0_2 a0_3 a0_4 t239 _ A83.out).mono ?_); rintro e w93 ⟨rfl, hb⟩; refine ⟨_, rfl, ?_⟩; have n0_ := Aside0.mk (blk_below (g := gb223) (o := .cells #[.int .i64 a0_0, .int .i64 a0_1, .int .i64 a0_2, .int .i64 a0_3, .int .i64 a0_4] 23 (0, 0)) (by (with_reducible repeat (first | refine blk_drewN ?_ _ | refine blk_drew ?_ | refine blk_alloc ?_ _)); exact BK223.out) hb); have n1_ := Aside0.mk (blk_below (g := gb224) (o := .cells #[.int .i64 a1_0, .int .i64 a1_1, .int .i64 a1_2] 25 (0, 0)) (by (with_reducible repeat (first | refine blk_drewN ?_ _ | refine blk_drew ?_ | refine blk_alloc ?_ _)); exact BK224.out) hb); have n2_ := Aside0.mk (blk_below (g := gb238) (o := .cells #[.int .i64 t234, .int .i64 t235, .int .i64 t236] 25 (0, 0)) (by (with_reducible repeat (first | refine blk_drewN ?_ _ | refine blk_drew ?_ | refine blk_alloc ?_ _)); exact BK238.out) hb); have n3_ := Aside0.mk (below_step (by repeat (first | (with_reducible first | exact HB.out | apply below_alloc | apply pw_below_drewN | apply below_drew1 | refine below_set ?_ GE223.out | refine below_set ?_ GE224.out | refine below_set ?_ GE238.out) | exact HB.out)) hb); clear BK223; clear BK224; clear BK238; clear HB; have BK223 := n0_; have BK224 := n1_; have BK238 := n2_; have HB := n3_; clear n0_ n1_ n2_ n3_; (try clear hb); (try clear hb2); (try clear hk); (try clear hi); have hnb94 := NB238_224.out; have hnc94 := NB224_238.out; have hcz95_0 : w93.cell? ⟨gb238, 0, none⟩ = some (.int .i64 t234) := (blk_cell BK238.out 0).trans rfl; have hcz95_1 : w93.cell? ⟨gb238, 1, none⟩ = some (.int .i64 t235) := (blk_cell BK238.out 1).trans rfl; have hcz95_2 : w93.cell? ⟨gb238, 2, none⟩ = some (.int .i64 t236) := (blk_cell BK238.out 2).trans rfl; have hfz95_0 := blk_frozen BK238.out 0; have hfz95_1 := blk_frozen BK238.out 1; have hfz95_2 := blk_frozen BK238.out 2))
                              go_ret
                              exact ⟨by first | rfl | (simp [errW_none, errW_some] <;> rfl) | (simp [*, errW_none, errW_some] <;> rfl), by repeat (first | (with_reducible first | exact HB.out | apply below_alloc | apply pw_below_drewN | apply below_drew1 | refine below_set ?_ GE223.out | refine below_set ?_ GE224.out | refine below_set ?_ GE238.out) | exact HB.out)⟩
                          · rw [if_neg c84] at H
                            have c84b0 : (t239 == x10_63) = false := beq_eq_false_iff_ne.mpr c84
                            have c84b1 : (t239 != x10_63) = true := bne_iff_ne.mpr c84
                            exact absurd ((Option.some.inj H).trans HR.out) (by decide)
                        · replace c82 := Bool.eq_false_iff.mpr c82
                          subst c82
                          have H1 : ((place_Count.f kj72 a0_0 a0_1 a0_2 a0_3 a0_4).bind fun t240 => (if t240 = x10_63 then (if t237 = true then ((revenantref05_Is.f kj72 a0_0 a0_1 a0_2 a0_3 a0_4 t234 t235 t236).bind fun t241 => (if t241 = true then ((revenantref05_Number.f kj72 a0_0 a0_1 a0_2 a0_3 a0_4 t234 t235 t236).bind fun t242 => (some (t242 == a2))) else (some false))) else (some false)) else (some false))) = some r := by rw [if_neg (show ¬ (false = true) by decide)] at H; exact H
                          clear H
                          have H := H1
                          clear H1
                          replace H := Option.bind_eq_some_iff.mp H
                          obtain ⟨t240, A1000, H⟩ := H
                          replace H : (if t240 = x10_63 then (if t237 = true then ((revenantref05_Is.f kj72 a0_0 a0_1 a0_2 a0_3 a0_4 t234 t235 t236).bind fun t241 => (if t241 = true then ((revenantref05_Number.f kj72 a0_0 a0_1 a0_2 a0_3 a0_4 t234 t235 t236).bind fun t242 => (some (t242 == a2))) else (some false))) else (some false)) else (some false)) = some r := H
                          have A100 := Aside0.mk A1000
                          clear A1000
                          by_cases c101 : t240 = x10_63
                          · rw [if_pos c101] at H
                            have c101b0 : (t240 == x10_63) = true := beq_iff_eq.mpr c101
                            have c101b1 : (t240 != x10_63) = false := bne_eq_false_iff_eq.mpr c101
                            clear c101
                            by_cases c102 : t237 = true
                            · subst c102
                              have H1 : ((revenantref05_Is.f kj72 a0_0 a0_1 a0_2 a0_3 a0_4 t234 t235 t236).bind fun t241 => (if t241 = true then ((revenantref05_Number.f kj72 a0_0 a0_1 a0_2 a0_3 a0_4 t234 t235 t236).bind fun t242 => (some (t242 == a2))) else (some false))) = some r := by rw [if_pos rfl] at H; exact H
                              clear H
                              have H := H1
                              clear H1
                              replace H := Option.bind_eq_some_iff.mp H
                              obtain ⟨t241, A1030, H⟩ := H
                              replace H : (if t241 = true then ((revenantref05_Number.f kj72 a0_0 a0_1 a0_2 a0_3 a0_4 t234 t235 t236).bind fun t242 => (some (t242 == a2))) else (some false)) = some r := H
                              have A103 := Aside0.mk A1030
                              clear A1030
                              by_cases c104 : t241 = true
                              · subst c104
                                have H1 : ((revenantref05_Number.f kj72 a0_0 a0_1 a0_2 a0_3 a0_4 t234 t235 t236).bind fun t242 => (some (t242 == a2))) = some r := by rw [if_pos rfl] at H; exact H
                                clear H
                                have H := H1
                                clear H1
                                replace H := Option.bind_eq_some_iff.mp H
                                obtain ⟨t242, A1050, H⟩ := H
                                replace H : (some (t242 == a2)) = some r := H
                                have A105 := Aside0.mk A1050
                                clear A1050
                                obtain rfl := Option.some.inj H
                                have hnb106 := NB223_224.out
                                have hnc106 := NB224_223.out
                                have hnb107 := NB223_238.out
                                have hnc107 := NB238_223.out
                                have hcz108_0 : wc.cell? ⟨gb223, 0, none⟩ = some (.int .i64 a0_0) := (blk_cell BK223.out 0).trans rfl
                                have hcz108_1 : wc.cell? ⟨gb223, 1, none⟩ = some (.int .i64 a0_1) := (blk_cell BK223.out 1).trans rfl
                                have hcz108_2 : wc.cell? ⟨gb223, 2, none⟩ = some (.int .i64 a0_2) := (blk_cell BK223.out 2).trans rfl
                                have hcz108_3 : wc.cell? ⟨gb223, 3, none⟩ = some (.int .i64 a0_3) := (blk_cell BK223.out 3).trans rfl
                                have hcz108_4 : wc.cell? ⟨gb223, 4, none⟩ = some (.int .i64 a0_4) := (blk_cell BK223.out 4).trans rfl
                                have hfz108_0 := blk_frozen BK223.out 0
                                have hfz108_1 := blk_frozen BK223.out 1
                                have hfz108_2 := blk_frozen BK223.out 2
                                have hfz108_3 := blk_frozen BK223.out 3
                                have hfz108_4 := blk_frozen BK223.out 4
                                go_wp2_with (first | ((with_reducible refine gate_callee (f := 18) rfl ?_); refine goesL_ (some 113) rfl rfl Tryd.func18 (by kernel_rfl) rfl #[.agg #[.int .i64 a0_0, .int .i64 a0_1, .int .i64 a0_2, .int .i64 a0_3, .int .i64 a0_4]] rfl (by (try simp only [List.map_toArray, List.map_cons, List.map_nil]); first | done | rfl | (simp only [List.length_drop, List.length_take]; rfl)) ?_; (with_reducible refine (place_Count.calls kj72 a0_0 a0_1 a0_2 a0_3 a0_4 t240 _ A100.out).mono ?_); rintro e w109 ⟨rfl, hb⟩; refine ⟨_, rfl, ?_⟩; have n0_ := Aside0.mk (blk_below (g := gb223) (o := .cells #[.int .i64 a0_0, .int .i64 a0_1, .int .i64 a0_2, .int .i64 a0_3, .int .i64 a0_4] 23 (0, 0)) (by (with_reducible repeat (first | refine blk_drewN ?_ _ | refine blk_drew ?_ | refine blk_alloc ?_ _)); exact BK223.out) hb); have n1_ := Aside0.mk (blk_below (g := gb224) (o := .cells #[.int .i64 a1_0, .int .i64 a1_1, .int .i64 a1_2] 25 (0, 0)) (by (with_reducible repeat (first | refine blk_drewN ?_ _ | refine blk_drew ?_ | refine blk_alloc ?_ _)); exact BK224.out) hb); have n2_ := Aside0.mk (blk_below (g := gb238) (o := .cells #[.int .i64 t234, .int .i64 t235, .int .i64 t236] 25 (0, 0)) (by (with_reducible repeat (first | refine blk_drewN ?_ _ | refine blk_drew ?_ | refine blk_alloc ?_ _)); exact BK238.out) hb); have n3_ := Aside0.mk (below_step (by repeat (first | (with_reducible first | exact HB.out | apply below_alloc | apply pw_below_drewN | apply below_drew1 | refine below_set ?_ GE223.out | refine below_set ?_ GE224.out | refine below_set ?_ GE238.out) | exact HB.out)) hb); clear BK223; clear BK224; clear BK238; clear HB; have BK223 := n0_; have BK224 := n1_; have BK238 := n2_; have HB := n3_; clear n0_ n1_ n2_ n3_; (try clear hb); (try clear hb2); (try clear hk); (try clear hi); have hcz110_0 : w109.cell? ⟨gb223, 0, none⟩ = some (.int .i64 a0_0) := (blk_cell BK223.out 0).trans rfl; have hcz110_1 : w109.cell? ⟨gb223, 1, none⟩ = some (.int .i64 a0_1) := (blk_cell BK223.out 1).trans rfl; have hcz110_2 : w109.cell? ⟨gb223, 2, none⟩ = some (.int .i64 a0_2) := (blk_cell BK223.out 2).trans rfl; have hcz110_3 : w109.cell? ⟨gb223, 3, none⟩ = some (.int .i64 a0_3) := (blk_cell BK223.out 3).trans rfl; have hcz110_4 : w109.cell? ⟨gb223, 4, none⟩ = some (.int .i64 a0_4) := (blk_cell BK223.out 4).trans rfl; have hfz110_0 := blk_frozen BK223.out 0; have hfz110_1 := blk_frozen BK223.out 1; have hfz110_2 := blk_frozen BK223.out 2; have hfz110_3 := blk_frozen BK223.out 3; have hfz110_4 := blk_frozen BK223.out 4; have hnb111 := NB238_224.out; have hnc111 := NB224_238.out; have hcz112_0 : w109.cell? ⟨gb238, 0, none⟩ = some (.int .i64 t234) := (blk_cell BK238.out 0).trans rfl; have hcz112_1 : w109.cell? ⟨gb238, 1, none⟩ = some (.int .i64 t235) := (blk_cell BK238.out 1).trans rfl; have hcz112_2 : w109.cell? ⟨gb238, 2, none⟩ = some (.int .i64 t236) := (blk_cell BK238.out 2).trans rfl; have hfz112_0 := blk_frozen BK238.out 0; have hfz112_1 := blk_frozen BK238.out 1; have hfz112_2 := blk_frozen BK238.out 2) | (go_at_call 10; (with_reducible refine (revenantref05_Is.calls kj72 a0_0 a0_1 a0_2 a0_3 a0_4 t234 t235 t236 true _ A103.out).mono ?_); rintro e w113 ⟨rfl, hb⟩; have n0_ := Aside0.mk (blk_below (g := gb223) (o := .cells #[.int .i64 a0_0, .int .i64 a0_1, .int .i64 a0_2, .int .i64 a0_3, .int .i64 a0_4] 23 (0, 0)) (by (with_reducible repeat (first | refine blk_drewN ?_ _ | refine blk_drew ?_ | refine blk_alloc ?_ _)); exact BK223.out) hb); have n1_ := Aside0.mk (blk_below (g := gb224) (o := .cells #[.int .i64 a1_0, .int .i64 a1_1, .int .i64 a1_2] 25 (0, 0)) (by (with_reducible repeat (first | refine blk_drewN ?_ _ | refine blk_drew ?_ | refine blk_alloc ?_ _)); exact BK224.out) hb); have n2_ := Aside0.mk (blk_below (g := gb238) (o := .cells #[.int .i64 t234, .int .i64 t235, .int .i64 t236] 25 (0, 0)) (by (with_reducible repeat (first | refine blk_drewN ?_ _ | refine blk_drew ?_ | refine blk_alloc ?_ _)); exact BK238.out) hb); have n3_ := Aside0.mk (below_step (by repeat (first | (with_reducible first | exact HB.out | apply below_alloc | apply pw_below_drewN | apply below_drew1 | refine below_set ?_ GE223.out | refine below_set ?_ GE224.out | refine below_set ?_ GE238.out) | exact HB.out)) hb); clear BK223; clear BK224; clear BK238; clear HB; have BK223 := n0_; have BK224 := n1_; have BK238 := n2_; have HB := n3_; clear n0_ n1_ n2_ n3_; (try clear hb); (try clear hb2); (try clear hk); (try clear hi); have hcz114_0 : w113.cell? ⟨gb223, 0, none⟩ = some (.int .i64 a0_0) := (blk_cell BK223.out 0).trans rfl; have hcz114_1 : w113.cell? ⟨gb223, 1, none⟩ = some (.int .i64 a0_1) := (blk_cell BK223.out 1).trans rfl; have hcz114_2 : w113.cell? ⟨gb223, 2, none⟩ = some (.int .i64 a0_2) := (blk_cell BK223.out 2).trans rfl; have hcz114_3 : w113.cell? ⟨gb223, 3, none⟩ = some (.int .i64 a0_3) := (blk_cell BK223.out 3).trans rfl; have hcz114_4 : w113.cell? ⟨gb223, 4, none⟩ = some (.int .i64 a0_4) := (blk_cell BK223.out 4).trans rfl; have hfz114_0 := blk_frozen BK223.out 0; have hfz114_1 := blk_frozen BK223.out 1; have hfz114_2 := blk_frozen BK223.out 2; have hfz114_3 := blk_frozen BK223.out 3; have hfz114_4 := blk_frozen BK223.out 4; have hcz115_0 : w113.cell? ⟨gb238, 0, none⟩ = some (.int .i64 t234) := (blk_cell BK238.out 0).trans rfl; have hcz115_1 : w113.cell? ⟨gb238, 1, none⟩ = some (.int .i64 t235) := (blk_cell BK238.out 1).trans rfl; have hcz115_2 : w113.cell? ⟨gb238, 2, none⟩ = some (.int .i64 t236) := (blk_cell BK238.out 2).trans rfl; have hfz115_0 := blk_frozen BK238.out 0; have hfz115_1 := blk_frozen BK238.out 1; have hfz115_2 := blk_frozen BK238.out 2) | (go_at_call 13; (with_reducible refine (revenantref05_Number.calls kj72 a0_0 a0_1 a0_2 a0_3 a0_4 t234 t235 t236 t242 _ A105.out).mono ?_); rintro e w116 ⟨rfl, hb⟩; have n0_ := Aside0.mk (blk_below (g := gb223) (o := .cells #[.int .i64 a0_0, .int .i64 a0_1, .int .i64 a0_2, .int .i64 a0_3, .int .i64 a0_4] 23 (0, 0)) (by (with_reducible repeat (first | refine blk_drewN ?_ _ | refine blk_drew ?_ | refine blk_alloc ?_ _)); exact BK223.out) hb); have n1_ := Aside0.mk (blk_below (g := gb224) (o := .cells #[.int .i64 a1_0, .int .i64 a1_1, .int .i64 a1_2] 25 (0, 0)) (by (with_reducible repeat (first | refine blk_drewN ?_ _ | refine blk_drew ?_ | refine blk_alloc ?_ _)); exact BK224.out) hb); have n2_ := Aside0.mk (blk_below (g := gb238) (o := .cells #[.int .i64 t234, .int .i64 t235, .int .i64 t236] 25 (0, 0)) (by (with_reducible repeat (first | refine blk_drewN ?_ _ | refine blk_drew ?_ | refine blk_alloc ?_ _)); exact BK238.out) hb); have n3_ := Aside0.mk (below_step (by repeat (first | (with_reducible first | exact HB.out | apply below_alloc | apply pw_below_drewN | apply below_drew1 | refine below_set ?_ GE223.out | refine below_set ?_ GE224.out | refine below_set ?_ GE238.out) | exact HB.out)) hb); clear BK223; clear BK224; clear BK238; clear HB; have BK223 := n0_; have BK224 := n1_; have BK238 := n2_; have HB := n3_; clear n0_ n1_ n2_ n3_; (try clear hb); (try clear hb2); (try clear hk); (try clear hi)))
                                go_ret
                                exact ⟨by first | rfl | (simp [errW_none, errW_some] <;> rfl) | (simp [*, errW_none, errW_some] <;> rfl), by repeat (first | (with_reducible first | exact HB.out | apply below_alloc | apply pw_below_drewN | apply below_drew1 | refine below_set ?_ GE223.out | refine below_set ?_ GE224.out | refine below_set ?_ GE238.out) | exact HB.out)⟩
                              · replace c104 := Bool.eq_false_iff.mpr c104
                                subst c104
                                have H1 : (some false) = some r := by rw [if_neg (show ¬ (false = true) by decide)] at H; exact H
                                clear H
                                have H := H1
                                clear H1
                                exact absurd ((Option.some.inj H).trans HR.out) (by decide)
                            · replace c102 := Bool.eq_false_iff.mpr c102
                              subst c102
                              have H1 : (some false) = some r := by rw [if_neg (show ¬ (false = true) by decide)] at H; exact H
                              clear H
                              have H := H1
                              clear H1
                              exact absurd ((Option.some.inj H).trans HR.out) (by decide)
                          · rw [if_neg c101] at H
                            have c101b0 : (t240 == x10_63) = false := beq_eq_false_iff_ne.mpr c101
                            have c101b1 : (t240 != x10_63) = true := bne_iff_ne.mpr c101
                            exact absurd ((Option.some.inj H).trans HR.out) (by decide)
  · replace c5 := Bool.eq_false_iff.mpr c5
    subst c5
    have H1 : (some false) = some r := by rw [if_neg (show ¬ (false = true) by decide)] at H; exact H
    clear H
    have H := H1
    clear H1
    exact absurd ((Option.some.inj H).trans HR.out) (by decide)

end Go.Proofs.YtcncndhoeiaoeaaDoor.PPlaceExact
