-- WRITTEN BY A PROGRAM OF THIS SESSION (place.py, prune.py): walks of plain functions.
-- WRITTEN BY A PROGRAM OF THIS SESSION (xprint.sh): the walks of plain functions over contracts of my own.
import Derived.Test.YtcncndhoeiaoeaaDoorPPlaceExactx0
import Derived.Test.YtcncndhoeiaoeaaDoorPPlaceExactx1
import Derived.Test.YtcncndhoeiaoeaaDoorPPlaceExactx3
import Derived.Test.YtcncndhoeiaoeaaDoorPPlaceExactx4
import Derived.Test.YtcncndhoeiaoeaaDoorPPlaceExactx6
namespace Go.Proofs.YtcncndhoeiaoeaaDoor.PPlaceExact
open Go.RowKit Go.Proofs.YtcncndhoeiaoeaaDoorW.PrintWords Go.Proofs.YtcncndhoeiaoeaaDoorW.PrintLast Go.Proofs.YtcncndhoeiaoeaaDoorW.PrintMore
attribute [local go_sem] max2_int min2_int max_two min_two max_three min_three max_four min_four   -- for this text's walks alone
set_option linter.unusedVariables false
set_option linter.unusedSimpArgs false

attribute [local go_sem high] eqA25
/-! ### revenantlaw05_awake: function 9 -/
def revenantlaw05_awake.f (k : Nat)  : Option (Bool) := (place_Link.f 2 1).bind fun bt181 => ((place_Number.f k 3 4 0 3 9 bt181.1 bt181.2.1 bt181.2.2).bind fun bt184 => ((place_At.f k 3 4 0 3 9 24).bind fun bt186 => (if bt184.1 = 24 then (if bt184.2 = true then ((place_Link.f 2 1).bind fun bt191 => (if (bt186.1 == bt191.1 && (bt186.2.1 == bt191.2.1 && (bt186.2.2.1 == bt191.2.2))) = true then (if bt186.2.2.2 = true then ((place_Count.f k 3 4 0 3 9).bind fun t194 => (if t194 = 46 then ((place_Name.f k bt186.1 bt186.2.1 bt186.2.2.1).bind fun t195 => (if t195.toList = ([115, 108, 111, 116, 32, 50, 32, 110, 101, 120, 116, 32, 49] : List UInt8) then ((place_Epoch.f).bind fun bt196 => ((place_Name.f k bt196.1 bt196.2.1 bt196.2.2).bind fun t199 => (if t199.toList = ([101, 112, 111, 99, 104] : List UInt8) then ((place_Root.f 2).bind fun bt200 => ((place_Is.f k 3 4 0 3 9 bt200.1 bt200.2.1 bt200.2.2).bind fun t203 => (if t203 = true then ((place_Root.f 3).bind fun bt204 => ((place_Is.f k 3 4 0 3 9 bt204.1 bt204.2.1 bt204.2.2).bind fun t207 => (if t207 = true then (some false) else ((place_IsContent.f bt186.1 bt186.2.1 bt186.2.2.1).bind fun t208 => (if t208 = true then ((place_Of.f 1 2).bind fun bt209 => ((place_IsContent.f bt209.1 bt209.2.1 bt209.2.2).bind fun t212 => (some (!t212)))) else (some false)))))) else (some false)))) else (some false)))) else (some false))) else (some false))) else (some false)) else (some false))) else (some false)) else (some false))))
theorem revenantlaw05_awake.mono : ∀ k, LeO (revenantlaw05_awake.f k ) (revenantlaw05_awake.f (k + 1) ) := by
  intro  k
  unfold revenantlaw05_awake.f
  repeat' first
      | (with_reducible exact place_At.mono _ _ _ _ _ _ _)
      | (with_reducible exact place_Count.mono _ _ _ _ _ _)
      | (with_reducible exact place_Is.mono _ _ _ _ _ _ _ _ _)
      | (with_reducible exact place_Name.mono _ _ _ _)
      | (with_reducible exact place_Number.mono _ _ _ _ _ _ _ _ _)
      | (with_reducible exact LeO.refl _)
      | (with_reducible exact LeO.none _)
      | (with_reducible refine LeO.ite ?_ ?_)
      | (with_reducible refine LeO.bind ?_ (fun _ => ?_))
      | exact place_At.mono _ _ _ _ _ _ _
      | exact place_Count.mono _ _ _ _ _ _
      | exact place_Is.mono _ _ _ _ _ _ _ _ _
      | exact place_Name.mono _ _ _ _
      | exact place_Number.mono _ _ _ _ _ _ _ _ _
      | exact LeO.none _
      | refine LeO.ite ?_ ?_
      | refine LeO.bind ?_ (fun _ => ?_)
def revenantlaw05_awake.T2 : Bool × List (List Nat × List Nat) := (true, [([], []), ([], []), ([0, 1, 1], [0, 1]), ([2], [2]), ([3], [3]), ([3], [3]), ([4, 2, 0, 1, 2, 3, 4], [4]), ([5, 6, 0, 1, 2, 3, 4, 5, 6], [5])])
def revenantlaw05_awake.B2 : List Nat := [0, 0, 3, 7, 15, 15, 31, 127]
theorem revenantlaw05_awake.tab2 : rtab .any (opsOf Tryd.f9 2) = revenantlaw05_awake.T2 := by kernel_rfl
theorem revenantlaw05_awake.bits2 : waitsOk revenantlaw05_awake.T2.2 revenantlaw05_awake.B2 = true := by kernel_rfl
def revenantlaw05_awake.T4 : Bool × List (List Nat × List Nat) := (true, [([], []), ([0], [0]), ([1], [1]), ([2], [2]), ([2, 3], [2, 3]), ([4, 2], [4]), ([5], [5]), ([5, 5], [5]), ([6, 7, 5], [5, 6, 7]), ([5, 8], [5, 8]), ([9, 7], [9]), ([10], [10]), ([10, 11], [10, 11]), ([12, 10], [12]), ([13], [13]), ([14, 13, 13], [13, 14]), ([15, 13], [13, 15]), ([13, 16], [13, 16]), ([17, 15], [17]), ([18], [18]), ([19, 18, 18], [18, 19]), ([20, 18], [18, 20]), ([18, 21], [18, 21]), ([22, 20], [22]), ([23, 23], [23]), ([24, 24, 23], [23, 24]), ([25, 23], [23, 25]), ([23, 26], [23, 26]), ([27, 25], [27]), ([28], [28]), ([28, 28], [28]), ([29, 30, 30, 28], [28, 29, 30]), ([28, 31], [28, 31]), ([32, 31], [32]), ([33], [33]), ([33, 33], [33]), ([34, 35, 35, 33], [33, 34, 35]), ([36, 33], [33, 36]), ([33, 37], [33, 37]), ([38, 36], [38]), ([39], [39]), ([40, 39, 39], [39, 40]), ([39, 41], [39, 41]), ([42, 41], [42]), ([43, 43], [43]), ([44, 44, 43], [43, 44]), ([45, 43], [43, 45]), ([43, 46], [43, 46]), ([47, 45, 0, 1, 2, 3, 4, 5, 6, 7, 8, 9, 10, 11, 12, 13, 14, 15, 16, 17, 18, 19, 20, 21, 22, 23, 24, 25, 26, 27, 28, 29, 30, 31, 32, 33, 34, 35, 36, 37, 38, 39, 40, 41, 42, 43, 44, 45, 46, 47], [47])])
def revenantlaw05_awake.B4 : List Nat := [0, 1, 3, 7, 15, 31, 63, 63, 255, 511, 1023, 2047, 4095, 8191, 16383, 32767, 65535, 131071, 262143, 524287, 1048575, 2097151, 4194303, 8388607, 16777215, 33554431, 67108863, 134217727, 268435455, 536870911, 536870911, 2147483647, 4294967295, 8589934591, 17179869183, 17179869183, 68719476735, 137438953471, 274877906943, 549755813887, 1099511627775, 2199023255551, 4398046511103, 8796093022207, 17592186044415, 35184372088831, 70368744177663, 140737488355327, 281474976710655]
theorem revenantlaw05_awake.tab4 : rtab .any (opsOf Tryd.f9 4) = revenantlaw05_awake.T4 := by kernel_rfl
theorem revenantlaw05_awake.bits4 : waitsOk revenantlaw05_awake.T4.2 revenantlaw05_awake.B4 = true := by kernel_rfl
set_option maxHeartbeats 8000000 in
set_option maxRecDepth 100000 in
theorem revenantlaw05_awake.callsT (k : Nat)  (r : Bool) (w : World) (hr0 : r = true) (h : revenantlaw05_awake.f k  = some r) :
    Calls Tryd.prog 9 #[] w fun e w' => e = .returned (.bool r) ∧ Below w.heap.size w w' := by
  have hu23 := Tryd.underlying23
  have hu25 := Tryd.underlying25
  have HB := Aside0.mk (Below.refl w.heap.size w)
  have HR := Aside0.mk hr0
  clear hr0
  have H : ((place_Link.f 2 1).bind fun bt181 => ((place_Number.f k 3 4 0 3 9 bt181.1 bt181.2.1 bt181.2.2).bind fun bt184 => ((place_At.f k 3 4 0 3 9 24).bind fun bt186 => (if bt184.1 = 24 then (if bt184.2 = true then ((place_Link.f 2 1).bind fun bt191 => (if (bt186.1 == bt191.1 && (bt186.2.1 == bt191.2.1 && (bt186.2.2.1 == bt191.2.2))) = true then (if bt186.2.2.2 = true then ((place_Count.f k 3 4 0 3 9).bind fun t194 => (if t194 = 46 then ((place_Name.f k bt186.1 bt186.2.1 bt186.2.2.1).bind fun t195 => (if t195.toList = ([115, 108, 111, 116, 32, 50, 32, 110, 101, 120, 116, 32, 49] : List UInt8) then ((place_Epoch.f).bind fun bt196 => ((place_Name.f k bt196.1 bt196.2.1 bt196.2.2).bind fun t199 => (if t199.toList = ([101, 112, 111, 99, 104] : List UInt8) then ((place_Root.f 2).bind fun bt200 => ((place_Is.f k 3 4 0 3 9 bt200.1 bt200.2.1 bt200.2.2).bind fun t203 => (if t203 = true then ((place_Root.f 3).bind fun bt204 => ((place_Is.f k 3 4 0 3 9 bt204.1 bt204.2.1 bt204.2.2).bind fun t207 => (if t207 = true then (some false) else ((place_IsContent.f bt186.1 bt186.2.1 bt186.2.2.1).bind fun t208 => (if t208 = true then ((place_Of.f 1 2).bind fun bt209 => ((place_IsContent.f bt209.1 bt209.2.1 bt209.2.2).bind fun t212 => (some (!t212)))) else (some false)))))) else (some false)))) else (some false)))) else (some false))) else (some false))) else (some false)) else (some false))) else (some false)) else (some false))))) = some r := h
  clear h
  replace H := Option.bind_eq_some_iff.mp H
  obtain ⟨⟨t181, t182, t183⟩, A10, H⟩ := H
  replace H : ((place_Number.f k 3 4 0 3 9 t181 t182 t183).bind fun bt184 => ((place_At.f k 3 4 0 3 9 24).bind fun bt186 => (if bt184.1 = 24 then (if bt184.2 = true then ((place_Link.f 2 1).bind fun bt191 => (if (bt186.1 == bt191.1 && (bt186.2.1 == bt191.2.1 && (bt186.2.2.1 == bt191.2.2))) = true then (if bt186.2.2.2 = true then ((place_Count.f k 3 4 0 3 9).bind fun t194 => (if t194 = 46 then ((place_Name.f k bt186.1 bt186.2.1 bt186.2.2.1).bind fun t195 => (if t195.toList = ([115, 108, 111, 116, 32, 50, 32, 110, 101, 120, 116, 32, 49] : List UInt8) then ((place_Epoch.f).bind fun bt196 => ((place_Name.f k bt196.1 bt196.2.1 bt196.2.2).bind fun t199 => (if t199.toList = ([101, 112, 111, 99, 104] : List UInt8) then ((place_Root.f 2).bind fun bt200 => ((place_Is.f k 3 4 0 3 9 bt200.1 bt200.2.1 bt200.2.2).bind fun t203 => (if t203 = true then ((place_Root.f 3).bind fun bt204 => ((place_Is.f k 3 4 0 3 9 bt204.1 bt204.2.1 bt204.2.2).bind fun t207 => (if t207 = true then (some false) else ((place_IsContent.f bt186.1 bt186.2.1 bt186.2.2.1).bind fun t208 => (if t208 = true then ((place_Of.f 1 2).bind fun bt209 => ((place_IsContent.f bt209.1 bt209.2.1 bt209.2.2).bind fun t212 => (some (!t212)))) else (some false)))))) else (some false)))) else (some false)))) else (some false))) else (some false))) else (some false)) else (some false))) else (some false)) else (some false)))) = some r := H
  have A1 := Aside0.mk A10
  clear A10
  replace H := Option.bind_eq_some_iff.mp H
  obtain ⟨⟨t184, t185⟩, A20, H⟩ := H
  replace H : ((place_At.f k 3 4 0 3 9 24).bind fun bt186 => (if t184 = 24 then (if t185 = true then ((place_Link.f 2 1).bind fun bt191 => (if (bt186.1 == bt191.1 && (bt186.2.1 == bt191.2.1 && (bt186.2.2.1 == bt191.2.2))) = true then (if bt186.2.2.2 = true then ((place_Count.f k 3 4 0 3 9).bind fun t194 => (if t194 = 46 then ((place_Name.f k bt186.1 bt186.2.1 bt186.2.2.1).bind fun t195 => (if t195.toList = ([115, 108, 111, 116, 32, 50, 32, 110, 101, 120, 116, 32, 49] : List UInt8) then ((place_Epoch.f).bind fun bt196 => ((place_Name.f k bt196.1 bt196.2.1 bt196.2.2).bind fun t199 => (if t199.toList = ([101, 112, 111, 99, 104] : List UInt8) then ((place_Root.f 2).bind fun bt200 => ((place_Is.f k 3 4 0 3 9 bt200.1 bt200.2.1 bt200.2.2).bind fun t203 => (if t203 = true then ((place_Root.f 3).bind fun bt204 => ((place_Is.f k 3 4 0 3 9 bt204.1 bt204.2.1 bt204.2.2).bind fun t207 => (if t207 = true then (some false) else ((place_IsContent.f bt186.1 bt186.2.1 bt186.2.2.1).bind fun t208 => (if t208 = true then ((place_Of.f 1 2).bind fun bt209 => ((place_IsContent.f bt209.1 bt209.2.1 bt209.2.2).bind fun t212 => (some (!t212)))) else (some false)))))) else (some false)))) else (some false)))) else (some false))) else (some false))) else (some false)) else (some false))) else (some false)) else (some false))) = some r := H
  have A2 := Aside0.mk A20
  clear A20
  replace H := Option.bind_eq_some_iff.mp H
  obtain ⟨⟨t186, t187, t188, t189⟩, A30, H⟩ := H
  replace H : (if t184 = 24 then (if t185 = true then ((place_Link.f 2 1).bind fun bt191 => (if (t186 == bt191.1 && (t187 == bt191.2.1 && (t188 == bt191.2.2))) = true then (if t189 = true then ((place_Count.f k 3 4 0 3 9).bind fun t194 => (if t194 = 46 then ((place_Name.f k t186 t187 t188).bind fun t195 => (if t195.toList = ([115, 108, 111, 116, 32, 50, 32, 110, 101, 120, 116, 32, 49] : List UInt8) then ((place_Epoch.f).bind fun bt196 => ((place_Name.f k bt196.1 bt196.2.1 bt196.2.2).bind fun t199 => (if t199.toList = ([101, 112, 111, 99, 104] : List UInt8) then ((place_Root.f 2).bind fun bt200 => ((place_Is.f k 3 4 0 3 9 bt200.1 bt200.2.1 bt200.2.2).bind fun t203 => (if t203 = true then ((place_Root.f 3).bind fun bt204 => ((place_Is.f k 3 4 0 3 9 bt204.1 bt204.2.1 bt204.2.2).bind fun t207 => (if t207 = true then (some false) else ((place_IsContent.f t186 t187 t188).bind fun t208 => (if t208 = true then ((place_Of.f 1 2).bind fun bt209 => ((place_IsContent.f bt209.1 bt209.2.1 bt209.2.2).bind fun t212 => (some (!t212)))) else (some false)))))) else (some false)))) else (some false)))) else (some false))) else (some false))) else (some false)) else (some false))) else (some false)) else (some false)) = some r := H
  have A3 := Aside0.mk A30
  clear A30
  by_cases c4 : t184 = 24
  · rw [if_pos c4] at H
    have c4b0 : (t184 == 24) = true := beq_iff_eq.mpr c4
    have c4b1 : (t184 != 24) = false := bne_eq_false_iff_eq.mpr c4
    clear c4
    by_cases c5 : t185 = true
    · subst c5
      have H1 : ((place_Link.f 2 1).bind fun bt191 => (if (t186 == bt191.1 && (t187 == bt191.2.1 && (t188 == bt191.2.2))) = true then (if t189 = true then ((place_Count.f k 3 4 0 3 9).bind fun t194 => (if t194 = 46 then ((place_Name.f k t186 t187 t188).bind fun t195 => (if t195.toList = ([115, 108, 111, 116, 32, 50, 32, 110, 101, 120, 116, 32, 49] : List UInt8) then ((place_Epoch.f).bind fun bt196 => ((place_Name.f k bt196.1 bt196.2.1 bt196.2.2).bind fun t199 => (if t199.toList = ([101, 112, 111, 99, 104] : List UInt8) then ((place_Root.f 2).bind fun bt200 => ((place_Is.f k 3 4 0 3 9 bt200.1 bt200.2.1 bt200.2.2).bind fun t203 => (if t203 = true then ((place_Root.f 3).bind fun bt204 => ((place_Is.f k 3 4 0 3 9 bt204.1 bt204.2.1 bt204.2.2).bind fun t207 => (if t207 = true then (some false) else ((place_IsContent.f t186 t187 t188).bind fun t208 => (if t208 = true then ((place_Of.f 1 2).bind fun bt209 => ((place_IsContent.f bt209.1 bt209.2.1 bt209.2.2).bind fun t212 => (some (!t212)))) else (some false)))))) else (some false)))) else (some false)))) else (some false))) else (some false))) else (some false)) else (some false))) = some r := by rw [if_pos rfl] at H; exact H
      clear H
      have H := H1
      clear H1
      replace H := Option.bind_eq_some_iff.mp H
      obtain ⟨⟨t191, t192, t193⟩, A60, H⟩ := H
      replace H : (if (t186 == t191 && (t187 == t192 && (t188 == t193))) = true then (if t189 = true then ((place_Count.f k 3 4 0 3 9).bind fun t194 => (if t194 = 46 then ((place_Name.f k t186 t187 t188).bind fun t195 => (if t195.toList = ([115, 108, 111, 116, 32, 50, 32, 110, 101, 120, 116, 32, 49] : List UInt8) then ((place_Epoch.f).bind fun bt196 => ((place_Name.f k bt196.1 bt196.2.1 bt196.2.2).bind fun t199 => (if t199.toList = ([101, 112, 111, 99, 104] : List UInt8) then ((place_Root.f 2).bind fun bt200 => ((place_Is.f k 3 4 0 3 9 bt200.1 bt200.2.1 bt200.2.2).bind fun t203 => (if t203 = true then ((place_Root.f 3).bind fun bt204 => ((place_Is.f k 3 4 0 3 9 bt204.1 bt204.2.1 bt204.2.2).bind fun t207 => (if t207 = true then (some false) else ((place_IsContent.f t186 t187 t188).bind fun t208 => (if t208 = true then ((place_Of.f 1 2).bind fun bt209 => ((place_IsContent.f bt209.1 bt209.2.1 bt209.2.2).bind fun t212 => (some (!t212)))) else (some false)))))) else (some false)))) else (some false)))) else (some false))) else (some false))) else (some false)) else (some false)) = some r := H
      have A6 := Aside0.mk A60
      clear A60
      by_cases c7 : (t186 == t191 && (t187 == t192 && (t188 == t193))) = true
      · rw [if_pos c7] at H
        have c7b0 : (t186 == t191 && (t187 == t192 && (t188 == t193))) = true := c7
        (try (have c7b1 : decide (t186 = t191 && (t187 == t192 && (t188 == t193))) = true := by simpa using c7))
        (try (have c7b2 : (t186 == t191 && (t187 == t192 && (t188 == t193))) = true := by simpa using c7))
        clear c7
        by_cases c8 : t189 = true
        · subst c8
          have H1 : ((place_Count.f k 3 4 0 3 9).bind fun t194 => (if t194 = 46 then ((place_Name.f k t186 t187 t188).bind fun t195 => (if t195.toList = ([115, 108, 111, 116, 32, 50, 32, 110, 101, 120, 116, 32, 49] : List UInt8) then ((place_Epoch.f).bind fun bt196 => ((place_Name.f k bt196.1 bt196.2.1 bt196.2.2).bind fun t199 => (if t199.toList = ([101, 112, 111, 99, 104] : List UInt8) then ((place_Root.f 2).bind fun bt200 => ((place_Is.f k 3 4 0 3 9 bt200.1 bt200.2.1 bt200.2.2).bind fun t203 => (if t203 = true then ((place_Root.f 3).bind fun bt204 => ((place_Is.f k 3 4 0 3 9 bt204.1 bt204.2.1 bt204.2.2).bind fun t207 => (if t207 = true then (some false) else ((place_IsContent.f t186 t187 t188).bind fun t208 => (if t208 = true then ((place_Of.f 1 2).bind fun bt209 => ((place_IsContent.f bt209.1 bt209.2.1 bt209.2.2).bind fun t212 => (some (!t212)))) else (some false)))))) else (some false)))) else (some false)))) else (some false))) else (some false))) = some r := by rw [if_pos rfl] at H; exact H
          clear H
          have H := H1
          clear H1
          replace H := Option.bind_eq_some_iff.mp H
          obtain ⟨t194, A90, H⟩ := H
          replace H : (if t194 = 46 then ((place_Name.f k t186 t187 t188).bind fun t195 => (if t195.toList = ([115, 108, 111, 116, 32, 50, 32, 110, 101, 120, 116, 32, 49] : List UInt8) then ((place_Epoch.f).bind fun bt196 => ((place_Name.f k bt196.1 bt196.2.1 bt196.2.2).bind fun t199 => (if t199.toList = ([101, 112, 111, 99, 104] : List UInt8) then ((place_Root.f 2).bind fun bt200 => ((place_Is.f k 3 4 0 3 9 bt200.1 bt200.2.1 bt200.2.2).bind fun t203 => (if t203 = true then ((place_Root.f 3).bind fun bt204 => ((place_Is.f k 3 4 0 3 9 bt204.1 bt204.2.1 bt204.2.2).bind fun t207 => (if t207 = true then (some false) else ((place_IsContent.f t186 t187 t188).bind fun t208 => (if t208 = true then ((place_Of.f 1 2).bind fun bt209 => ((place_IsContent.f bt209.1 bt209.2.1 bt209.2.2).bind fun t212 => (some (!t212)))) else (some false)))))) else (some false)))) else (some false)))) else (some false))) else (some false)) = some r := H
          have A9 := Aside0.mk A90
          clear A90
          by_cases c10 : t194 = 46
          · rw [if_pos c10] at H
            have c10b0 : (t194 == 46) = true := beq_iff_eq.mpr c10
            have c10b1 : (t194 != 46) = false := bne_eq_false_iff_eq.mpr c10
            clear c10
            replace H := Option.bind_eq_some_iff.mp H
            obtain ⟨t195, A110, H⟩ := H
            replace H : (if t195.toList = ([115, 108, 111, 116, 32, 50, 32, 110, 101, 120, 116, 32, 49] : List UInt8) then ((place_Epoch.f).bind fun bt196 => ((place_Name.f k bt196.1 bt196.2.1 bt196.2.2).bind fun t199 => (if t199.toList = ([101, 112, 111, 99, 104] : List UInt8) then ((place_Root.f 2).bind fun bt200 => ((place_Is.f k 3 4 0 3 9 bt200.1 bt200.2.1 bt200.2.2).bind fun t203 => (if t203 = true then ((place_Root.f 3).bind fun bt204 => ((place_Is.f k 3 4 0 3 9 bt204.1 bt204.2.1 bt204.2.2).bind fun t207 => (if t207 = true then (some false) else ((place_IsContent.f t186 t187 t188).bind fun t208 => (if t208 = true then ((place_Of.f 1 2).bind fun bt209 => ((place_IsContent.f bt209.1 bt209.2.1 bt209.2.2).bind fun t212 => (some (!t212)))) else (some false)))))) else (some false)))) else (some false)))) else (some false)) = some r := H
            have A11 := Aside0.mk A110
            clear A110
            by_cases c12 : t195.toList = ([115, 108, 111, 116, 32, 50, 32, 110, 101, 120, 116, 32, 49] : List UInt8)
            · rw [if_pos c12] at H
              have c12b0 : (t195.toList == ([115, 108, 111, 116, 32, 50, 32, 110, 101, 120, 116, 32, 49] : List UInt8)) = true := beq_iff_eq.mpr c12
              have c12b1 : (t195.toList != ([115, 108, 111, 116, 32, 50, 32, 110, 101, 120, 116, 32, 49] : List UInt8)) = false := bne_eq_false_iff_eq.mpr c12
              clear c12
              replace H := Option.bind_eq_some_iff.mp H
              obtain ⟨⟨t196, t197, t198⟩, A130, H⟩ := H
              replace H : ((place_Name.f k t196 t197 t198).bind fun t199 => (if t199.toList = ([101, 112, 111, 99, 104] : List UInt8) then ((place_Root.f 2).bind fun bt200 => ((place_Is.f k 3 4 0 3 9 bt200.1 bt200.2.1 bt200.2.2).bind fun t203 => (if t203 = true then ((place_Root.f 3).bind fun bt204 => ((place_Is.f k 3 4 0 3 9 bt204.1 bt204.2.1 bt204.2.2).bind fun t207 => (if t207 = true then (some false) else ((place_IsContent.f t186 t187 t188).bind fun t208 => (if t208 = true then ((place_Of.f 1 2).bind fun bt209 => ((place_IsContent.f bt209.1 bt209.2.1 bt209.2.2).bind fun t212 => (some (!t212)))) else (some false)))))) else (some false)))) else (some false))) = some r := H
              have A13 := Aside0.mk A130
              clear A130
              replace H := Option.bind_eq_some_iff.mp H
              obtain ⟨t199, A140, H⟩ := H
              replace H : (if t199.toList = ([101, 112, 111, 99, 104] : List UInt8) then ((place_Root.f 2).bind fun bt200 => ((place_Is.f k 3 4 0 3 9 bt200.1 bt200.2.1 bt200.2.2).bind fun t203 => (if t203 = true then ((place_Root.f 3).bind fun bt204 => ((place_Is.f k 3 4 0 3 9 bt204.1 bt204.2.1 bt204.2.2).bind fun t207 => (if t207 = true then (some false) else ((place_IsContent.f t186 t187 t188).bind fun t208 => (if t208 = true then ((place_Of.f 1 2).bind fun bt209 => ((place_IsContent.f bt209.1 bt209.2.1 bt209.2.2).bind fun t212 => (some (!t212)))) else (some false)))))) else (some false)))) else (some false)) = some r := H
              have A14 := Aside0.mk A140
              clear A140
              by_cases c15 : t199.toList = ([101, 112, 111, 99, 104] : List UInt8)
              · rw [if_pos c15] at H
                have c15b0 : (t199.toList == ([101, 112, 111, 99, 104] : List UInt8)) = true := beq_iff_eq.mpr c15
                have c15b1 : (t199.toList != ([101, 112, 111, 99, 104] : List UInt8)) = false := bne_eq_false_iff_eq.mpr c15
                clear c15
                replace H := Option.bind_eq_some_iff.mp H
                obtain ⟨⟨t200, t201, t202⟩, A160, H⟩ := H
                replace H : ((place_Is.f k 3 4 0 3 9 t200 t201 t202).bind fun t203 => (if t203 = true then ((place_Root.f 3).bind fun bt204 => ((place_Is.f k 3 4 0 3 9 bt204.1 bt204.2.1 bt204.2.2).bind fun t207 => (if t207 = true then (some false) else ((place_IsContent.f t186 t187 t188).bind fun t208 => (if t208 = true then ((place_Of.f 1 2).bind fun bt209 => ((place_IsContent.f bt209.1 bt209.2.1 bt209.2.2).bind fun t212 => (some (!t212)))) else (some false)))))) else (some false))) = some r := H
                have A16 := Aside0.mk A160
                clear A160
                replace H := Option.bind_eq_some_iff.mp H
                obtain ⟨t203, A170, H⟩ := H
                replace H : (if t203 = true then ((place_Root.f 3).bind fun bt204 => ((place_Is.f k 3 4 0 3 9 bt204.1 bt204.2.1 bt204.2.2).bind fun t207 => (if t207 = true then (some false) else ((place_IsContent.f t186 t187 t188).bind fun t208 => (if t208 = true then ((place_Of.f 1 2).bind fun bt209 => ((place_IsContent.f bt209.1 bt209.2.1 bt209.2.2).bind fun t212 => (some (!t212)))) else (some false)))))) else (some false)) = some r := H
                have A17 := Aside0.mk A170
                clear A170
                by_cases c18 : t203 = true
                · subst c18
                  have H1 : ((place_Root.f 3).bind fun bt204 => ((place_Is.f k 3 4 0 3 9 bt204.1 bt204.2.1 bt204.2.2).bind fun t207 => (if t207 = true then (some false) else ((place_IsContent.f t186 t187 t188).bind fun t208 => (if t208 = true then ((place_Of.f 1 2).bind fun bt209 => ((place_IsContent.f bt209.1 bt209.2.1 bt209.2.2).bind fun t212 => (some (!t212)))) else (some false)))))) = some r := by rw [if_pos rfl] at H; exact H
                  clear H
                  have H := H1
                  clear H1
                  replace H := Option.bind_eq_some_iff.mp H
                  obtain ⟨⟨t204, t205, t206⟩, A190, H⟩ := H
                  replace H : ((place_Is.f k 3 4 0 3 9 t204 t205 t206).bind fun t207 => (if t207 = true then (some false) else ((place_IsContent.f t186 t187 t188).bind fun t208 => (if t208 = true then ((place_Of.f 1 2).bind fun bt209 => ((place_IsContent.f bt209.1 bt209.2.1 bt209.2.2).bind fun t212 => (some (!t212)))) else (some false))))) = some r := H
                  have A19 := Aside0.mk A190
                  clear A190
                  replace H := Option.bind_eq_some_iff.mp H
                  obtain ⟨t207, A200, H⟩ := H
                  replace H : (if t207 = true then (some false) else ((place_IsContent.f t186 t187 t188).bind fun t208 => (if t208 = true then ((place_Of.f 1 2).bind fun bt209 => ((place_IsContent.f bt209.1 bt209.2.1 bt209.2.2).bind fun t212 => (some (!t212)))) else (some false)))) = some r := H
                  have A20 := Aside0.mk A200
                  clear A200
                  by_cases c21 : t207 = true
                  · subst c21
                    have H1 : (some false) = some r := by rw [if_pos rfl] at H; exact H
                    clear H
                    have H := H1
                    clear H1
                    exact absurd ((Option.some.inj H).trans HR.out) (by decide)
                  · replace c21 := Bool.eq_false_iff.mpr c21
                    subst c21
                    have H1 : ((place_IsContent.f t186 t187 t188).bind fun t208 => (if t208 = true then ((place_Of.f 1 2).bind fun bt209 => ((place_IsContent.f bt209.1 bt209.2.1 bt209.2.2).bind fun t212 => (some (!t212)))) else (some false))) = some r := by rw [if_neg (show ¬ (false = true) by decide)] at H; exact H
                    clear H
                    have H := H1
                    clear H1
                    replace H := Option.bind_eq_some_iff.mp H
                    obtain ⟨t208, A440, H⟩ := H
                    replace H : (if t208 = true then ((place_Of.f 1 2).bind fun bt209 => ((place_IsContent.f bt209.1 bt209.2.1 bt209.2.2).bind fun t212 => (some (!t212)))) else (some false)) = some r := H
                    have A44 := Aside0.mk A440
                    clear A440
                    by_cases c45 : t208 = true
                    · subst c45
                      have H1 : ((place_Of.f 1 2).bind fun bt209 => ((place_IsContent.f bt209.1 bt209.2.1 bt209.2.2).bind fun t212 => (some (!t212)))) = some r := by rw [if_pos rfl] at H; exact H
                      clear H
                      have H := H1
                      clear H1
                      replace H := Option.bind_eq_some_iff.mp H
                      obtain ⟨⟨t209, t210, t211⟩, A460, H⟩ := H
                      replace H : ((place_IsContent.f t209 t210 t211).bind fun t212 => (some (!t212))) = some r := H
                      have A46 := Aside0.mk A460
                      clear A460
                      replace H := Option.bind_eq_some_iff.mp H
                      obtain ⟨t212, A470, H⟩ := H
                      replace H : (some (!t212)) = some r := H
                      have A47 := Aside0.mk A470
                      clear A470
                      obtain rfl := Option.some.inj H
                      go_enter Tryd.func9, Tryd.ntmps9
                      try go_wp2_with (first | ((with_reducible refine gate_dst (N := 1) rfl ?_); refine box_event ?hg (N := 1) ?hd (cs := #[.int .i64 0, .int .i64 0, .int .i64 0, .int .i64 0, .int .i64 0]) (t := 23) ?hr ?_; (case hd => rfl); (case hg => rfl); (case hr => first | (go_simp; done) | (go_simp; rfl)); intro gb180 hg w48 hbox hb; have n0_ := Aside0.mk (below_step (by repeat (first | (with_reducible first | exact HB.out | apply below_alloc | apply pw_below_drewN | apply below_drew1) | exact HB.out)) hb); have n1_ := Aside0.mk (hbox); have n2_ := Aside0.mk ((by rw [hg]; exact (below_size (by repeat (first | (with_reducible first | exact HB.out | apply below_alloc | apply pw_below_drewN | apply below_drew1) | exact HB.out))) : w.heap.size ≤ gb180)); have n3_ := Aside0.mk ((by rw [hg]; exact (below_size (by repeat (first | (with_reducible first | exact HB.out | apply below_alloc | apply pw_below_drewN | apply below_drew1) | exact HB.out))) : w.heap.size ≤ gb180)); clear HB; have HB := n0_; have BK180 := n1_; have GW180 := n2_; have GE180 := n3_; clear n0_ n1_ n2_ n3_; clear hb hbox hg; have hcz49_0 : w48.cell? ⟨gb180, 0, none⟩ = some (.int .i64 0) := (blk_cell BK180.out 0).trans rfl; have hcz49_1 : w48.cell? ⟨gb180, 1, none⟩ = some (.int .i64 0) := (blk_cell BK180.out 1).trans rfl; have hcz49_2 : w48.cell? ⟨gb180, 2, none⟩ = some (.int .i64 0) := (blk_cell BK180.out 2).trans rfl; have hcz49_3 : w48.cell? ⟨gb180, 3, none⟩ = some (.int .i64 0) := (blk_cell BK180.out 3).trans rfl; have hcz49_4 : w48.cell? ⟨gb180, 4, none⟩ = some (.int .i64 0) := (blk_cell BK180.out 4).trans rfl; have hfz49_0 := blk_frozen BK180.out 0; have hfz49_1 := blk_frozen BK180.out 1; have hfz49_2 := blk_frozen BK180.out 2; have hfz49_3 := blk_frozen BK180.out 3; have hfz49_4 := blk_frozen BK180.out 4))
                      have n0_ : Aside0 ((((((w48.setCell ⟨gb180, 0, none⟩ (.int .i64 3)).setCell ⟨gb180, 1, none⟩ (.int .i64 4)).setCell ⟨gb180, 2, none⟩ (.int .i64 0)).setCell ⟨gb180, 3, none⟩ (.int .i64 3)).setCell ⟨gb180, 4, none⟩ (.int .i64 9)).heap[gb180]? = some (.cells #[.int .i64 3, .int .i64 4, .int .i64 0, .int .i64 3, .int .i64 9] 23 (0, 0))) := ⟨by (with_reducible repeat (first | refine blk_drewN ?_ _ | refine blk_drew ?_ | refine blk_alloc ?_ _)); refine blk_put (cs := #[.int .i64 3, .int .i64 4, .int .i64 0, .int .i64 3, .int .i64 0]) ?_ 4 _ rfl; (with_reducible repeat (first | refine blk_drewN ?_ _ | refine blk_drew ?_ | refine blk_alloc ?_ _)); refine blk_put (cs := #[.int .i64 3, .int .i64 4, .int .i64 0, .int .i64 0, .int .i64 0]) ?_ 3 _ rfl; (with_reducible repeat (first | refine blk_drewN ?_ _ | refine blk_drew ?_ | refine blk_alloc ?_ _)); refine blk_put (cs := #[.int .i64 3, .int .i64 4, .int .i64 0, .int .i64 0, .int .i64 0]) ?_ 2 _ rfl; (with_reducible repeat (first | refine blk_drewN ?_ _ | refine blk_drew ?_ | refine blk_alloc ?_ _)); refine blk_put (cs := #[.int .i64 3, .int .i64 0, .int .i64 0, .int .i64 0, .int .i64 0]) ?_ 1 _ rfl; (with_reducible repeat (first | refine blk_drewN ?_ _ | refine blk_drew ?_ | refine blk_alloc ?_ _)); refine blk_put (cs := #[.int .i64 0, .int .i64 0, .int .i64 0, .int .i64 0, .int .i64 0]) ?_ 0 _ rfl; (with_reducible repeat (first | refine blk_drewN ?_ _ | refine blk_drew ?_ | refine blk_alloc ?_ _)); exact BK180.out⟩
                      have n1_ : Aside0 (Below w.heap.size w (((((w48.setCell ⟨gb180, 0, none⟩ (.int .i64 3)).setCell ⟨gb180, 1, none⟩ (.int .i64 4)).setCell ⟨gb180, 2, none⟩ (.int .i64 0)).setCell ⟨gb180, 3, none⟩ (.int .i64 3)).setCell ⟨gb180, 4, none⟩ (.int .i64 9))) := ⟨by repeat (first | (with_reducible first | exact HB.out | apply below_alloc | apply pw_below_drewN | apply below_drew1 | refine below_set ?_ GE180.out) | exact HB.out)⟩
                      (try clear BK180)
                      (try clear HB)
                      generalize (((((w48.setCell ⟨gb180, 0, none⟩ (.int .i64 3)).setCell ⟨gb180, 1, none⟩ (.int .i64 4)).setCell ⟨gb180, 2, none⟩ (.int .i64 0)).setCell ⟨gb180, 3, none⟩ (.int .i64 3)).setCell ⟨gb180, 4, none⟩ (.int .i64 9)) = w50 at n0_ n1_ ⊢
                      have BK180 := n0_
                      have HB := n1_
                      clear n0_ n1_
                      have n0_ := Aside0.mk (blk_drew BK180.out)
                      have n1_ := Aside0.mk (below_drew1 HB.out)
                      clear BK180
                      clear HB
                      have BK180 := n0_
                      have HB := n1_
                      clear n0_ n1_
                      refine start_ (n := 8) (S := fun w' => w'.cell? ⟨gb180, 0, none⟩ = some (.int .i64 3) ∧ w'.cell? ⟨gb180, 1, none⟩ = some (.int .i64 4) ∧ w'.cell? ⟨gb180, 2, none⟩ = some (.int .i64 0) ∧ w'.cell? ⟨gb180, 3, none⟩ = some (.int .i64 3) ∧ w'.cell? ⟨gb180, 4, none⟩ = some (.int .i64 9)) (ds := []) #[false, false, false, false, false, false, false, false] (by kernel_rfl) rfl rfl ⟨(blk_cell BK180.out 0).trans rfl, (blk_cell BK180.out 1).trans rfl, (blk_cell BK180.out 2).trans rfl, (blk_cell BK180.out 3).trans rfl, (blk_cell BK180.out 4).trans rfl⟩ (fun hHeld => ?_); refine with_tabW revenantlaw05_awake.tab2 revenantlaw05_awake.bits2 (fun HT_ HW_ => ?_)
                      generalize w50.drew = w51 at BK180 HB hHeld ⊢
                      refine take_ (i := 0) (N := some 8) (v := ?_) (a' := ?_) #[true, false, false, false, false, false, false, false] rfl rfl (take_ofW HT_.out HW_.out (by kernel_rfl)) (fun _ _ _ h => h) (Or.inl ⟨by rfl, ?_⟩) hHeld ?_ ?_
                      rotate_left
                      · rintro w' ⟨s0, s1, s2, s3, s4⟩
                        go_simp
                        with_reducible rfl
                      rotate_left
                      · simp only [Act.put, List.setIfInBounds_toArray, List.set_cons_zero, List.set_cons_succ, i64_w, i32_w]
                        rfl
                      refine one_ (i := 1) (N := some 9) #[true, true, false, false, false, false, false, false] rfl rfl (one_of HT_.out (by kernel_rfl)) (by decide) (fun K hK => ?_)
                      refine goes_ Tryd.func24 (by kernel_rfl) rfl #[.int .i64 2, .int .i64 1] (by rfl) rfl rfl (by (try simp only [List.map_toArray, List.map_cons, List.map_nil]); first | done | rfl | (simp only [List.length_drop, List.length_take]; rfl)) ?_
                      with_reducible refine (place_Link.calls 2 1 t181 t182 t183 _ A1.out).mono ?_
                      rintro e w52 ⟨rfl, hb⟩
                      refine ⟨_, rfl, ?_⟩
                      have n0_ := Aside0.mk (blk_below (g := gb180) (o := .cells #[.int .i64 3, .int .i64 4, .int .i64 0, .int .i64 3, .int .i64 9] 23 (0, 0)) (by (with_reducible repeat (first | refine blk_drewN ?_ _ | refine blk_drew ?_ | refine blk_alloc ?_ _)); exact BK180.out) hb)
                      have n1_ := Aside0.mk (below_step (by repeat (first | (with_reducible first | exact HB.out | apply below_alloc | apply pw_below_drewN | apply below_drew1 | refine below_set ?_ GE180.out) | exact HB.out)) hb)
                      clear BK180
                      clear HB
                      have BK180 := n0_
                      have HB := n1_
                      clear n0_ n1_
                      (try clear hb)
                      (try clear hb2)
                      (try clear hk)
                      (try clear hi)
                      refine hK.out _ _ ⟨(blk_cell BK180.out 0).trans rfl, (blk_cell BK180.out 1).trans rfl, (blk_cell BK180.out 2).trans rfl, (blk_cell BK180.out 3).trans rfl, (blk_cell BK180.out 4).trans rfl⟩ (fun hHeld => ?_)
                      clear hK K
                      refine norm_ (a' := ?_) ?_ ?_
                      rotate_left
                      · show Act.put _ (some 9) _ = _
                        simp only [Act.put, List.setIfInBounds_toArray, List.set_cons_zero, List.set_cons_succ, i64_w, i32_w]
                        rfl
                      refine one_ (i := 2) (N := some 10) #[true, true, true, false, false, false, false, false] rfl rfl (one_of HT_.out (by kernel_rfl)) (by decide) (fun K hK => ?_)
                      refine goes_ Tryd.func11 (by kernel_rfl) rfl #[.agg #[.int .i64 3, .int .i64 4, .int .i64 0, .int .i64 3, .int .i64 9], .agg #[.int .i64 t181, .int .i64 t182, .int .i64 t183]] (by rfl) rfl rfl (by (try simp only [List.map_toArray, List.map_cons, List.map_nil]); first | done | rfl | (simp only [List.length_drop, List.length_take]; rfl)) ?_
                      with_reducible refine (place_Number.calls k 3 4 0 3 9 t181 t182 t183 t184 true _ A2.out).mono ?_
                      rintro e w53 ⟨rfl, hb⟩
                      refine ⟨_, rfl, ?_⟩
                      have n0_ := Aside0.mk (blk_below (g := gb180) (o := .cells #[.int .i64 3, .int .i64 4, .int .i64 0, .int .i64 3, .int .i64 9] 23 (0, 0)) (by (with_reducible repeat (first | refine blk_drewN ?_ _ | refine blk_drew ?_ | refine blk_alloc ?_ _)); exact BK180.out) hb)
                      have n1_ := Aside0.mk (below_step (by repeat (first | (with_reducible first | exact HB.out | apply below_alloc | apply pw_below_drewN | apply below_drew1 | refine below_set ?_ GE180.out) | exact HB.out)) hb)
                      clear BK180
                      clear HB
                      have BK180 := n0_
                      have HB := n1_
                      clear n0_ n1_
                      (try clear hb)
                      (try clear hb2)
                      (try clear hk)
                      (try clear hi)
                      refine hK.out _ _ ⟨(blk_cell BK180.out 0).trans rfl, (blk_cell BK180.out 1).trans rfl, (blk_cell BK180.out 2).trans rfl, (blk_cell BK180.out 3).trans rfl, (blk_cell BK180.out 4).trans rfl⟩ (fun hHeld => ?_)
                      clear hK K
                      refine norm_ (a' := ?_) ?_ ?_
                      rotate_left
                      · show Act.put _ (some 10) _ = _
                        simp only [Act.put, List.setIfInBounds_toArray, List.set_cons_zero, List.set_cons_succ, i64_w, i32_w]
                        rfl
                      refine pure_ (i := 3) (N := some 7) (v := ?_) (a' := ?_) #[true, true, true, true, false, false, false, false] rfl rfl (any_of HT_.out (by kernel_rfl)) (fun _ _ _ h => h) (Or.inl ⟨by rfl, ?_⟩) ?_ ?_
                      rotate_left
                      · intro w'
                        go_simp
                        with_reducible rfl
                      rotate_left
                      · simp only [Act.put, List.setIfInBounds_toArray, List.set_cons_zero, List.set_cons_succ, i64_w, i32_w]
                        rfl
                      refine pure_ (i := 4) (N := some 11) (v := ?_) (a' := ?_) #[true, true, true, true, true, false, false, false] rfl rfl (any_of HT_.out (by kernel_rfl)) (fun _ _ _ h => h) (Or.inl ⟨by rfl, ?_⟩) ?_ ?_
                      rotate_left
                      · intro w'
                        go_simp
                        with_reducible rfl
                      rotate_left
                      · simp only [Act.put, List.setIfInBounds_toArray, List.set_cons_zero, List.set_cons_succ, i64_w, i32_w]
                        rfl
                      refine pure_ (i := 5) (N := some 12) (v := ?_) (a' := ?_) #[true, true, true, true, true, true, false, false] rfl rfl (any_of HT_.out (by kernel_rfl)) (fun _ _ _ h => h) (Or.inl ⟨by rfl, ?_⟩) ?_ ?_
                      rotate_left
                      · intro w'
                        go_simp
                        with_reducible rfl
                      rotate_left
                      · simp only [Act.put, List.setIfInBounds_toArray, List.set_cons_zero, List.set_cons_succ, i64_w, i32_w]
                        rfl
                      refine pure_ (i := 6) (N := some 2) (v := ?_) (a' := ?_) #[true, true, true, true, true, true, true, false] rfl rfl (any_of HT_.out (by kernel_rfl)) (fun _ _ _ h => h) (Or.inl ⟨by rfl, ?_⟩) ?_ ?_
                      rotate_left
                      · intro w'
                        go_simp
                        with_reducible rfl
                      rotate_left
                      · simp only [Act.put, List.setIfInBounds_toArray, List.set_cons_zero, List.set_cons_succ, i64_w, i32_w]
                        rfl
                      refine pure_ (i := 7) (N := some 3) (v := ?_) (a' := ?_) #[true, true, true, true, true, true, true, true] rfl rfl (any_of HT_.out (by kernel_rfl)) (fun _ _ _ h => h) (Or.inl ⟨by rfl, ?_⟩) ?_ ?_
                      rotate_left
                      · intro w'
                        go_simp
                        with_reducible rfl
                      rotate_left
                      · simp only [Act.put, List.setIfInBounds_toArray, List.set_cons_zero, List.set_cons_succ, i64_w, i32_w]
                        rfl
                      refine done_ (done_of HT_.out (by kernel_rfl)) ?_
                      have hcz54_0 : w53.cell? ⟨gb180, 0, none⟩ = some (.int .i64 3) := (blk_cell BK180.out 0).trans rfl
                      have hcz54_1 : w53.cell? ⟨gb180, 1, none⟩ = some (.int .i64 4) := (blk_cell BK180.out 1).trans rfl
                      have hcz54_2 : w53.cell? ⟨gb180, 2, none⟩ = some (.int .i64 0) := (blk_cell BK180.out 2).trans rfl
                      have hcz54_3 : w53.cell? ⟨gb180, 3, none⟩ = some (.int .i64 3) := (blk_cell BK180.out 3).trans rfl
                      have hcz54_4 : w53.cell? ⟨gb180, 4, none⟩ = some (.int .i64 9) := (blk_cell BK180.out 4).trans rfl
                      have hfz54_0 := blk_frozen BK180.out 0
                      have hfz54_1 := blk_frozen BK180.out 1
                      have hfz54_2 := blk_frozen BK180.out 2
                      have hfz54_3 := blk_frozen BK180.out 3
                      have hfz54_4 := blk_frozen BK180.out 4
                      try go_wp2_with (first | ((with_reducible refine gate_callee (f := 17) rfl ?_); refine goesL_ (some 15) rfl rfl Tryd.func17 (by kernel_rfl) rfl #[.agg #[.int .i64 3, .int .i64 4, .int .i64 0, .int .i64 3, .int .i64 9], .int .i64 24] rfl (by (try simp only [List.map_toArray, List.map_cons, List.map_nil]); first | done | rfl | (simp only [List.length_drop, List.length_take]; rfl)) ?_; (with_reducible refine (place_At.calls k 3 4 0 3 9 24 t186 t187 t188 true _ A3.out).mono ?_); rintro e w55 ⟨rfl, hb⟩; refine ⟨_, rfl, ?_⟩; have n0_ := Aside0.mk (blk_below (g := gb180) (o := .cells #[.int .i64 3, .int .i64 4, .int .i64 0, .int .i64 3, .int .i64 9] 23 (0, 0)) (by (with_reducible repeat (first | refine blk_drewN ?_ _ | refine blk_drew ?_ | refine blk_alloc ?_ _)); exact BK180.out) hb); have n1_ := Aside0.mk (below_step (by repeat (first | (with_reducible first | exact HB.out | apply below_alloc | apply pw_below_drewN | apply below_drew1 | refine below_set ?_ GE180.out) | exact HB.out)) hb); clear BK180; clear HB; have BK180 := n0_; have HB := n1_; clear n0_ n1_; (try clear hb); (try clear hb2); (try clear hk); (try clear hi)) | ((with_reducible refine gate_dst (N := 4) rfl ?_); refine box_event ?hg (N := 4) ?hd (cs := #[.int .i64 0, .int .i64 0, .int .i64 0]) (t := 25) ?hr ?_; (case hd => rfl); (case hg => rfl); (case hr => first | (go_simp; done) | (go_simp; rfl)); intro gb190 hg w56 hbox hb; have n0_ := Aside0.mk (blk_below (g := gb180) (o := .cells #[.int .i64 3, .int .i64 4, .int .i64 0, .int .i64 3, .int .i64 9] 23 (0, 0)) (by (with_reducible repeat (first | refine blk_drewN ?_ _ | refine blk_drew ?_ | refine blk_alloc ?_ _)); exact BK180.out) hb); have n1_ := Aside0.mk (below_step (by repeat (first | (with_reducible first | exact HB.out | apply below_alloc | apply pw_below_drewN | apply below_drew1 | refine below_set ?_ GE180.out) | exact HB.out)) hb); have n2_ := Aside0.mk (hbox); have n3_ := Aside0.mk ((by rw [hg]; exact (below_size (by repeat (first | (with_reducible first | exact HB.out | apply below_alloc | apply pw_below_drewN | apply below_drew1 | refine below_set ?_ GE180.out) | exact HB.out))) : w.heap.size ≤ gb190)); have n4_ := Aside0.mk ((by rw [hg]; exact (below_size (by repeat (first | (with_reducible first | exact HB.out | apply below_alloc | apply pw_below_drewN | apply below_drew1 | refine below_set ?_ GE180.out) | exact HB.out))) : w.heap.size ≤ gb190)); have n5_ := Aside0.mk ((by rw [hg]; exact Nat.ne_of_lt (blk_lt (g := gb180) (o := .cells #[.int .i64 3, .int .i64 4, .int .i64 0, .int .i64 3, .int .i64 9] 23 (0, 0)) (by (with_reducible repeat (first | refine blk_drewN ?_ _ | refine blk_drew ?_ | refine blk_alloc ?_ _)); exact BK180.out)) : gb180 ≠ gb190)); have n6_ := Aside0.mk ((by rw [hg]; exact Nat.ne_of_gt (blk_lt (g := gb180) (o := .cells #[.int .i64 3, .int .i64 4, .int .i64 0, .int .i64 3, .int .i64 9] 23 (0, 0)) (by (with_reducible repeat (first | refine blk_drewN ?_ _ | refine blk_drew ?_ | refine blk_alloc ?_ _)); exact BK180.out)) : gb190 ≠ gb180)); clear BK180; clear HB; have BK180 := n0_; have HB := n1_; have BK190 := n2_; have GW190 := n3_; have GE190 := n4_; have NB180_190 := n5_; have NB190_180 := n6_; clear n0_ n1_ n2_ n3_ n4_ n5_ n6_; clear hb hbox hg; have hnb57 := NB190_180.out; have hnc57 := NB180_190.out; have hcz58_0 : w56.cell? ⟨gb190, 0, none⟩ = some (.int .i64 0) := (blk_cell BK190.out 0).trans rfl; have hcz58_1 : w56.cell? ⟨gb190, 1, none⟩ = some (.int .i64 0) := (blk_cell BK190.out 1).trans rfl; have hcz58_2 : w56.cell? ⟨gb190, 2, none⟩ = some (.int .i64 0) := (blk_cell BK190.out 2).trans rfl; have hfz58_0 := blk_frozen BK190.out 0; have hfz58_1 := blk_frozen BK190.out 1; have hfz58_2 := blk_frozen BK190.out 2))
                      have n0_ : Aside0 ((((w56.setCell ⟨gb190, 0, none⟩ (.int .i64 t186)).setCell ⟨gb190, 1, none⟩ (.int .i64 t187)).setCell ⟨gb190, 2, none⟩ (.int .i64 t188)).heap[gb180]? = some (.cells #[.int .i64 3, .int .i64 4, .int .i64 0, .int .i64 3, .int .i64 9] 23 (0, 0))) := ⟨by (with_reducible repeat (first | refine blk_drewN ?_ _ | refine blk_drew ?_ | refine blk_alloc ?_ _)); refine blk_far ?_ NB180_190.out _; (with_reducible repeat (first | refine blk_drewN ?_ _ | refine blk_drew ?_ | refine blk_alloc ?_ _)); refine blk_far ?_ NB180_190.out _; (with_reducible repeat (first | refine blk_drewN ?_ _ | refine blk_drew ?_ | refine blk_alloc ?_ _)); refine blk_far ?_ NB180_190.out _; (with_reducible repeat (first | refine blk_drewN ?_ _ | refine blk_drew ?_ | refine blk_alloc ?_ _)); exact BK180.out⟩
                      have n1_ : Aside0 ((((w56.setCell ⟨gb190, 0, none⟩ (.int .i64 t186)).setCell ⟨gb190, 1, none⟩ (.int .i64 t187)).setCell ⟨gb190, 2, none⟩ (.int .i64 t188)).heap[gb190]? = some (.cells #[.int .i64 t186, .int .i64 t187, .int .i64 t188] 25 (0, 0))) := ⟨by (with_reducible repeat (first | refine blk_drewN ?_ _ | refine blk_drew ?_ | refine blk_alloc ?_ _)); refine blk_put (cs := #[.int .i64 t186, .int .i64 t187, .int .i64 0]) ?_ 2 _ rfl; (with_reducible repeat (first | refine blk_drewN ?_ _ | refine blk_drew ?_ | refine blk_alloc ?_ _)); refine blk_put (cs := #[.int .i64 t186, .int .i64 0, .int .i64 0]) ?_ 1 _ rfl; (with_reducible repeat (first | refine blk_drewN ?_ _ | refine blk_drew ?_ | refine blk_alloc ?_ _)); refine blk_put (cs := #[.int .i64 0, .int .i64 0, .int .i64 0]) ?_ 0 _ rfl; (with_reducible repeat (first | refine blk_drewN ?_ _ | refine blk_drew ?_ | refine blk_alloc ?_ _)); exact BK190.out⟩
                      have n2_ : Aside0 (Below w.heap.size w (((w56.setCell ⟨gb190, 0, none⟩ (.int .i64 t186)).setCell ⟨gb190, 1, none⟩ (.int .i64 t187)).setCell ⟨gb190, 2, none⟩ (.int .i64 t188))) := ⟨by repeat (first | (with_reducible first | exact HB.out | apply below_alloc | apply pw_below_drewN | apply below_drew1 | refine below_set ?_ GE180.out | refine below_set ?_ GE190.out) | exact HB.out)⟩
                      (try clear BK180)
                      (try clear BK190)
                      (try clear HB)
                      generalize (((w56.setCell ⟨gb190, 0, none⟩ (.int .i64 t186)).setCell ⟨gb190, 1, none⟩ (.int .i64 t187)).setCell ⟨gb190, 2, none⟩ (.int .i64 t188)) = w59 at n0_ n1_ n2_ ⊢
                      have BK180 := n0_
                      have BK190 := n1_
                      have HB := n2_
                      clear n0_ n1_ n2_
                      have n0_ := Aside0.mk (blk_drew BK180.out)
                      have n1_ := Aside0.mk (blk_drew BK190.out)
                      have n2_ := Aside0.mk (below_drew1 HB.out)
                      clear BK180
                      clear BK190
                      clear HB
                      have BK180 := n0_
                      have BK190 := n1_
                      have HB := n2_
                      clear n0_ n1_ n2_
                      refine start_ (n := 49) (S := fun w' => w'.cell? ⟨gb190, 0, none⟩ = some (.int .i64 t186) ∧ w'.cell? ⟨gb190, 1, none⟩ = some (.int .i64 t187) ∧ w'.cell? ⟨gb190, 2, none⟩ = some (.int .i64 t188) ∧ w'.cell? ⟨gb180, 0, none⟩ = some (.int .i64 3) ∧ w'.cell? ⟨gb180, 1, none⟩ = some (.int .i64 4) ∧ w'.cell? ⟨gb180, 2, none⟩ = some (.int .i64 0) ∧ w'.cell? ⟨gb180, 3, none⟩ = some (.int .i64 3) ∧ w'.cell? ⟨gb180, 4, none⟩ = some (.int .i64 9)) (ds := []) #[false, false, false, false, false, false, false, false, false, false, false, false, false, false, false, false, false, false, false, false, false, false, false, false, false, false, false, false, false, false, false, false, false, false, false, false, false, false, false, false, false, false, false, false, false, false, false, false, false] (by kernel_rfl) rfl rfl ⟨(blk_cell BK190.out 0).trans rfl, (blk_cell BK190.out 1).trans rfl, (blk_cell BK190.out 2).trans rfl, (blk_cell BK180.out 0).trans rfl, (blk_cell BK180.out 1).trans rfl, (blk_cell BK180.out 2).trans rfl, (blk_cell BK180.out 3).trans rfl, (blk_cell BK180.out 4).trans rfl⟩ (fun hHeld => ?_); refine with_tabW revenantlaw05_awake.tab4 revenantlaw05_awake.bits4 (fun HT_ HW_ => ?_)
                      generalize w59.drew = w60 at BK180 BK190 HB hHeld ⊢
                      refine pure_ (i := 0) (N := some 18) (v := ?_) (a' := ?_) #[true, false, false, false, false, false, false, false, false, false, false, false, false, false, false, false, false, false, false, false, false, false, false, false, false, false, false, false, false, false, false, false, false, false, false, false, false, false, false, false, false, false, false, false, false, false, false, false, false] rfl rfl (any_of HT_.out (by kernel_rfl)) (fun _ _ _ h => h) (Or.inl ⟨by rfl, ?_⟩) ?_ ?_
                      rotate_left
                      · intro w'
                        go_simp
                        with_reducible rfl
                      rotate_left
                      · simp only [Act.put, List.setIfInBounds_toArray, List.set_cons_zero, List.set_cons_succ, i64_w, i32_w]
                        rfl
                      refine pure_ (i := 1) (N := some 19) (v := ?_) (a' := ?_) #[true, true, false, false, false, false, false, false, false, false, false, false, false, false, false, false, false, false, false, false, false, false, false, false, false, false, false, false, false, false, false, false, false, false, false, false, false, false, false, false, false, false, false, false, false, false, false, false, false] rfl rfl (any_of HT_.out (by kernel_rfl)) (fun _ _ _ h => h) (Or.inl ⟨by rfl, ?_⟩) ?_ ?_
                      rotate_left
                      · intro w'
                        go_simp
                        with_reducible rfl
                      rotate_left
                      · simp only [Act.put, List.setIfInBounds_toArray, List.set_cons_zero, List.set_cons_succ, i64_w, i32_w]
                        rfl
                      refine pure_ (i := 2) (N := some 20) (v := ?_) (a' := ?_) #[true, true, true, false, false, false, false, false, false, false, false, false, false, false, false, false, false, false, false, false, false, false, false, false, false, false, false, false, false, false, false, false, false, false, false, false, false, false, false, false, false, false, false, false, false, false, false, false, false] rfl rfl (any_of HT_.out (by kernel_rfl)) (fun _ _ _ h => h) (Or.inl ⟨by rfl, ?_⟩) ?_ ?_
                      rotate_left
                      · intro w'
                        go_simp
                        with_reducible rfl
                      rotate_left
                      · simp only [Act.put, List.setIfInBounds_toArray, List.set_cons_zero, List.set_cons_succ, i64_w, i32_w]
                        rfl
                      refine pure_ (i := 3) (N := some 21) (v := ?_) (a' := ?_) #[true, true, true, true, false, false, false, false, false, false, false, false, false, false, false, false, false, false, false, false, false, false, false, false, false, false, false, false, false, false, false, false, false, false, false, false, false, false, false, false, false, false, false, false, false, false, false, false, false] rfl rfl (any_of HT_.out (by kernel_rfl)) (fun _ _ _ h => h) (Or.inl ⟨by rfl, ?_⟩) ?_ ?_
                      rotate_left
                      · intro w'
                        go_simp
                        with_reducible rfl
                      rotate_left
                      · simp only [Act.put, List.setIfInBounds_toArray, List.set_cons_zero, List.set_cons_succ, i64_w, i32_w]
                        rfl
                      refine pure_ (i := 4) (N := some 22) (v := ?_) (a' := ?_) #[true, true, true, true, true, false, false, false, false, false, false, false, false, false, false, false, false, false, false, false, false, false, false, false, false, false, false, false, false, false, false, false, false, false, false, false, false, false, false, false, false, false, false, false, false, false, false, false, false] rfl rfl (any_of HT_.out (by kernel_rfl)) (fun _ _ _ h => h) (Or.inl ⟨by rfl, ?_⟩) ?_ ?_
                      rotate_left
                      · intro w'
                        go_simp
                        with_reducible rfl
                      rotate_left
                      · simp only [Act.put, List.setIfInBounds_toArray, List.set_cons_zero, List.set_cons_succ, i64_w, i32_w]
                        rfl
                      refine pure_ (i := 5) (N := some 23) (v := ?_) (a' := ?_) #[true, true, true, true, true, true, false, false, false, false, false, false, false, false, false, false, false, false, false, false, false, false, false, false, false, false, false, false, false, false, false, false, false, false, false, false, false, false, false, false, false, false, false, false, false, false, false, false, false] rfl rfl (any_of HT_.out (by kernel_rfl)) (fun _ _ _ h => h) (Or.inl ⟨by rfl, ?_⟩) ?_ ?_
                      rotate_left
                      · intro w'
                        go_simp
                        with_reducible rfl
                      rotate_left
                      · simp only [Act.put, List.setIfInBounds_toArray, List.set_cons_zero, List.set_cons_succ, i64_w, i32_w]
                        rfl
                      refine take_ (i := 6) (N := some 24) (v := ?_) (a' := ?_) #[true, true, true, true, true, true, true, false, false, false, false, false, false, false, false, false, false, false, false, false, false, false, false, false, false, false, false, false, false, false, false, false, false, false, false, false, false, false, false, false, false, false, false, false, false, false, false, false, false] rfl rfl (take_ofW HT_.out HW_.out (by kernel_rfl)) (fun _ _ _ h => h) (Or.inl ⟨by rfl, ?_⟩) hHeld ?_ ?_
                      rotate_left
                      · rintro w' ⟨s0, s1, s2, s3, s4, s5, s6, s7⟩
                        go_simp
                        with_reducible rfl
                      rotate_left
                      · simp only [Act.put, List.setIfInBounds_toArray, List.set_cons_zero, List.set_cons_succ, i64_w, i32_w]
                        rfl
                      refine one_ (i := 7) (N := some 25) #[true, true, true, true, true, true, true, true, false, false, false, false, false, false, false, false, false, false, false, false, false, false, false, false, false, false, false, false, false, false, false, false, false, false, false, false, false, false, false, false, false, false, false, false, false, false, false, false, false] rfl rfl (one_of HT_.out (by kernel_rfl)) (by decide) (fun K hK => ?_)
                      refine goes_ Tryd.func24 (by kernel_rfl) rfl #[.int .i64 2, .int .i64 1] (by rfl) rfl rfl (by (try simp only [List.map_toArray, List.map_cons, List.map_nil]); first | done | rfl | (simp only [List.length_drop, List.length_take]; rfl)) ?_
                      with_reducible refine (place_Link.calls 2 1 t191 t192 t193 _ A6.out).mono ?_
                      rintro e w61 ⟨rfl, hb⟩
                      refine ⟨_, rfl, ?_⟩
                      have n0_ := Aside0.mk (blk_below (g := gb180) (o := .cells #[.int .i64 3, .int .i64 4, .int .i64 0, .int .i64 3, .int .i64 9] 23 (0, 0)) (by (with_reducible repeat (first | refine blk_drewN ?_ _ | refine blk_drew ?_ | refine blk_alloc ?_ _)); exact BK180.out) hb)
                      have n1_ := Aside0.mk (blk_below (g := gb190) (o := .cells #[.int .i64 t186, .int .i64 t187, .int .i64 t188] 25 (0, 0)) (by (with_reducible repeat (first | refine blk_drewN ?_ _ | refine blk_drew ?_ | refine blk_alloc ?_ _)); exact BK190.out) hb)
                      have n2_ := Aside0.mk (below_step (by repeat (first | (with_reducible first | exact HB.out | apply below_alloc | apply pw_below_drewN | apply below_drew1 | refine below_set ?_ GE180.out | refine below_set ?_ GE190.out) | exact HB.out)) hb)
                      clear BK180
                      clear BK190
                      clear HB
                      have BK180 := n0_
                      have BK190 := n1_
                      have HB := n2_
                      clear n0_ n1_ n2_
                      (try clear hb)
                      (try clear hb2)
                      (try clear hk)
                      (try clear hi)
                      refine hK.out _ _ ⟨(blk_cell BK190.out 0).trans rfl, (blk_cell BK190.out 1).trans rfl, (blk_cell BK190.out 2).trans rfl, (blk_cell BK180.out 0).trans rfl, (blk_cell BK180.out 1).trans rfl, (blk_cell BK180.out 2).trans rfl, (blk_cell BK180.out 3).trans rfl, (blk_cell BK180.out 4).trans rfl⟩ (fun hHeld => ?_)
                      clear hK K
                      refine norm_ (a' := ?_) ?_ ?_
                      rotate_left
                      · show Act.put _ (some 25) _ = _
                        simp only [Act.put, List.setIfInBounds_toArray, List.set_cons_zero, List.set_cons_succ, i64_w, i32_w]
                        rfl
                      refine pure_ (i := 8) (N := some 26) (v := ?_) (a' := ?_) #[true, true, true, true, true, true, true, true, true, false, false, false, false, false, false, false, false, false, false, false, false, false, false, false, false, false, false, false, false, false, false, false, false, false, false, false, false, false, false, false, false, false, false, false, false, false, false, false, false] rfl rfl (any_of HT_.out (by kernel_rfl)) (fun _ _ _ h => h) (Or.inl ⟨by rfl, ?_⟩) ?_ ?_
                      rotate_left
                      · intro w'
                        go_simp
                        with_reducible rfl
                      rotate_left
                      · simp only [Act.put, List.setIfInBounds_toArray, List.set_cons_zero, List.set_cons_succ, i64_w, i32_w]
                        rfl
                      refine pure_ (i := 9) (N := some 27) (v := ?_) (a' := ?_) #[true, true, true, true, true, true, true, true, true, true, false, false, false, false, false, false, false, false, false, false, false, false, false, false, false, false, false, false, false, false, false, false, false, false, false, false, false, false, false, false, false, false, false, false, false, false, false, false, false] rfl rfl (any_of HT_.out (by kernel_rfl)) (fun _ _ _ h => h) (Or.inl ⟨by rfl, ?_⟩) ?_ ?_
                      rotate_left
                      · intro w'
                        go_simp
                        with_reducible rfl
                      rotate_left
                      · simp only [Act.put, List.setIfInBounds_toArray, List.set_cons_zero, List.set_cons_succ, i64_w, i32_w]
                        rfl
                      refine pure_ (i := 10) (N := some 28) (v := ?_) (a' := ?_) #[true, true, true, true, true, true, true, true, true, true, true, false, false, false, false, false, false, false, false, false, false, false, false, false, false, false, false, false, false, false, false, false, false, false, false, false, false, false, false, false, false, false, false, false, false, false, false, false, false] rfl rfl (any_of HT_.out (by kernel_rfl)) (fun _ _ _ h => h) (Or.inl ⟨by rfl, ?_⟩) ?_ ?_
                      rotate_left
                      · intro w'
                        go_simp
                        with_reducible rfl
                      rotate_left
                      · simp only [Act.put, List.setIfInBounds_toArray, List.set_cons_zero, List.set_cons_succ, i64_w, i32_w]
                        rfl
                      refine pure_ (i := 11) (N := some 29) (v := ?_) (a' := ?_) #[true, true, true, true, true, true, true, true, true, true, true, true, false, false, false, false, false, false, false, false, false, false, false, false, false, false, false, false, false, false, false, false, false, false, false, false, false, false, false, false, false, false, false, false, false, false, false, false, false] rfl rfl (any_of HT_.out (by kernel_rfl)) (fun _ _ _ h => h) (Or.inl ⟨by rfl, ?_⟩) ?_ ?_
                      rotate_left
                      · intro w'
                        go_simp
                        with_reducible rfl
                      rotate_left
                      · simp only [Act.put, List.setIfInBounds_toArray, List.set_cons_zero, List.set_cons_succ, i64_w, i32_w]
                        rfl
                      refine pure_ (i := 12) (N := some 30) (v := ?_) (a' := ?_) #[true, true, true, true, true, true, true, true, true, true, true, true, true, false, false, false, false, false, false, false, false, false, false, false, false, false, false, false, false, false, false, false, false, false, false, false, false, false, false, false, false, false, false, false, false, false, false, false, false] rfl rfl (any_of HT_.out (by kernel_rfl)) (fun _ _ _ h => h) (Or.inl ⟨by rfl, ?_⟩) ?_ ?_
                      rotate_left
                      · intro w'
                        go_simp
                        with_reducible rfl
                      rotate_left
                      · simp only [Act.put, List.setIfInBounds_toArray, List.set_cons_zero, List.set_cons_succ, i64_w, i32_w]
                        rfl
                      refine pure_ (i := 13) (N := some 31) (v := ?_) (a' := ?_) #[true, true, true, true, true, true, true, true, true, true, true, true, true, true, false, false, false, false, false, false, false, false, false, false, false, false, false, false, false, false, false, false, false, false, false, false, false, false, false, false, false, false, false, false, false, false, false, false, false] rfl rfl (any_of HT_.out (by kernel_rfl)) (fun _ _ _ h => h) (Or.inl ⟨by rfl, ?_⟩) ?_ ?_
                      rotate_left
                      · intro w'
                        go_simp
                        with_reducible rfl
                      rotate_left
                      · simp only [Act.put, List.setIfInBounds_toArray, List.set_cons_zero, List.set_cons_succ, i64_w, i32_w]
                        rfl
                      refine take_ (i := 14) (N := some 32) (v := ?_) (a' := ?_) #[true, true, true, true, true, true, true, true, true, true, true, true, true, true, true, false, false, false, false, false, false, false, false, false, false, false, false, false, false, false, false, false, false, false, false, false, false, false, false, false, false, false, false, false, false, false, false, false, false] rfl rfl (take_ofW HT_.out HW_.out (by kernel_rfl)) (fun _ _ _ h => h) (Or.inl ⟨by rfl, ?_⟩) hHeld ?_ ?_
                      rotate_left
                      · rintro w' ⟨s0, s1, s2, s3, s4, s5, s6, s7⟩
                        go_simp
                        with_reducible rfl
                      rotate_left
                      · simp only [Act.put, List.setIfInBounds_toArray, List.set_cons_zero, List.set_cons_succ, i64_w, i32_w]
                        rfl
                      refine one_ (i := 15) (N := some 33) #[true, true, true, true, true, true, true, true, true, true, true, true, true, true, true, true, false, false, false, false, false, false, false, false, false, false, false, false, false, false, false, false, false, false, false, false, false, false, false, false, false, false, false, false, false, false, false, false, false] rfl rfl (one_of HT_.out (by kernel_rfl)) (by decide) (fun K hK => ?_)
                      refine goes_ Tryd.func18 (by kernel_rfl) rfl #[.agg #[.int .i64 3, .int .i64 4, .int .i64 0, .int .i64 3, .int .i64 9]] (by rfl) rfl rfl (by (try simp only [List.map_toArray, List.map_cons, List.map_nil]); first | done | rfl | (simp only [List.length_drop, List.length_take]; rfl)) ?_
                      with_reducible refine (place_Count.calls k 3 4 0 3 9 t194 _ A9.out).mono ?_
                      rintro e w62 ⟨rfl, hb⟩
                      refine ⟨_, rfl, ?_⟩
                      have n0_ := Aside0.mk (blk_below (g := gb180) (o := .cells #[.int .i64 3, .int .i64 4, .int .i64 0, .int .i64 3, .int .i64 9] 23 (0, 0)) (by (with_reducible repeat (first | refine blk_drewN ?_ _ | refine blk_drew ?_ | refine blk_alloc ?_ _)); exact BK180.out) hb)
                      have n1_ := Aside0.mk (blk_below (g := gb190) (o := .cells #[.int .i64 t186, .int .i64 t187, .int .i64 t188] 25 (0, 0)) (by (with_reducible repeat (first | refine blk_drewN ?_ _ | refine blk_drew ?_ | refine blk_alloc ?_ _)); exact BK190.out) hb)
                      have n2_ := Aside0.mk (below_step (by repeat (first | (with_reducible first | exact HB.out | apply below_alloc | apply pw_below_drewN | apply below_drew1 | refine below_set ?_ GE180.out | refine below_set ?_ GE190.out) | exact HB.out)) hb)
                      clear BK180
                      clear BK190
                      clear HB
                      have BK180 := n0_
                      have BK190 := n1_
                      have HB := n2_
                      clear n0_ n1_ n2_
                      (try clear hb)
                      (try clear hb2)
                      (try clear hk)
                      (try clear hi)
                      refine hK.out _ _ ⟨(blk_cell BK190.out 0).trans rfl, (blk_cell BK190.out 1).trans rfl, (blk_cell BK190.out 2).trans rfl, (blk_cell BK180.out 0).trans rfl, (blk_cell BK180.out 1).trans rfl, (blk_cell BK180.out 2).trans rfl, (blk_cell BK180.out 3).trans rfl, (blk_cell BK180.out 4).trans rfl⟩ (fun hHeld => ?_)
                      clear hK K
                      refine norm_ (a' := ?_) ?_ ?_
                      rotate_left
                      · show Act.put _ (some 33) _ = _
                        simp only [Act.put, List.setIfInBounds_toArray, List.set_cons_zero, List.set_cons_succ, i64_w, i32_w]
                        rfl
                      refine pure_ (i := 16) (N := some 34) (v := ?_) (a' := ?_) #[true, true, true, true, true, true, true, true, true, true, true, true, true, true, true, true, true, false, false, false, false, false, false, false, false, false, false, false, false, false, false, false, false, false, false, false, false, false, false, false, false, false, false, false, false, false, false, false, false] rfl rfl (any_of HT_.out (by kernel_rfl)) (fun _ _ _ h => h) (Or.inl ⟨by rfl, ?_⟩) ?_ ?_
                      rotate_left
                      · intro w'
                        go_simp
                        with_reducible rfl
                      rotate_left
                      · simp only [Act.put, List.setIfInBounds_toArray, List.set_cons_zero, List.set_cons_succ, i64_w, i32_w]
                        rfl
                      refine pure_ (i := 17) (N := some 35) (v := ?_) (a' := ?_) #[true, true, true, true, true, true, true, true, true, true, true, true, true, true, true, true, true, true, false, false, false, false, false, false, false, false, false, false, false, false, false, false, false, false, false, false, false, false, false, false, false, false, false, false, false, false, false, false, false] rfl rfl (any_of HT_.out (by kernel_rfl)) (fun _ _ _ h => h) (Or.inl ⟨by rfl, ?_⟩) ?_ ?_
                      rotate_left
                      · intro w'
                        go_simp
                        with_reducible rfl
                      rotate_left
                      · simp only [Act.put, List.setIfInBounds_toArray, List.set_cons_zero, List.set_cons_succ, i64_w, i32_w]
                        rfl
                      refine pure_ (i := 18) (N := some 36) (v := ?_) (a' := ?_) #[true, true, true, true, true, true, true, true, true, true, true, true, true, true, true, true, true, true, true, false, false, false, false, false, false, false, false, false, false, false, false, false, false, false, false, false, false, false, false, false, false, false, false, false, false, false, false, false, false] rfl rfl (any_of HT_.out (by kernel_rfl)) (fun _ _ _ h => h) (Or.inl ⟨by rfl, ?_⟩) ?_ ?_
                      rotate_left
                      · intro w'
                        go_simp
                        with_reducible rfl
                      rotate_left
                      · simp only [Act.put, List.setIfInBounds_toArray, List.set_cons_zero, List.set_cons_succ, i64_w, i32_w]
                        rfl
                      refine take_ (i := 19) (N := some 37) (v := ?_) (a' := ?_) #[true, true, true, true, true, true, true, true, true, true, true, true, true, true, true, true, true, true, true, true, false, false, false, false, false, false, false, false, false, false, false, false, false, false, false, false, false, false, false, false, false, false, false, false, false, false, false, false, false] rfl rfl (take_ofW HT_.out HW_.out (by kernel_rfl)) (fun _ _ _ h => h) (Or.inl ⟨by rfl, ?_⟩) hHeld ?_ ?_
                      rotate_left
                      · rintro w' ⟨s0, s1, s2, s3, s4, s5, s6, s7⟩
                        go_simp
                        with_reducible rfl
                      rotate_left
                      · simp only [Act.put, List.setIfInBounds_toArray, List.set_cons_zero, List.set_cons_succ, i64_w, i32_w]
                        rfl
                      refine one_ (i := 20) (N := some 38) #[true, true, true, true, true, true, true, true, true, true, true, true, true, true, true, true, true, true, true, true, true, false, false, false, false, false, false, false, false, false, false, false, false, false, false, false, false, false, false, false, false, false, false, false, false, false, false, false, false] rfl rfl (one_of HT_.out (by kernel_rfl)) (by decide) (fun K hK => ?_)
                      refine goes_ Tryd.func25 (by kernel_rfl) rfl #[.agg #[.int .i64 t186, .int .i64 t187, .int .i64 t188]] (by rfl) rfl rfl (by (try simp only [List.map_toArray, List.map_cons, List.map_nil]); first | done | rfl | (simp only [List.length_drop, List.length_take]; rfl)) ?_
                      with_reducible refine (place_Name.calls k t186 t187 t188 t195 _ A11.out).mono ?_
                      rintro e w63 ⟨rfl, hb⟩
                      refine ⟨_, rfl, ?_⟩
                      have n0_ := Aside0.mk (blk_below (g := gb180) (o := .cells #[.int .i64 3, .int .i64 4, .int .i64 0, .int .i64 3, .int .i64 9] 23 (0, 0)) (by (with_reducible repeat (first | refine blk_drewN ?_ _ | refine blk_drew ?_ | refine blk_alloc ?_ _)); exact BK180.out) hb)
                      have n1_ := Aside0.mk (blk_below (g := gb190) (o := .cells #[.int .i64 t186, .int .i64 t187, .int .i64 t188] 25 (0, 0)) (by (with_reducible repeat (first | refine blk_drewN ?_ _ | refine blk_drew ?_ | refine blk_alloc ?_ _)); exact BK190.out) hb)
                      have n2_ := Aside0.mk (below_step (by repeat (first | (with_reducible first | exact HB.out | apply below_alloc | apply pw_below_drewN | apply below_drew1 | refine below_set ?_ GE180.out | refine below_set ?_ GE190.out) | exact HB.out)) hb)
                      clear BK180
                      clear BK190
                      clear HB
                      have BK180 := n0_
                      have BK190 := n1_
                      have HB := n2_
                      clear n0_ n1_ n2_
                      (try clear hb)
                      (try clear hb2)
                      (try clear hk)
                      (try clear hi)
                      refine hK.out _ _ ⟨(blk_cell BK190.out 0).trans rfl, (blk_cell BK190.out 1).trans rfl, (blk_cell BK190.out 2).trans rfl, (blk_cell BK180.out 0).trans rfl, (blk_cell BK180.out 1).trans rfl, (blk_cell BK180.out 2).trans rfl, (blk_cell BK180.out 3).trans rfl, (blk_cell BK180.out 4).trans rfl⟩ (fun hHeld => ?_)
                      clear hK K
                      refine norm_ (a' := ?_) ?_ ?_
                      rotate_left
                      · show Act.put _ (some 38) _ = _
                        simp only [Act.put, List.setIfInBounds_toArray, List.set_cons_zero, List.set_cons_succ, i64_w, i32_w]
                        rfl
                      refine pure_ (i := 21) (N := some 39) (v := ?_) (a' := ?_) #[true, true, true, true, true, true, true, true, true, true, true, true, true, true, true, true, true, true, true, true, true, true, false, false, false, false, false, false, false, false, false, false, false, false, false, false, false, false, false, false, false, false, false, false, false, false, false, false, false] rfl rfl (any_of HT_.out (by kernel_rfl)) (fun _ _ _ h => h) (Or.inl ⟨by rfl, ?_⟩) ?_ ?_
                      rotate_left
                      · intro w'
                        go_simp
                        with_reducible rfl
                      rotate_left
                      · simp only [Act.put, List.setIfInBounds_toArray, List.set_cons_zero, List.set_cons_succ, i64_w, i32_w]
                        rfl
                      refine pure_ (i := 22) (N := some 40) (v := ?_) (a' := ?_) #[true, true, true, true, true, true, true, true, true, true, true, true, true, true, true, true, true, true, true, true, true, true, true, false, false, false, false, false, false, false, false, false, false, false, false, false, false, false, false, false, false, false, false, false, false, false, false, false, false] rfl rfl (any_of HT_.out (by kernel_rfl)) (fun _ _ _ h => h) (Or.inl ⟨by rfl, ?_⟩) ?_ ?_
                      rotate_left
                      · intro w'
                        go_simp
                        with_reducible rfl
                      rotate_left
                      · simp only [Act.put, List.setIfInBounds_toArray, List.set_cons_zero, List.set_cons_succ, i64_w, i32_w]
                        rfl
                      refine pure_ (i := 23) (N := some 41) (v := ?_) (a' := ?_) #[true, true, true, true, true, true, true, true, true, true, true, true, true, true, true, true, true, true, true, true, true, true, true, true, false, false, false, false, false, false, false, false, false, false, false, false, false, false, false, false, false, false, false, false, false, false, false, false, false] rfl rfl (any_of HT_.out (by kernel_rfl)) (fun _ _ _ h => h) (Or.inl ⟨by rfl, ?_⟩) ?_ ?_
                      rotate_left
                      · intro w'
                        go_simp
                        with_reducible rfl
                      rotate_left
                      · simp only [Act.put, List.setIfInBounds_toArray, List.set_cons_zero, List.set_cons_succ, i64_w, i32_w]
                        rfl
                      refine one_ (i := 24) (N := some 42) #[true, true, true, true, true, true, true, true, true, true, true, true, true, true, true, true, true, true, true, true, true, true, true, true, true, false, false, false, false, false, false, false, false, false, false, false, false, false, false, false, false, false, false, false, false, false, false, false, false] rfl rfl (one_of HT_.out (by kernel_rfl)) (by decide) (fun K hK => ?_)
                      refine goes_ Tryd.func19 (by kernel_rfl) rfl #[] (by rfl) rfl rfl (by (try simp only [List.map_toArray, List.map_cons, List.map_nil]); first | done | rfl | (simp only [List.length_drop, List.length_take]; rfl)) ?_
                      with_reducible refine (place_Epoch.calls  t196 t197 t198 _ A13.out).mono ?_
                      rintro e w64 ⟨rfl, hb⟩
                      refine ⟨_, rfl, ?_⟩
                      have n0_ := Aside0.mk (blk_below (g := gb180) (o := .cells #[.int .i64 3, .int .i64 4, .int .i64 0, .int .i64 3, .int .i64 9] 23 (0, 0)) (by (with_reducible repeat (first | refine blk_drewN ?_ _ | refine blk_drew ?_ | refine blk_alloc ?_ _)); exact BK180.out) hb)
                      have n1_ := Aside0.mk (blk_below (g := gb190) (o := .cells #[.int .i64 t186, .int .i64 t187, .int .i64 t188] 25 (0, 0)) (by (with_reducible repeat (first | refine blk_drewN ?_ _ | refine blk_drew ?_ | refine blk_alloc ?_ _)); exact BK190.out) hb)
                      have n2_ := Aside0.mk (below_step (by repeat (first | (with_reducible first | exact HB.out | apply below_alloc | apply pw_below_drewN | apply below_drew1 | refine below_set ?_ GE180.out | refine below_set ?_ GE190.out) | exact HB.out)) hb)
                      clear BK180
                      clear BK190
                      clear HB
                      have BK180 := n0_
                      have BK190 := n1_
                      have HB := n2_
                      clear n0_ n1_ n2_
                      (try clear hb)
                      (try clear hb2)
                      (try clear hk)
                      (try clear hi)
                      refine hK.out _ _ ⟨(blk_cell BK190.out 0).trans rfl, (blk_cell BK190.out 1).trans rfl, (blk_cell BK190.out 2).trans rfl, (blk_cell BK180.out 0).trans rfl, (blk_cell BK180.out 1).trans rfl, (blk_cell BK180.out 2).trans rfl, (blk_cell BK180.out 3).trans rfl, (blk_cell BK180.out 4).trans rfl⟩ (fun hHeld => ?_)
                      clear hK K
                      refine norm_ (a' := ?_) ?_ ?_
                      rotate_left
                      · show Act.put _ (some 42) _ = _
                        simp only [Act.put, List.setIfInBounds_toArray, List.set_cons_zero, List.set_cons_succ, i64_w, i32_w]
                        rfl
                      refine one_ (i := 25) (N := some 43) #[true, true, true, true, true, true, true, true, true, true, true, true, true, true, true, true, true, true, true, true, true, true, true, true, true, true, false, false, false, false, false, false, false, false, false, false, false, false, false, false, false, false, false, false, false, false, false, false, false] rfl rfl (one_of HT_.out (by kernel_rfl)) (by decide) (fun K hK => ?_)
                      refine goes_ Tryd.func25 (by kernel_rfl) rfl #[.agg #[.int .i64 t196, .int .i64 t197, .int .i64 t198]] (by rfl) rfl rfl (by (try simp only [List.map_toArray, List.map_cons, List.map_nil]); first | done | rfl | (simp only [List.length_drop, List.length_take]; rfl)) ?_
                      with_reducible refine (place_Name.calls k t196 t197 t198 t199 _ A14.out).mono ?_
                      rintro e w65 ⟨rfl, hb⟩
                      refine ⟨_, rfl, ?_⟩
                      have n0_ := Aside0.mk (blk_below (g := gb180) (o := .cells #[.int .i64 3, .int .i64 4, .int .i64 0, .int .i64 3, .int .i64 9] 23 (0, 0)) (by (with_reducible repeat (first | refine blk_drewN ?_ _ | refine blk_drew ?_ | refine blk_alloc ?_ _)); exact BK180.out) hb)
                      have n1_ := Aside0.mk (blk_below (g := gb190) (o := .cells #[.int .i64 t186, .int .i64 t187, .int .i64 t188] 25 (0, 0)) (by (with_reducible repeat (first | refine blk_drewN ?_ _ | refine blk_drew ?_ | refine blk_alloc ?_ _)); exact BK190.out) hb)
                      have n2_ := Aside0.mk (below_step (by repeat (first | (with_reducible first | exact HB.out | apply below_alloc | apply pw_below_drewN | apply below_drew1 | refine below_set ?_ GE180.out | refine below_set ?_ GE190.out) | exact HB.out)) hb)
                      clear BK180
                      clear BK190
                      clear HB
                      have BK180 := n0_
                      have BK190 := n1_
                      have HB := n2_
                      clear n0_ n1_ n2_
                      (try clear hb)
                      (try clear hb2)
                      (try clear hk)
                      (try clear hi)
                      refine hK.out _ _ ⟨(blk_cell BK190.out 0).trans rfl, (blk_cell BK190.out 1).trans rfl, (blk_cell BK190.out 2).trans rfl, (blk_cell BK180.out 0).trans rfl, (blk_cell BK180.out 1).trans rfl, (blk_cell BK180.out 2).trans rfl, (blk_cell BK180.out 3).trans rfl, (blk_cell BK180.out 4).trans rfl⟩ (fun hHeld => ?_)
                      clear hK K
                      refine norm_ (a' := ?_) ?_ ?_
                      rotate_left
                      · show Act.put _ (some 43) _ = _
                        simp only [Act.put, List.setIfInBounds_toArray, List.set_cons_zero, List.set_cons_succ, i64_w, i32_w]
                        rfl
                      refine pure_ (i := 26) (N := some 44) (v := ?_) (a' := ?_) #[true, true, true, true, true, true, true, true, true, true, true, true, true, true, true, true, true, true, true, true, true, true, true, true, true, true, true, false, false, false, false, false, false, false, false, false, false, false, false, false, false, false, false, false, false, false, false, false, false] rfl rfl (any_of HT_.out (by kernel_rfl)) (fun _ _ _ h => h) (Or.inl ⟨by rfl, ?_⟩) ?_ ?_
                      rotate_left
                      · intro w'
                        go_simp
                        with_reducible rfl
                      rotate_left
                      · simp only [Act.put, List.setIfInBounds_toArray, List.set_cons_zero, List.set_cons_succ, i64_w, i32_w]
                        rfl
                      refine pure_ (i := 27) (N := some 45) (v := ?_) (a' := ?_) #[true, true, true, true, true, true, true, true, true, true, true, true, true, true, true, true, true, true, true, true, true, true, true, true, true, true, true, true, false, false, false, false, false, false, false, false, false, false, false, false, false, false, false, false, false, false, false, false, false] rfl rfl (any_of HT_.out (by kernel_rfl)) (fun _ _ _ h => h) (Or.inl ⟨by rfl, ?_⟩) ?_ ?_
                      rotate_left
                      · intro w'
                        go_simp
                        with_reducible rfl
                      rotate_left
                      · simp only [Act.put, List.setIfInBounds_toArray, List.set_cons_zero, List.set_cons_succ, i64_w, i32_w]
                        rfl
                      refine pure_ (i := 28) (N := some 46) (v := ?_) (a' := ?_) #[true, true, true, true, true, true, true, true, true, true, true, true, true, true, true, true, true, true, true, true, true, true, true, true, true, true, true, true, true, false, false, false, false, false, false, false, false, false, false, false, false, false, false, false, false, false, false, false, false] rfl rfl (any_of HT_.out (by kernel_rfl)) (fun _ _ _ h => h) (Or.inl ⟨by rfl, ?_⟩) ?_ ?_
                      rotate_left
                      · intro w'
                        go_simp
                        with_reducible rfl
                      rotate_left
                      · simp only [Act.put, List.setIfInBounds_toArray, List.set_cons_zero, List.set_cons_succ, i64_w, i32_w]
                        rfl
                      refine take_ (i := 29) (N := some 47) (v := ?_) (a' := ?_) #[true, true, true, true, true, true, true, true, true, true, true, true, true, true, true, true, true, true, true, true, true, true, true, true, true, true, true, true, true, true, false, false, false, false, false, false, false, false, false, false, false, false, false, false, false, false, false, false, false] rfl rfl (take_ofW HT_.out HW_.out (by kernel_rfl)) (fun _ _ _ h => h) (Or.inl ⟨by rfl, ?_⟩) hHeld ?_ ?_
                      rotate_left
                      · rintro w' ⟨s0, s1, s2, s3, s4, s5, s6, s7⟩
                        go_simp
                        with_reducible rfl
                      rotate_left
                      · simp only [Act.put, List.setIfInBounds_toArray, List.set_cons_zero, List.set_cons_succ, i64_w, i32_w]
                        rfl
                      refine one_ (i := 30) (N := some 48) #[true, true, true, true, true, true, true, true, true, true, true, true, true, true, true, true, true, true, true, true, true, true, true, true, true, true, true, true, true, true, true, false, false, false, false, false, false, false, false, false, false, false, false, false, false, false, false, false, false] rfl rfl (one_of HT_.out (by kernel_rfl)) (by decide) (fun K hK => ?_)
                      refine goes_ Tryd.func22 (by kernel_rfl) rfl #[.int .i64 2] (by rfl) rfl rfl (by (try simp only [List.map_toArray, List.map_cons, List.map_nil]); first | done | rfl | (simp only [List.length_drop, List.length_take]; rfl)) ?_
                      with_reducible refine (place_Root.calls 2 t200 t201 t202 _ A16.out).mono ?_
                      rintro e w66 ⟨rfl, hb⟩
                      refine ⟨_, rfl, ?_⟩
                      have n0_ := Aside0.mk (blk_below (g := gb180) (o := .cells #[.int .i64 3, .int .i64 4, .int .i64 0, .int .i64 3, .int .i64 9] 23 (0, 0)) (by (with_reducible repeat (first | refine blk_drewN ?_ _ | refine blk_drew ?_ | refine blk_alloc ?_ _)); exact BK180.out) hb)
                      have n1_ := Aside0.mk (blk_below (g := gb190) (o := .cells #[.int .i64 t186, .int .i64 t187, .int .i64 t188] 25 (0, 0)) (by (with_reducible repeat (first | refine blk_drewN ?_ _ | refine blk_drew ?_ | refine blk_alloc ?_ _)); exact BK190.out) hb)
                      have n2_ := Aside0.mk (below_step (by repeat (first | (with_reducible first | exact HB.out | apply below_alloc | apply pw_below_drewN | apply below_drew1 | refine below_set ?_ GE180.out | refine below_set ?_ GE190.out) | exact HB.out)) hb)
                      clear BK180
                      clear BK190
                      clear HB
                      have BK180 := n0_
                      have BK190 := n1_
                      have HB := n2_
                      clear n0_ n1_ n2_
                      (try clear hb)
                      (try clear hb2)
                      (try clear hk)
                      (try clear hi)
                      refine hK.out _ _ ⟨(blk_cell BK190.out 0).trans rfl, (blk_cell BK190.out 1).trans rfl, (blk_cell BK190.out 2).trans rfl, (blk_cell BK180.out 0).trans rfl, (blk_cell BK180.out 1).trans rfl, (blk_cell BK180.out 2).trans rfl, (blk_cell BK180.out 3).trans rfl, (blk_cell BK180.out 4).trans rfl⟩ (fun hHeld => ?_)
                      clear hK K
                      refine norm_ (a' := ?_) ?_ ?_
                      rotate_left
                      · show Act.put _ (some 48) _ = _
                        simp only [Act.put, List.setIfInBounds_toArray, List.set_cons_zero, List.set_cons_succ, i64_w, i32_w]
                        rfl
                      refine one_ (i := 31) (N := some 49) #[true, true, true, true, true, true, true, true, true, true, true, true, true, true, true, true, true, true, true, true, true, true, true, true, true, true, true, true, true, true, true, true, false, false, false, false, false, false, false, false, false, false, false, false, false, false, false, false, false] rfl rfl (one_of HT_.out (by kernel_rfl)) (by decide) (fun K hK => ?_)
                      refine goes_ Tryd.func12 (by kernel_rfl) rfl #[.agg #[.int .i64 3, .int .i64 4, .int .i64 0, .int .i64 3, .int .i64 9], .agg #[.int .i64 t200, .int .i64 t201, .int .i64 t202]] (by rfl) rfl rfl (by (try simp only [List.map_toArray, List.map_cons, List.map_nil]); first | done | rfl | (simp only [List.length_drop, List.length_take]; rfl)) ?_
                      with_reducible refine (place_Is.calls k 3 4 0 3 9 t200 t201 t202 true _ A17.out).mono ?_
                      rintro e w67 ⟨rfl, hb⟩
                      refine ⟨_, rfl, ?_⟩
                      have n0_ := Aside0.mk (blk_below (g := gb180) (o := .cells #[.int .i64 3, .int .i64 4, .int .i64 0, .int .i64 3, .int .i64 9] 23 (0, 0)) (by (with_reducible repeat (first | refine blk_drewN ?_ _ | refine blk_drew ?_ | refine blk_alloc ?_ _)); exact BK180.out) hb)
                      have n1_ := Aside0.mk (blk_below (g := gb190) (o := .cells #[.int .i64 t186, .int .i64 t187, .int .i64 t188] 25 (0, 0)) (by (with_reducible repeat (first | refine blk_drewN ?_ _ | refine blk_drew ?_ | refine blk_alloc ?_ _)); exact BK190.out) hb)
                      have n2_ := Aside0.mk (below_step (by repeat (first | (with_reducible first | exact HB.out | apply below_alloc | apply pw_below_drewN | apply below_drew1 | refine below_set ?_ GE180.out | refine below_set ?_ GE190.out) | exact HB.out)) hb)
                      clear BK180
                      clear BK190
                      clear HB
                      have BK180 := n0_
                      have BK190 := n1_
                      have HB := n2_
                      clear n0_ n1_ n2_
                      (try clear hb)
                      (try clear hb2)
                      (try clear hk)
                      (try clear hi)
                      refine hK.out _ _ ⟨(blk_cell BK190.out 0).trans rfl, (blk_cell BK190.out 1).trans rfl, (blk_cell BK190.out 2).trans rfl, (blk_cell BK180.out 0).trans rfl, (blk_cell BK180.out 1).trans rfl, (blk_cell BK180.out 2).trans rfl, (blk_cell BK180.out 3).trans rfl, (blk_cell BK180.out 4).trans rfl⟩ (fun hHeld => ?_)
                      clear hK K
                      refine norm_ (a' := ?_) ?_ ?_
                      rotate_left
                      · show Act.put _ (some 49) _ = _
                        simp only [Act.put, List.setIfInBounds_toArray, List.set_cons_zero, List.set_cons_succ, i64_w, i32_w]
                        rfl
                      refine pure_ (i := 32) (N := some 50) (v := ?_) (a' := ?_) #[true, true, true, true, true, true, true, true, true, true, true, true, true, true, true, true, true, true, true, true, true, true, true, true, true, true, true, true, true, true, true, true, true, false, false, false, false, false, false, false, false, false, false, false, false, false, false, false, false] rfl rfl (any_of HT_.out (by kernel_rfl)) (fun _ _ _ h => h) (Or.inl ⟨by rfl, ?_⟩) ?_ ?_
                      rotate_left
                      · intro w'
                        go_simp
                        with_reducible rfl
                      rotate_left
                      · simp only [Act.put, List.setIfInBounds_toArray, List.set_cons_zero, List.set_cons_succ, i64_w, i32_w]
                        rfl
                      refine pure_ (i := 33) (N := some 51) (v := ?_) (a' := ?_) #[true, true, true, true, true, true, true, true, true, true, true, true, true, true, true, true, true, true, true, true, true, true, true, true, true, true, true, true, true, true, true, true, true, true, false, false, false, false, false, false, false, false, false, false, false, false, false, false, false] rfl rfl (any_of HT_.out (by kernel_rfl)) (fun _ _ _ h => h) (Or.inl ⟨by rfl, ?_⟩) ?_ ?_
                      rotate_left
                      · intro w'
                        go_simp
                        with_reducible rfl
                      rotate_left
                      · simp only [Act.put, List.setIfInBounds_toArray, List.set_cons_zero, List.set_cons_succ, i64_w, i32_w]
                        rfl
                      refine take_ (i := 34) (N := some 52) (v := ?_) (a' := ?_) #[true, true, true, true, true, true, true, true, true, true, true, true, true, true, true, true, true, true, true, true, true, true, true, true, true, true, true, true, true, true, true, true, true, true, true, false, false, false, false, false, false, false, false, false, false, false, false, false, false] rfl rfl (take_ofW HT_.out HW_.out (by kernel_rfl)) (fun _ _ _ h => h) (Or.inl ⟨by rfl, ?_⟩) hHeld ?_ ?_
                      rotate_left
                      · rintro w' ⟨s0, s1, s2, s3, s4, s5, s6, s7⟩
                        go_simp
                        with_reducible rfl
                      rotate_left
                      · simp only [Act.put, List.setIfInBounds_toArray, List.set_cons_zero, List.set_cons_succ, i64_w, i32_w]
                        rfl
                      refine one_ (i := 35) (N := some 53) #[true, true, true, true, true, true, true, true, true, true, true, true, true, true, true, true, true, true, true, true, true, true, true, true, true, true, true, true, true, true, true, true, true, true, true, true, false, false, false, false, false, false, false, false, false, false, false, false, false] rfl rfl (one_of HT_.out (by kernel_rfl)) (by decide) (fun K hK => ?_)
                      refine goes_ Tryd.func22 (by kernel_rfl) rfl #[.int .i64 3] (by rfl) rfl rfl (by (try simp only [List.map_toArray, List.map_cons, List.map_nil]); first | done | rfl | (simp only [List.length_drop, List.length_take]; rfl)) ?_
                      with_reducible refine (place_Root.calls 3 t204 t205 t206 _ A19.out).mono ?_
                      rintro e w68 ⟨rfl, hb⟩
                      refine ⟨_, rfl, ?_⟩
                      have n0_ := Aside0.mk (blk_below (g := gb180) (o := .cells #[.int .i64 3, .int .i64 4, .int .i64 0, .int .i64 3, .int .i64 9] 23 (0, 0)) (by (with_reducible repeat (first | refine blk_drewN ?_ _ | refine blk_drew ?_ | refine blk_alloc ?_ _)); exact BK180.out) hb)
                      have n1_ := Aside0.mk (blk_below (g := gb190) (o := .cells #[.int .i64 t186, .int .i64 t187, .int .i64 t188] 25 (0, 0)) (by (with_reducible repeat (first | refine blk_drewN ?_ _ | refine blk_drew ?_ | refine blk_alloc ?_ _)); exact BK190.out) hb)
                      have n2_ := Aside0.mk (below_step (by repeat (first | (with_reducible first | exact HB.out | apply below_alloc | apply pw_below_drewN | apply below_drew1 | refine below_set ?_ GE180.out | refine below_set ?_ GE190.out) | exact HB.out)) hb)
                      clear BK180
                      clear BK190
                      clear HB
                      have BK180 := n0_
                      have BK190 := n1_
                      have HB := n2_
                      clear n0_ n1_ n2_
                      (try clear hb)
                      (try clear hb2)
                      (try clear hk)
                      (try clear hi)
                      refine hK.out _ _ ⟨(blk_cell BK190.out 0).trans rfl, (blk_cell BK190.out 1).trans rfl, (blk_cell BK190.out 2).trans rfl, (blk_cell BK180.out 0).trans rfl, (blk_cell BK180.out 1).trans rfl, (blk_cell BK180.out 2).trans rfl, (blk_cell BK180.out 3).trans rfl, (blk_cell BK180.out 4).trans rfl⟩ (fun hHeld => ?_)
                      clear hK K
                      refine norm_ (a' := ?_) ?_ ?_
                      rotate_left
                      · show Act.put _ (some 53) _ = _
                        simp only [Act.put, List.setIfInBounds_toArray, List.set_cons_zero, List.set_cons_succ, i64_w, i32_w]
                        rfl
                      refine one_ (i := 36) (N := some 54) #[true, true, true, true, true, true, true, true, true, true, true, true, true, true, true, true, true, true, true, true, true, true, true, true, true, true, true, true, true, true, true, true, true, true, true, true, true, false, false, false, false, false, false, false, false, false, false, false, false] rfl rfl (one_of HT_.out (by kernel_rfl)) (by decide) (fun K hK => ?_)
                      refine goes_ Tryd.func12 (by kernel_rfl) rfl #[.agg #[.int .i64 3, .int .i64 4, .int .i64 0, .int .i64 3, .int .i64 9], .agg #[.int .i64 t204, .int .i64 t205, .int .i64 t206]] (by rfl) rfl rfl (by (try simp only [List.map_toArray, List.map_cons, List.map_nil]); first | done | rfl | (simp only [List.length_drop, List.length_take]; rfl)) ?_
                      with_reducible refine (place_Is.calls k 3 4 0 3 9 t204 t205 t206 false _ A20.out).mono ?_
                      rintro e w69 ⟨rfl, hb⟩
                      refine ⟨_, rfl, ?_⟩
                      have n0_ := Aside0.mk (blk_below (g := gb180) (o := .cells #[.int .i64 3, .int .i64 4, .int .i64 0, .int .i64 3, .int .i64 9] 23 (0, 0)) (by (with_reducible repeat (first | refine blk_drewN ?_ _ | refine blk_drew ?_ | refine blk_alloc ?_ _)); exact BK180.out) hb)
                      have n1_ := Aside0.mk (blk_below (g := gb190) (o := .cells #[.int .i64 t186, .int .i64 t187, .int .i64 t188] 25 (0, 0)) (by (with_reducible repeat (first | refine blk_drewN ?_ _ | refine blk_drew ?_ | refine blk_alloc ?_ _)); exact BK190.out) hb)
                      have n2_ := Aside0.mk (below_step (by repeat (first | (with_reducible first | exact HB.out | apply below_alloc | apply pw_below_drewN | apply below_drew1 | refine below_set ?_ GE180.out | refine below_set ?_ GE190.out) | exact HB.out)) hb)
                      clear BK180
                      clear BK190
                      clear HB
                      have BK180 := n0_
                      have BK190 := n1_
                      have HB := n2_
                      clear n0_ n1_ n2_
                      (try clear hb)
                      (try clear hb2)
                      (try clear hk)
                      (try clear hi)
                      refine hK.out _ _ ⟨(blk_cell BK190.out 0).trans rfl, (blk_cell BK190.out 1).trans rfl, (blk_cell BK190.out 2).trans rfl, (blk_cell BK180.out 0).trans rfl, (blk_cell BK180.out 1).trans rfl, (blk_cell BK180.out 2).trans rfl, (blk_cell BK180.out 3).trans rfl, (blk_cell BK180.out 4).trans rfl⟩ (fun hHeld => ?_)
                      clear hK K
                      refine norm_ (a' := ?_) ?_ ?_
                      rotate_left
                      · show Act.put _ (some 54) _ = _
                        simp only [Act.put, List.setIfInBounds_toArray, List.set_cons_zero, List.set_cons_succ, i64_w, i32_w]
                        rfl
                      refine pure_ (i := 37) (N := some 55) (v := ?_) (a' := ?_) #[true, true, true, true, true, true, true, true, true, true, true, true, true, true, true, true, true, true, true, true, true, true, true, true, true, true, true, true, true, true, true, true, true, true, true, true, true, true, false, false, false, false, false, false, false, false, false, false, false] rfl rfl (any_of HT_.out (by kernel_rfl)) (fun _ _ _ h => h) (Or.inl ⟨by rfl, ?_⟩) ?_ ?_
                      rotate_left
                      · intro w'
                        go_simp
                        with_reducible rfl
                      rotate_left
                      · simp only [Act.put, List.setIfInBounds_toArray, List.set_cons_zero, List.set_cons_succ, i64_w, i32_w]
                        rfl
                      refine pure_ (i := 38) (N := some 56) (v := ?_) (a' := ?_) #[true, true, true, true, true, true, true, true, true, true, true, true, true, true, true, true, true, true, true, true, true, true, true, true, true, true, true, true, true, true, true, true, true, true, true, true, true, true, true, false, false, false, false, false, false, false, false, false, false] rfl rfl (any_of HT_.out (by kernel_rfl)) (fun _ _ _ h => h) (Or.inl ⟨by rfl, ?_⟩) ?_ ?_
                      rotate_left
                      · intro w'
                        go_simp
                        with_reducible rfl
                      rotate_left
                      · simp only [Act.put, List.setIfInBounds_toArray, List.set_cons_zero, List.set_cons_succ, i64_w, i32_w]
                        rfl
                      refine pure_ (i := 39) (N := some 57) (v := ?_) (a' := ?_) #[true, true, true, true, true, true, true, true, true, true, true, true, true, true, true, true, true, true, true, true, true, true, true, true, true, true, true, true, true, true, true, true, true, true, true, true, true, true, true, true, false, false, false, false, false, false, false, false, false] rfl rfl (any_of HT_.out (by kernel_rfl)) (fun _ _ _ h => h) (Or.inl ⟨by rfl, ?_⟩) ?_ ?_
                      rotate_left
                      · intro w'
                        go_simp
                        with_reducible rfl
                      rotate_left
                      · simp only [Act.put, List.setIfInBounds_toArray, List.set_cons_zero, List.set_cons_succ, i64_w, i32_w]
                        rfl
                      refine take_ (i := 40) (N := some 58) (v := ?_) (a' := ?_) #[true, true, true, true, true, true, true, true, true, true, true, true, true, true, true, true, true, true, true, true, true, true, true, true, true, true, true, true, true, true, true, true, true, true, true, true, true, true, true, true, true, false, false, false, false, false, false, false, false] rfl rfl (take_ofW HT_.out HW_.out (by kernel_rfl)) (fun _ _ _ h => h) (Or.inl ⟨by rfl, ?_⟩) hHeld ?_ ?_
                      rotate_left
                      · rintro w' ⟨s0, s1, s2, s3, s4, s5, s6, s7⟩
                        go_simp
                        with_reducible rfl
                      rotate_left
                      · simp only [Act.put, List.setIfInBounds_toArray, List.set_cons_zero, List.set_cons_succ, i64_w, i32_w]
                        rfl
                      refine one_ (i := 41) (N := some 59) #[true, true, true, true, true, true, true, true, true, true, true, true, true, true, true, true, true, true, true, true, true, true, true, true, true, true, true, true, true, true, true, true, true, true, true, true, true, true, true, true, true, true, false, false, false, false, false, false, false] rfl rfl (one_of HT_.out (by kernel_rfl)) (by decide) (fun K hK => ?_)
                      refine goes_ Tryd.func14 (by kernel_rfl) rfl #[.agg #[.int .i64 t186, .int .i64 t187, .int .i64 t188]] (by rfl) rfl rfl (by (try simp only [List.map_toArray, List.map_cons, List.map_nil]); first | done | rfl | (simp only [List.length_drop, List.length_take]; rfl)) ?_
                      with_reducible refine (place_IsContent.calls t186 t187 t188 true _ A44.out).mono ?_
                      rintro e w70 ⟨rfl, hb⟩
                      refine ⟨_, rfl, ?_⟩
                      have n0_ := Aside0.mk (blk_below (g := gb180) (o := .cells #[.int .i64 3, .int .i64 4, .int .i64 0, .int .i64 3, .int .i64 9] 23 (0, 0)) (by (with_reducible repeat (first | refine blk_drewN ?_ _ | refine blk_drew ?_ | refine blk_alloc ?_ _)); exact BK180.out) hb)
                      have n1_ := Aside0.mk (blk_below (g := gb190) (o := .cells #[.int .i64 t186, .int .i64 t187, .int .i64 t188] 25 (0, 0)) (by (with_reducible repeat (first | refine blk_drewN ?_ _ | refine blk_drew ?_ | refine blk_alloc ?_ _)); exact BK190.out) hb)
                      have n2_ := Aside0.mk (below_step (by repeat (first | (with_reducible first | exact HB.out | apply below_alloc | apply pw_below_drewN | apply below_drew1 | refine below_set ?_ GE180.out | refine below_set ?_ GE190.out) | exact HB.out)) hb)
                      clear BK180
                      clear BK190
                      clear HB
                      have BK180 := n0_
                      have BK190 := n1_
                      have HB := n2_
                      clear n0_ n1_ n2_
                      (try clear hb)
                      (try clear hb2)
                      (try clear hk)
                      (try clear hi)
                      refine hK.out _ _ ⟨(blk_cell BK190.out 0).trans rfl, (blk_cell BK190.out 1).trans rfl, (blk_cell BK190.out 2).trans rfl, (blk_cell BK180.out 0).trans rfl, (blk_cell BK180.out 1).trans rfl, (blk_cell BK180.out 2).trans rfl, (blk_cell BK180.out 3).trans rfl, (blk_cell BK180.out 4).trans rfl⟩ (fun hHeld => ?_)
                      clear hK K
                      refine norm_ (a' := ?_) ?_ ?_
                      rotate_left
                      · show Act.put _ (some 59) _ = _
                        simp only [Act.put, List.setIfInBounds_toArray, List.set_cons_zero, List.set_cons_succ, i64_w, i32_w]
                        rfl
                      refine pure_ (i := 42) (N := some 60) (v := ?_) (a' := ?_) #[true, true, true, true, true, true, true, true, true, true, true, true, true, true, true, true, true, true, true, true, true, true, true, true, true, true, true, true, true, true, true, true, true, true, true, true, true, true, true, true, true, true, true, false, false, false, false, false, false] rfl rfl (any_of HT_.out (by kernel_rfl)) (fun _ _ _ h => h) (Or.inl ⟨by rfl, ?_⟩) ?_ ?_
                      rotate_left
                      · intro w'
                        go_simp
                        with_reducible rfl
                      rotate_left
                      · simp only [Act.put, List.setIfInBounds_toArray, List.set_cons_zero, List.set_cons_succ, i64_w, i32_w]
                        rfl
                      refine pure_ (i := 43) (N := some 61) (v := ?_) (a' := ?_) #[true, true, true, true, true, true, true, true, true, true, true, true, true, true, true, true, true, true, true, true, true, true, true, true, true, true, true, true, true, true, true, true, true, true, true, true, true, true, true, true, true, true, true, true, false, false, false, false, false] rfl rfl (any_of HT_.out (by kernel_rfl)) (fun _ _ _ h => h) (Or.inl ⟨by rfl, ?_⟩) ?_ ?_
                      rotate_left
                      · intro w'
                        go_simp
                        with_reducible rfl
                      rotate_left
                      · simp only [Act.put, List.setIfInBounds_toArray, List.set_cons_zero, List.set_cons_succ, i64_w, i32_w]
                        rfl
                      refine one_ (i := 44) (N := some 62) #[true, true, true, true, true, true, true, true, true, true, true, true, true, true, true, true, true, true, true, true, true, true, true, true, true, true, true, true, true, true, true, true, true, true, true, true, true, true, true, true, true, true, true, true, true, false, false, false, false] rfl rfl (one_of HT_.out (by kernel_rfl)) (by decide) (fun K hK => ?_)
                      refine goes_ Tryd.func23 (by kernel_rfl) rfl #[.int .i64 1, .int .i64 2] (by rfl) rfl rfl (by (try simp only [List.map_toArray, List.map_cons, List.map_nil]); first | done | rfl | (simp only [List.length_drop, List.length_take]; rfl)) ?_
                      with_reducible refine (place_Of.calls 1 2 t209 t210 t211 _ A46.out).mono ?_
                      rintro e w71 ⟨rfl, hb⟩
                      refine ⟨_, rfl, ?_⟩
                      have n0_ := Aside0.mk (blk_below (g := gb180) (o := .cells #[.int .i64 3, .int .i64 4, .int .i64 0, .int .i64 3, .int .i64 9] 23 (0, 0)) (by (with_reducible repeat (first | refine blk_drewN ?_ _ | refine blk_drew ?_ | refine blk_alloc ?_ _)); exact BK180.out) hb)
                      have n1_ := Aside0.mk (blk_below (g := gb190) (o := .cells #[.int .i64 t186, .int .i64 t187, .int .i64 t188] 25 (0, 0)) (by (with_reducible repeat (first | refine blk_drewN ?_ _ | refine blk_drew ?_ | refine blk_alloc ?_ _)); exact BK190.out) hb)
                      have n2_ := Aside0.mk (below_step (by repeat (first | (with_reducible first | exact HB.out | apply below_alloc | apply pw_below_drewN | apply below_drew1 | refine below_set ?_ GE180.out | refine below_set ?_ GE190.out) | exact HB.out)) hb)
                      clear BK180
                      clear BK190
                      clear HB
                      have BK180 := n0_
                      have BK190 := n1_
                      have HB := n2_
                      clear n0_ n1_ n2_
                      (try clear hb)
                      (try clear hb2)
                      (try clear hk)
                      (try clear hi)
                      refine hK.out _ _ ⟨(blk_cell BK190.out 0).trans rfl, (blk_cell BK190.out 1).trans rfl, (blk_cell BK190.out 2).trans rfl, (blk_cell BK180.out 0).trans rfl, (blk_cell BK180.out 1).trans rfl, (blk_cell BK180.out 2).trans rfl, (blk_cell BK180.out 3).trans rfl, (blk_cell BK180.out 4).trans rfl⟩ (fun hHeld => ?_)
                      clear hK K
                      refine norm_ (a' := ?_) ?_ ?_
                      rotate_left
                      · show Act.put _ (some 62) _ = _
                        simp only [Act.put, List.setIfInBounds_toArray, List.set_cons_zero, List.set_cons_succ, i64_w, i32_w]
                        rfl
                      refine one_ (i := 45) (N := some 63) #[true, true, true, true, true, true, true, true, true, true, true, true, true, true, true, true, true, true, true, true, true, true, true, true, true, true, true, true, true, true, true, true, true, true, true, true, true, true, true, true, true, true, true, true, true, true, false, false, false] rfl rfl (one_of HT_.out (by kernel_rfl)) (by decide) (fun K hK => ?_)
                      refine goes_ Tryd.func14 (by kernel_rfl) rfl #[.agg #[.int .i64 t209, .int .i64 t210, .int .i64 t211]] (by rfl) rfl rfl (by (try simp only [List.map_toArray, List.map_cons, List.map_nil]); first | done | rfl | (simp only [List.length_drop, List.length_take]; rfl)) ?_
                      with_reducible refine (place_IsContent.calls t209 t210 t211 t212 _ A47.out).mono ?_
                      rintro e w72 ⟨rfl, hb⟩
                      refine ⟨_, rfl, ?_⟩
                      have n0_ := Aside0.mk (blk_below (g := gb180) (o := .cells #[.int .i64 3, .int .i64 4, .int .i64 0, .int .i64 3, .int .i64 9] 23 (0, 0)) (by (with_reducible repeat (first | refine blk_drewN ?_ _ | refine blk_drew ?_ | refine blk_alloc ?_ _)); exact BK180.out) hb)
                      have n1_ := Aside0.mk (blk_below (g := gb190) (o := .cells #[.int .i64 t186, .int .i64 t187, .int .i64 t188] 25 (0, 0)) (by (with_reducible repeat (first | refine blk_drewN ?_ _ | refine blk_drew ?_ | refine blk_alloc ?_ _)); exact BK190.out) hb)
                      have n2_ := Aside0.mk (below_step (by repeat (first | (with_reducible first | exact HB.out | apply below_alloc | apply pw_below_drewN | apply below_drew1 | refine below_set ?_ GE180.out | refine below_set ?_ GE190.out) | exact HB.out)) hb)
                      clear BK180
                      clear BK190
                      clear HB
                      have BK180 := n0_
                      have BK190 := n1_
                      have HB := n2_
                      clear n0_ n1_ n2_
                      (try clear hb)
                      (try clear hb2)
                      (try clear hk)
                      (try clear hi)
                      refine hK.out _ _ ⟨(blk_cell BK190.out 0).trans rfl, (blk_cell BK190.out 1).trans rfl, (blk_cell BK190.out 2).trans rfl, (blk_cell BK180.out 0).trans rfl, (blk_cell BK180.out 1).trans rfl, (blk_cell BK180.out 2).trans rfl, (blk_cell BK180.out 3).trans rfl, (blk_cell BK180.out 4).trans rfl⟩ (fun hHeld => ?_)
                      clear hK K
                      refine norm_ (a' := ?_) ?_ ?_
                      rotate_left
                      · show Act.put _ (some 63) _ = _
                        simp only [Act.put, List.setIfInBounds_toArray, List.set_cons_zero, List.set_cons_succ, i64_w, i32_w]
                        rfl
                      refine pure_ (i := 46) (N := some 64) (v := ?_) (a' := ?_) #[true, true, true, true, true, true, true, true, true, true, true, true, true, true, true, true, true, true, true, true, true, true, true, true, true, true, true, true, true, true, true, true, true, true, true, true, true, true, true, true, true, true, true, true, true, true, true, false, false] rfl rfl (any_of HT_.out (by kernel_rfl)) (fun _ _ _ h => h) (Or.inl ⟨by rfl, ?_⟩) ?_ ?_
                      rotate_left
                      · intro w'
                        go_simp
                        with_reducible rfl
                      rotate_left
                      · simp only [Act.put, List.setIfInBounds_toArray, List.set_cons_zero, List.set_cons_succ, i64_w, i32_w]
                        rfl
                      refine pure_ (i := 47) (N := some 65) (v := ?_) (a' := ?_) #[true, true, true, true, true, true, true, true, true, true, true, true, true, true, true, true, true, true, true, true, true, true, true, true, true, true, true, true, true, true, true, true, true, true, true, true, true, true, true, true, true, true, true, true, true, true, true, true, false] rfl rfl (any_of HT_.out (by kernel_rfl)) (fun _ _ _ h => h) (Or.inl ⟨by rfl, ?_⟩) ?_ ?_
                      rotate_left
                      · intro w'
                        go_simp
                        with_reducible rfl
                      rotate_left
                      · simp only [Act.put, List.setIfInBounds_toArray, List.set_cons_zero, List.set_cons_succ, i64_w, i32_w]
                        rfl
                      refine pure_ (i := 48) (N := some 0) (v := ?_) (a' := ?_) #[true, true, true, true, true, true, true, true, true, true, true, true, true, true, true, true, true, true, true, true, true, true, true, true, true, true, true, true, true, true, true, true, true, true, true, true, true, true, true, true, true, true, true, true, true, true, true, true, true] rfl rfl (any_of HT_.out (by kernel_rfl)) (fun _ _ _ h => h) (Or.inl ⟨by rfl, ?_⟩) ?_ ?_
                      rotate_left
                      · intro w'
                        go_simp
                        with_reducible rfl
                      rotate_left
                      · simp only [Act.put, List.setIfInBounds_toArray, List.set_cons_zero, List.set_cons_succ, i64_w, i32_w]
                        rfl
                      refine done_ (done_of HT_.out (by kernel_rfl)) ?_
                      try go_wp2
                      go_ret
                      exact ⟨by first | rfl | (simp [errW_none, errW_some] <;> rfl) | (simp [*, errW_none, errW_some] <;> rfl), by repeat (first | (with_reducible first | exact HB.out | apply below_alloc | apply pw_below_drewN | apply below_drew1 | refine below_set ?_ GE180.out | refine below_set ?_ GE190.out) | exact HB.out)⟩
                    · replace c45 := Bool.eq_false_iff.mpr c45
                      subst c45
                      have H1 : (some false) = some r := by rw [if_neg (show ¬ (false = true) by decide)] at H; exact H
                      clear H
                      have H := H1
                      clear H1
                      exact absurd ((Option.some.inj H).trans HR.out) (by decide)
                · replace c18 := Bool.eq_false_iff.mpr c18
                  subst c18
                  have H1 : (some false) = some r := by rw [if_neg (show ¬ (false = true) by decide)] at H; exact H
                  clear H
                  have H := H1
                  clear H1
                  exact absurd ((Option.some.inj H).trans HR.out) (by decide)
              · rw [if_neg c15] at H
                have c15b0 : (t199.toList == ([101, 112, 111, 99, 104] : List UInt8)) = false := beq_eq_false_iff_ne.mpr c15
                have c15b1 : (t199.toList != ([101, 112, 111, 99, 104] : List UInt8)) = true := bne_iff_ne.mpr c15
                exact absurd ((Option.some.inj H).trans HR.out) (by decide)
            · rw [if_neg c12] at H
              have c12b0 : (t195.toList == ([115, 108, 111, 116, 32, 50, 32, 110, 101, 120, 116, 32, 49] : List UInt8)) = false := beq_eq_false_iff_ne.mpr c12
              have c12b1 : (t195.toList != ([115, 108, 111, 116, 32, 50, 32, 110, 101, 120, 116, 32, 49] : List UInt8)) = true := bne_iff_ne.mpr c12
              exact absurd ((Option.some.inj H).trans HR.out) (by decide)
          · rw [if_neg c10] at H
            have c10b0 : (t194 == 46) = false := beq_eq_false_iff_ne.mpr c10
            have c10b1 : (t194 != 46) = true := bne_iff_ne.mpr c10
            exact absurd ((Option.some.inj H).trans HR.out) (by decide)
        · replace c8 := Bool.eq_false_iff.mpr c8
          subst c8
          have H1 : (some false) = some r := by rw [if_neg (show ¬ (false = true) by decide)] at H; exact H
          clear H
          have H := H1
          clear H1
          exact absurd ((Option.some.inj H).trans HR.out) (by decide)
      · rw [if_neg c7] at H
        have c7b0 : (t186 == t191 && (t187 == t192 && (t188 == t193))) = false := by simpa using c7
        (try (have c7b1 : decide (t186 = t191 && (t187 == t192 && (t188 == t193))) = false := by simpa using c7))
        (try (have c7b2 : (t186 == t191 && (t187 == t192 && (t188 == t193))) = false := by simpa using c7))
        (try (have c7b3 : ¬ (t186 = t191 && (t187 == t192 && (t188 == t193))) := by simpa using c7))
        clear c7
        exact absurd ((Option.some.inj H).trans HR.out) (by decide)
    · replace c5 := Bool.eq_false_iff.mpr c5
      subst c5
      have H1 : (some false) = some r := by rw [if_neg (show ¬ (false = true) by decide)] at H; exact H
      clear H
      have H := H1
      clear H1
      exact absurd ((Option.some.inj H).trans HR.out) (by decide)
  · rw [if_neg c4] at H
    have c4b0 : (t184 == 24) = false := beq_eq_false_iff_ne.mpr c4
    have c4b1 : (t184 != 24) = true := bne_iff_ne.mpr c4
    exact absurd ((Option.some.inj H).trans HR.out) (by decide)

theorem revenantlaw05_awake.one : revenantlaw05_awake.f 20 = some true := by decide +kernel
theorem revenantlaw05_awake.det {k : Nat} {r : Bool} (h : revenantlaw05_awake.f k = some r) : r = true := by
  rcases Nat.le_total k 20 with hk | hk
  · exact Option.some.inj ((at_rounds (revenantlaw05_awake.mono) hk h).symm.trans revenantlaw05_awake.one)
  · exact Option.some.inj (h.symm.trans (at_rounds (revenantlaw05_awake.mono) hk revenantlaw05_awake.one))
theorem revenantlaw05_awake.calls (k : Nat) (r : Bool) (w : World) (h : revenantlaw05_awake.f k = some r) :
    Calls Tryd.prog 9 #[] w fun e w' => e = .returned (.bool r) ∧ Below w.heap.size w w' := revenantlaw05_awake.callsT k r w (revenantlaw05_awake.det h) h
end Go.Proofs.YtcncndhoeiaoeaaDoor.PPlaceExact
