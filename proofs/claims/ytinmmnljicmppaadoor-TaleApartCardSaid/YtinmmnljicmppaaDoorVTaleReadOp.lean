import Derived.Test.YtinmmnljicmppaaDoorVTaleF
import Derived.Test.YtinmmnljicmppaaDoorVTalePd
import Derived.Test.YtinmmnljicmppaaDoorVPTaleApartx0
/- Words of this proof. -/
namespace Go.Proofs.YtinmmnljicmppaaDoor.PTaleApart
open Go.RowKit Go.Proofs.YtinmmnljicmppaaDoorW.PrintWords Go.Proofs.YtinmmnljicmppaaDoorW.PrintLast Go.Proofs.YtinmmnljicmppaaDoorW.PrintMore Go.Proofs.YtinmmnljicmppaaDoor.Str
attribute [local go_sem] max2_int min2_int max_two min_two max_three min_three max_four min_four
set_option linter.unusedVariables false
set_option linter.unusedSimpArgs false
mutual
def tale_ReadOp.j1 : Nat → ByteArray → List ByteArray → Int → Int → Int → Int → Int → Int → Int → Int → Int → Option (Int × Int × Int × Int × Int × Int)
 | 0, _, _, _, _, _, _, _, _, _, _, _ => none
 | k + 1, x1, x7, x213000, x213001, x213002, x213003, x213004, x229000, x229001, x229002, x229003 => if 0 < (x7.length : Int) then ((tale_small.f (rdOf ByteArray.empty x7 0)).bind fun t238 => ((tale_Op.f x213000 x213001 x213002 x213003 x213004 t238 x229000 x229001 x229002 x229003).bind fun bt239 => (if bt239.2 = 0 then (if bt239.1.toList = x1.toList then (some (t238, x229000, x229001, x229002, x229003, 0)) else (some (0, 0, 0, 0, 0, 4))) else (some (0, 0, 0, 0, 0, 4))))) else (none)
def tale_ReadOp.j0 : Nat → ByteArray → List ByteArray → Int → Bool → Int → Int → Int → Int → Int → Int → Int → Int → Int → Option (Int × Int × Int × Int × Int × Int)
 | 0, _, _, _, _, _, _, _, _, _, _, _, _, _ => none
 | k + 1, x1, x7, x32, x43, x213000, x213001, x213002, x213003, x213004, x229000, x229001, x229002, x229003 => if x43 = true then (if 3 < (x7.length : Int) then ((tale_number.f (rdOf ByteArray.empty x7 3)).bind fun bt235 => (tale_ReadOp.j1 k x1 x7 x213000 x213001 x213002 x213003 x213004 x229000 x229001 bt235.1 x229003)) else (none)) else (if x32 = 8 then (tale_ReadOp.j1 k x1 x7 x213000 x213001 x213002 x213003 x213004 x229000 0 x229002 x229003) else (tale_ReadOp.j1 k x1 x7 x213000 x213001 x213002 x213003 x213004 x229000 x229001 x229002 x229003))
end
def tale_ReadOp.f (k : Nat) (a0_0 : Int) (a0_1 : Int) (a0_2 : Int) (a0_3 : Int) (a0_4 : Int) (a1 : ByteArray) : Option (Int × Int × Int × Int × Int × Int) := (strings_Split.f a1 (⟨#[32]⟩ : ByteArray)).bind fun t214 => ((some (([(⟨#[]⟩ : ByteArray), (⟨#[]⟩ : ByteArray), (⟨#[]⟩ : ByteArray)] : List ByteArray) : List ByteArray)).bind fun y217 => (if t214.length + y217.length < 8796093022208 then ((some (t214 ++ y217 : List ByteArray)).bind fun y220 => ((tale_names.f).bind fun t223 => (if 1 < (y220.length : Int) then ((slices_Index_string_string.f k t223 (rdOf ByteArray.empty y220 1)).bind fun t227 => (if 2 < (y220.length : Int) then ((tale_number.f (rdOf ByteArray.empty y220 2)).bind fun bt230 => (if (mx t227 0) = 1 then (if a0_0 = 3 then (if 3 < (y220.length : Int) then ((tale_small.f (rdOf ByteArray.empty y220 3)).bind fun t233 => (tale_ReadOp.j1 k a1 y220 a0_0 a0_1 a0_2 a0_3 a0_4 (mx t227 0) bt230.1 0 t233)) else (none)) else (tale_ReadOp.j1 k a1 y220 a0_0 a0_1 a0_2 a0_3 a0_4 (mx t227 0) bt230.1 0 0)) else (if (mx t227 0) = 4 then (tale_ReadOp.j0 k a1 y220 (mx t227 0) ((mx t227 0) == 4) a0_0 a0_1 a0_2 a0_3 a0_4 (mx t227 0) bt230.1 0 0) else (tale_ReadOp.j0 k a1 y220 (mx t227 0) ((mx t227 0) == 5) a0_0 a0_1 a0_2 a0_3 a0_4 (mx t227 0) bt230.1 0 0)))) else (none))) else (none)))) else (none)))
theorem tale_ReadOp.mono_l : ∀ k, (∀ y0 y1 y2 y3 y4 y5 y6 y7 y8 y9 y10, LeO (tale_ReadOp.j1 k y0 y1 y2 y3 y4 y5 y6 y7 y8 y9 y10) (tale_ReadOp.j1 (k + 1) y0 y1 y2 y3 y4 y5 y6 y7 y8 y9 y10)) ∧ (∀ y0 y1 y2 y3 y4 y5 y6 y7 y8 y9 y10 y11 y12, LeO (tale_ReadOp.j0 k y0 y1 y2 y3 y4 y5 y6 y7 y8 y9 y10 y11 y12) (tale_ReadOp.j0 (k + 1) y0 y1 y2 y3 y4 y5 y6 y7 y8 y9 y10 y11 y12))
 | 0 => ⟨fun _ _ _ _ _ _ _ _ _ _ _ r h => by simp [tale_ReadOp.j1] at h, fun _ _ _ _ _ _ _ _ _ _ _ _ _ r h => by simp [tale_ReadOp.j0] at h⟩
 | k + 1 => by
  obtain ⟨ih0, ih1⟩ := tale_ReadOp.mono_l k
  refine ⟨?_, ?_⟩
  ·intro y0 y1 y2 y3 y4 y5 y6 y7 y8 y9 y10
   unfold tale_ReadOp.j1
   repeat' first
   | (with_reducible exact ih0 _ _ _ _ _ _ _ _ _ _ _)
   | (with_reducible exact ih1 _ _ _ _ _ _ _ _ _ _ _ _ _)
   | (with_reducible exact slices_Index_string_string.mono _ _ _)
   | (with_reducible exact LeO.refl _)
   | (with_reducible exact LeO.none _)
   | (with_reducible refine LeO.ite ?_ ?_)
   | (with_reducible refine LeO.bind ?_ (fun _ => ?_))
   | exact ih0 _ _ _ _ _ _ _ _ _ _ _
   | exact ih1 _ _ _ _ _ _ _ _ _ _ _ _ _
   | exact slices_Index_string_string.mono _ _ _
   | exact LeO.none _
   | refine LeO.ite ?_ ?_
   | refine LeO.bind ?_ (fun _ => ?_)
  ·intro y0 y1 y2 y3 y4 y5 y6 y7 y8 y9 y10 y11 y12
   unfold tale_ReadOp.j0
   repeat' first
   | (with_reducible exact ih0 _ _ _ _ _ _ _ _ _ _ _)
   | (with_reducible exact ih1 _ _ _ _ _ _ _ _ _ _ _ _ _)
   | (with_reducible exact slices_Index_string_string.mono _ _ _)
   | (with_reducible exact LeO.refl _)
   | (with_reducible exact LeO.none _)
   | (with_reducible refine LeO.ite ?_ ?_)
   | (with_reducible refine LeO.bind ?_ (fun _ => ?_))
   | exact ih0 _ _ _ _ _ _ _ _ _ _ _
   | exact ih1 _ _ _ _ _ _ _ _ _ _ _ _ _
   | exact slices_Index_string_string.mono _ _ _
   | exact LeO.none _
   | refine LeO.ite ?_ ?_
   | refine LeO.bind ?_ (fun _ => ?_)
theorem tale_ReadOp.mono : ∀ a0 a1 a2 a3 a4 a5 k, LeO (tale_ReadOp.f k a0 a1 a2 a3 a4 a5) (tale_ReadOp.f (k + 1) a0 a1 a2 a3 a4 a5) := by
 intro a0 a1 a2 a3 a4 a5 k
 obtain ⟨ih0, ih1⟩ := tale_ReadOp.mono_l k
 unfold tale_ReadOp.f
 repeat' first
   | (with_reducible exact ih0 _ _ _ _ _ _ _ _ _ _ _)
   | (with_reducible exact ih1 _ _ _ _ _ _ _ _ _ _ _ _ _)
   | (with_reducible exact slices_Index_string_string.mono _ _ _)
   | (with_reducible exact LeO.refl _)
   | (with_reducible exact LeO.none _)
   | (with_reducible refine LeO.ite ?_ ?_)
   | (with_reducible refine LeO.bind ?_ (fun _ => ?_))
   | exact ih0 _ _ _ _ _ _ _ _ _ _ _
   | exact ih1 _ _ _ _ _ _ _ _ _ _ _ _ _
   | exact slices_Index_string_string.mono _ _ _
   | exact LeO.none _
   | refine LeO.ite ?_ ?_
   | refine LeO.bind ?_ (fun _ => ?_)
def tale_ReadOp.T2 : Bool × List (List Nat × List Nat) := (true, [([], []), ([], []), ([1], [1]), ([2], [2]), ([0, 3, 0], [0, 3]), ([4], [4]), ([5], [5]), ([], []), ([7, 6, 4, 0, 1, 2, 3, 4, 5, 6, 7], [6, 7])])
def tale_ReadOp.B2 : List Nat := [0, 0, 2, 6, 15, 31, 63, 0, 255]
theorem tale_ReadOp.tab2 : rtab .any (opsOf Tryd.f12 2) = tale_ReadOp.T2 := by kernel_rfl
theorem tale_ReadOp.bits2 : waitsOk tale_ReadOp.T2.2 tale_ReadOp.B2 = true := by kernel_rfl
set_option maxHeartbeats 8000000 in
set_option maxRecDepth 100000 in
theorem tale_ReadOp.calls (k : Nat) (a0_0 : Int) (a0_1 : Int) (a0_2 : Int) (a0_3 : Int) (a0_4 : Int) (a1 : ByteArray) (r1 : Int) (r2 : Int) (r3 : Int) (r4 : Int) (r5 : Int) (r6 : Int) (w : World) (h : tale_ReadOp.f k a0_0 a0_1 a0_2 a0_3 a0_4 a1 = some (r1, r2, r3, r4, r5, r6)) {w0 : World} (ht0 : WT w0) (hb0 : Below w0.heap.size w0 w) :
  Calls Tryd.prog 12 #[.agg #[.int .i64 a0_0, .int .i64 a0_1, .int .i64 a0_2, .int .i64 a0_3, .int .i64 a0_4], .string a1] w fun e w' => e = .returned (.tuple #[.int .i64 r1, .agg #[.int .i64 r2, .int .u64 r3, .int .u64 r4, .int .i64 r5], .int .i64 r6]) ∧ Below w.heap.size w w' := by
 have hu31 := Tryd.underlying31
 have hu33 := Tryd.underlying33
 have HTT := Aside0.mk (WT.below ht0 hb0)
 clear ht0 hb0
 have HB := Aside0.mk (Below.refl w.heap.size w)
 have H : ((strings_Split.f a1 (⟨#[32]⟩ : ByteArray)).bind fun t214 => ((some (([(⟨#[]⟩ : ByteArray), (⟨#[]⟩ : ByteArray), (⟨#[]⟩ : ByteArray)] : List ByteArray) : List ByteArray)).bind fun y217 => (if t214.length + y217.length < 8796093022208 then ((some (t214 ++ y217 : List ByteArray)).bind fun y220 => ((tale_names.f).bind fun t223 => (if 1 < (y220.length : Int) then ((slices_Index_string_string.f k t223 (rdOf ByteArray.empty y220 1)).bind fun t227 => (if 2 < (y220.length : Int) then ((tale_number.f (rdOf ByteArray.empty y220 2)).bind fun bt230 => (if (mx t227 0) = 1 then (if a0_0 = 3 then (if 3 < (y220.length : Int) then ((tale_small.f (rdOf ByteArray.empty y220 3)).bind fun t233 => (tale_ReadOp.j1 k a1 y220 a0_0 a0_1 a0_2 a0_3 a0_4 (mx t227 0) bt230.1 0 t233)) else (none)) else (tale_ReadOp.j1 k a1 y220 a0_0 a0_1 a0_2 a0_3 a0_4 (mx t227 0) bt230.1 0 0)) else (if (mx t227 0) = 4 then (tale_ReadOp.j0 k a1 y220 (mx t227 0) ((mx t227 0) == 4) a0_0 a0_1 a0_2 a0_3 a0_4 (mx t227 0) bt230.1 0 0) else (tale_ReadOp.j0 k a1 y220 (mx t227 0) ((mx t227 0) == 5) a0_0 a0_1 a0_2 a0_3 a0_4 (mx t227 0) bt230.1 0 0)))) else (none))) else (none)))) else (none)))) = some (r1, r2, r3, r4, r5, r6) := h
 clear h
 replace H := Option.bind_eq_some_iff.mp H
 obtain ⟨t214, A30, H⟩ := H
 replace H : ((some (([(⟨#[]⟩ : ByteArray), (⟨#[]⟩ : ByteArray), (⟨#[]⟩ : ByteArray)] : List ByteArray) : List ByteArray)).bind fun y217 => (if t214.length + y217.length < 8796093022208 then ((some (t214 ++ y217 : List ByteArray)).bind fun y220 => ((tale_names.f).bind fun t223 => (if 1 < (y220.length : Int) then ((slices_Index_string_string.f k t223 (rdOf ByteArray.empty y220 1)).bind fun t227 => (if 2 < (y220.length : Int) then ((tale_number.f (rdOf ByteArray.empty y220 2)).bind fun bt230 => (if (mx t227 0) = 1 then (if a0_0 = 3 then (if 3 < (y220.length : Int) then ((tale_small.f (rdOf ByteArray.empty y220 3)).bind fun t233 => (tale_ReadOp.j1 k a1 y220 a0_0 a0_1 a0_2 a0_3 a0_4 (mx t227 0) bt230.1 0 t233)) else (none)) else (tale_ReadOp.j1 k a1 y220 a0_0 a0_1 a0_2 a0_3 a0_4 (mx t227 0) bt230.1 0 0)) else (if (mx t227 0) = 4 then (tale_ReadOp.j0 k a1 y220 (mx t227 0) ((mx t227 0) == 4) a0_0 a0_1 a0_2 a0_3 a0_4 (mx t227 0) bt230.1 0 0) else (tale_ReadOp.j0 k a1 y220 (mx t227 0) ((mx t227 0) == 5) a0_0 a0_1 a0_2 a0_3 a0_4 (mx t227 0) bt230.1 0 0)))) else (none))) else (none)))) else (none))) = some (r1, r2, r3, r4, r5, r6) := H
 have A3 := Aside0.mk A30
 clear A30
 obtain ⟨y217, hy217⟩ : ∃ y_ : List ByteArray, y_ = (([(⟨#[]⟩ : ByteArray), (⟨#[]⟩ : ByteArray), (⟨#[]⟩ : ByteArray)] : List ByteArray)) := ⟨_, rfl⟩
 replace H : (if t214.length + y217.length < 8796093022208 then ((some (t214 ++ y217 : List ByteArray)).bind fun y220 => ((tale_names.f).bind fun t223 => (if 1 < (y220.length : Int) then ((slices_Index_string_string.f k t223 (rdOf ByteArray.empty y220 1)).bind fun t227 => (if 2 < (y220.length : Int) then ((tale_number.f (rdOf ByteArray.empty y220 2)).bind fun bt230 => (if (mx t227 0) = 1 then (if a0_0 = 3 then (if 3 < (y220.length : Int) then ((tale_small.f (rdOf ByteArray.empty y220 3)).bind fun t233 => (tale_ReadOp.j1 k a1 y220 a0_0 a0_1 a0_2 a0_3 a0_4 (mx t227 0) bt230.1 0 t233)) else (none)) else (tale_ReadOp.j1 k a1 y220 a0_0 a0_1 a0_2 a0_3 a0_4 (mx t227 0) bt230.1 0 0)) else (if (mx t227 0) = 4 then (tale_ReadOp.j0 k a1 y220 (mx t227 0) ((mx t227 0) == 4) a0_0 a0_1 a0_2 a0_3 a0_4 (mx t227 0) bt230.1 0 0) else (tale_ReadOp.j0 k a1 y220 (mx t227 0) ((mx t227 0) == 5) a0_0 a0_1 a0_2 a0_3 a0_4 (mx t227 0) bt230.1 0 0)))) else (none))) else (none)))) else (none)) = some (r1, r2, r3, r4, r5, r6) := by first | (rw [hy217]; with_reducible exact H) | (have H2_ := (Option.bind_some _ _).symm.trans H; rw [hy217]; with_reducible exact H2_) | (have H2_ := (Option.bind_some _ _).symm.trans H; with_reducible exact H2_) | with_reducible exact H | (rw [hy217]; exact H) | exact H
 have Ny217 := Aside0.mk hy217
 clear hy217
 by_cases c4 : t214.length + y217.length < 8796093022208
 ·rw [if_pos c4] at H
  have LMc4 := Aside0.mk c4
  clear c4
  obtain ⟨y220, hy220⟩ : ∃ y_ : List ByteArray, y_ = (t214 ++ y217) := ⟨_, rfl⟩
  replace H : ((tale_names.f).bind fun t223 => (if 1 < (y220.length : Int) then ((slices_Index_string_string.f k t223 (rdOf ByteArray.empty y220 1)).bind fun t227 => (if 2 < (y220.length : Int) then ((tale_number.f (rdOf ByteArray.empty y220 2)).bind fun bt230 => (if (mx t227 0) = 1 then (if a0_0 = 3 then (if 3 < (y220.length : Int) then ((tale_small.f (rdOf ByteArray.empty y220 3)).bind fun t233 => (tale_ReadOp.j1 k a1 y220 a0_0 a0_1 a0_2 a0_3 a0_4 (mx t227 0) bt230.1 0 t233)) else (none)) else (tale_ReadOp.j1 k a1 y220 a0_0 a0_1 a0_2 a0_3 a0_4 (mx t227 0) bt230.1 0 0)) else (if (mx t227 0) = 4 then (tale_ReadOp.j0 k a1 y220 (mx t227 0) ((mx t227 0) == 4) a0_0 a0_1 a0_2 a0_3 a0_4 (mx t227 0) bt230.1 0 0) else (tale_ReadOp.j0 k a1 y220 (mx t227 0) ((mx t227 0) == 5) a0_0 a0_1 a0_2 a0_3 a0_4 (mx t227 0) bt230.1 0 0)))) else (none))) else (none))) = some (r1, r2, r3, r4, r5, r6) := by first | (rw [hy220]; with_reducible exact H) | (have H2_ := (Option.bind_some _ _).symm.trans H; rw [hy220]; with_reducible exact H2_) | (have H2_ := (Option.bind_some _ _).symm.trans H; with_reducible exact H2_) | with_reducible exact H | (rw [hy220]; exact H) | exact H
  have Ny220 := Aside0.mk hy220
  clear hy220
  replace H := Option.bind_eq_some_iff.mp H
  obtain ⟨t223, A50, H⟩ := H
  replace H : (if 1 < (y220.length : Int) then ((slices_Index_string_string.f k t223 (rdOf ByteArray.empty y220 1)).bind fun t227 => (if 2 < (y220.length : Int) then ((tale_number.f (rdOf ByteArray.empty y220 2)).bind fun bt230 => (if (mx t227 0) = 1 then (if a0_0 = 3 then (if 3 < (y220.length : Int) then ((tale_small.f (rdOf ByteArray.empty y220 3)).bind fun t233 => (tale_ReadOp.j1 k a1 y220 a0_0 a0_1 a0_2 a0_3 a0_4 (mx t227 0) bt230.1 0 t233)) else (none)) else (tale_ReadOp.j1 k a1 y220 a0_0 a0_1 a0_2 a0_3 a0_4 (mx t227 0) bt230.1 0 0)) else (if (mx t227 0) = 4 then (tale_ReadOp.j0 k a1 y220 (mx t227 0) ((mx t227 0) == 4) a0_0 a0_1 a0_2 a0_3 a0_4 (mx t227 0) bt230.1 0 0) else (tale_ReadOp.j0 k a1 y220 (mx t227 0) ((mx t227 0) == 5) a0_0 a0_1 a0_2 a0_3 a0_4 (mx t227 0) bt230.1 0 0)))) else (none))) else (none)) = some (r1, r2, r3, r4, r5, r6) := H
  have A5 := Aside0.mk A50
  clear A50
  by_cases c6 : 1 < (y220.length : Int)
  ·rw [if_pos c6] at H
   have c6b0 : decide (1 < (y220.length : Int)) = true := decide_eq_true c6
   have c6b1 : decide (1 < y220.length) = true := decide_eq_true (by omega)
   clear c6
   replace H := Option.bind_eq_some_iff.mp H
   obtain ⟨t227, A70, H⟩ := H
   replace H : (if 2 < (y220.length : Int) then ((tale_number.f (rdOf ByteArray.empty y220 2)).bind fun bt230 => (if (mx t227 0) = 1 then (if a0_0 = 3 then (if 3 < (y220.length : Int) then ((tale_small.f (rdOf ByteArray.empty y220 3)).bind fun t233 => (tale_ReadOp.j1 k a1 y220 a0_0 a0_1 a0_2 a0_3 a0_4 (mx t227 0) bt230.1 0 t233)) else (none)) else (tale_ReadOp.j1 k a1 y220 a0_0 a0_1 a0_2 a0_3 a0_4 (mx t227 0) bt230.1 0 0)) else (if (mx t227 0) = 4 then (tale_ReadOp.j0 k a1 y220 (mx t227 0) ((mx t227 0) == 4) a0_0 a0_1 a0_2 a0_3 a0_4 (mx t227 0) bt230.1 0 0) else (tale_ReadOp.j0 k a1 y220 (mx t227 0) ((mx t227 0) == 5) a0_0 a0_1 a0_2 a0_3 a0_4 (mx t227 0) bt230.1 0 0)))) else (none)) = some (r1, r2, r3, r4, r5, r6) := H
   have A7 := Aside0.mk A70
   clear A70
   obtain ⟨ji8, hji8⟩ : ∃ j_ : Int, (mx t227 0) = j_ := ⟨_, rfl⟩
   replace H : (if 2 < (y220.length : Int) then ((tale_number.f (rdOf ByteArray.empty y220 2)).bind fun bt230 => (if (ji8) = 1 then (if a0_0 = 3 then (if 3 < (y220.length : Int) then ((tale_small.f (rdOf ByteArray.empty y220 3)).bind fun t233 => (tale_ReadOp.j1 k a1 y220 a0_0 a0_1 a0_2 a0_3 a0_4 ji8 bt230.1 0 t233)) else (none)) else (tale_ReadOp.j1 k a1 y220 a0_0 a0_1 a0_2 a0_3 a0_4 ji8 bt230.1 0 0)) else (if (ji8) = 4 then (tale_ReadOp.j0 k a1 y220 ji8 ((ji8) == 4) a0_0 a0_1 a0_2 a0_3 a0_4 ji8 bt230.1 0 0) else (tale_ReadOp.j0 k a1 y220 ji8 ((ji8) == 5) a0_0 a0_1 a0_2 a0_3 a0_4 ji8 bt230.1 0 0)))) else (none)) = some (r1, r2, r3, r4, r5, r6) := by first | (rw [hji8] at H; exact H) | (simp only [hji8] at H ⊢; exact H)
   (try rw [hji8] at A3)
   (try rw [hji8] at A5)
   (try rw [hji8] at A7)
   (try (have hji8l : 0 ≤ ji8 := by (rw [← hji8]; unfold mx; (repeat' split) <;> omega)))
   (try (have hji8m : 0 ≤ ji8 := by omega))
   have hji8_ : (if t227 < 0 then 0 else t227) = ji8 := hji8
   by_cases c9 : 2 < (y220.length : Int)
   ·rw [if_pos c9] at H
    have c9b0 : decide (2 < (y220.length : Int)) = true := decide_eq_true c9
    have c9b1 : decide (2 < y220.length) = true := decide_eq_true (by omega)
    clear c9
    replace H := Option.bind_eq_some_iff.mp H
    obtain ⟨⟨t230, t231⟩, A100, H⟩ := H
    replace H : (if (ji8) = 1 then (if a0_0 = 3 then (if 3 < (y220.length : Int) then ((tale_small.f (rdOf ByteArray.empty y220 3)).bind fun t233 => (tale_ReadOp.j1 k a1 y220 a0_0 a0_1 a0_2 a0_3 a0_4 ji8 t230 0 t233)) else (none)) else (tale_ReadOp.j1 k a1 y220 a0_0 a0_1 a0_2 a0_3 a0_4 ji8 t230 0 0)) else (if (ji8) = 4 then (tale_ReadOp.j0 k a1 y220 ji8 ((ji8) == 4) a0_0 a0_1 a0_2 a0_3 a0_4 ji8 t230 0 0) else (tale_ReadOp.j0 k a1 y220 ji8 ((ji8) == 5) a0_0 a0_1 a0_2 a0_3 a0_4 ji8 t230 0 0))) = some (r1, r2, r3, r4, r5, r6) := H
    have A10 := Aside0.mk A100
    clear A100
    have HC11 := Aside0.mk H
    clear H
    go_enter Tryd.func12, Tryd.ntmps12
    try go_wp2_with (first | ((with_reducible refine gate_dst (N := 2) rfl ?_); refine box_event ?hg (N := 2) ?hd (cs := #[.int .i64 a0_0, .int .i64 a0_1, .int .i64 a0_2, .int .i64 a0_3, .int .i64 a0_4]) (t := 31) ?hr ?_; (case hd => rfl); (case hg => rfl); (case hr => first | (go_simp; done) | (go_simp; rfl)); intro gb212 hg w12 hbox hb; have n0_ := Aside0.mk (below_step (by repeat (first | (with_reducible first | exact HB.out | apply below_alloc | apply pw_below_drewN | apply below_drew1) | exact HB.out)) hb); have n1_ := Aside0.mk (hbox); have n2_ := Aside0.mk ((by rw [hg]; exact (below_size (by repeat (first | (with_reducible first | exact HB.out | apply below_alloc | apply pw_below_drewN | apply below_drew1) | exact HB.out))) : w.heap.size ≤ gb212)); have n3_ := Aside0.mk ((by rw [hg]; exact (below_size (by repeat (first | (with_reducible first | exact HB.out | apply below_alloc | apply pw_below_drewN | apply below_drew1) | exact HB.out))) : w.heap.size ≤ gb212)); clear HB; have HB := n0_; have BK212 := n1_; have GW212 := n2_; have GE212 := n3_; clear n0_ n1_ n2_ n3_; clear hb hbox hg) | ((with_reducible refine gate_dst (N := 5) rfl ?_); refine box_event ?hg (N := 5) ?hd (cs := #[.int .i64 0, .int .u64 0, .int .u64 0, .int .i64 0]) (t := 33) ?hr ?_; (case hd => rfl); (case hg => rfl); (case hr => first | (go_simp; done) | (go_simp; rfl)); intro gb213 hg w13 hbox hb; have n0_ := Aside0.mk (blk_below (g := gb212) (o := .cells #[.int .i64 a0_0, .int .i64 a0_1, .int .i64 a0_2, .int .i64 a0_3, .int .i64 a0_4] 31 (0, 0)) (by (with_reducible repeat (first | refine blk_drewN ?_ _ | refine blk_drew ?_ | refine blk_alloc ?_ _)); exact BK212.out) hb); have n1_ := Aside0.mk (below_step (by repeat (first | (with_reducible first | exact HB.out | apply below_alloc | apply pw_below_drewN | apply below_drew1 | refine below_set ?_ GE212.out) | exact HB.out)) hb); have n2_ := Aside0.mk (hbox); have n3_ := Aside0.mk ((by rw [hg]; exact (below_size (by repeat (first | (with_reducible first | exact HB.out | apply below_alloc | apply pw_below_drewN | apply below_drew1 | refine below_set ?_ GE212.out) | exact HB.out))) : w.heap.size ≤ gb213)); have n4_ := Aside0.mk ((by rw [hg]; exact (below_size (by repeat (first | (with_reducible first | exact HB.out | apply below_alloc | apply pw_below_drewN | apply below_drew1 | refine below_set ?_ GE212.out) | exact HB.out))) : w.heap.size ≤ gb213)); have n5_ := Aside0.mk ((by rw [hg]; exact Nat.ne_of_lt (blk_lt (g := gb212) (o := .cells #[.int .i64 a0_0, .int .i64 a0_1, .int .i64 a0_2, .int .i64 a0_3, .int .i64 a0_4] 31 (0, 0)) (by (with_reducible repeat (first | refine blk_drewN ?_ _ | refine blk_drew ?_ | refine blk_alloc ?_ _)); exact BK212.out)) : gb212 ≠ gb213)); have n6_ := Aside0.mk ((by rw [hg]; exact Nat.ne_of_gt (blk_lt (g := gb212) (o := .cells #[.int .i64 a0_0, .int .i64 a0_1, .int .i64 a0_2, .int .i64 a0_3, .int .i64 a0_4] 31 (0, 0)) (by (with_reducible repeat (first | refine blk_drewN ?_ _ | refine blk_drew ?_ | refine blk_alloc ?_ _)); exact BK212.out)) : gb213 ≠ gb212)); clear BK212; clear HB; have BK212 := n0_; have HB := n1_; have BK213 := n2_; have GW213 := n3_; have GE213 := n4_; have NB212_213 := n5_; have NB213_212 := n6_; clear n0_ n1_ n2_ n3_ n4_ n5_ n6_; clear hb hbox hg) | ((with_reducible refine gate_callee (f := 26) rfl ?_); refine goesL_ (some 13) rfl rfl Tryd.func26 (by kernel_rfl) rfl #[.string a1, .string (⟨#[32]⟩ : ByteArray)] rfl (by (try simp only [List.map_toArray, List.map_cons, List.map_nil]); first | done | rfl | (simp only [List.length_drop, List.length_take]; rfl)) ?_; (with_reducible refine (strings_Split.calls a1 (⟨#[32]⟩ : ByteArray) t214 _ A3.out HTT.out (by repeat (first | (with_reducible first | exact HB.out | apply below_alloc | apply pw_below_drewN | apply below_drew1 | refine below_set ?_ GE212.out | refine below_set ?_ GE213.out) | exact HB.out))).mono ?_); rintro e w14 ⟨v215, rfl, ho0, hb⟩; refine ⟨_, rfl, ?_⟩; have n0_ := Aside0.mk (Kd.R_lower ho0 (below_size (by repeat (first | (with_reducible first | exact HB.out | apply below_alloc | apply pw_below_drewN | apply below_drew1 | refine below_set ?_ GE212.out | refine below_set ?_ GE213.out) | exact HB.out)))); have n1_ := Aside0.mk (blk_below (g := gb212) (o := .cells #[.int .i64 a0_0, .int .i64 a0_1, .int .i64 a0_2, .int .i64 a0_3, .int .i64 a0_4] 31 (0, 0)) (by (with_reducible repeat (first | refine blk_drewN ?_ _ | refine blk_drew ?_ | refine blk_alloc ?_ _)); exact BK212.out) hb); have n2_ := Aside0.mk (blk_below (g := gb213) (o := .cells #[.int .i64 0, .int .u64 0, .int .u64 0, .int .i64 0] 33 (0, 0)) (by (with_reducible repeat (first | refine blk_drewN ?_ _ | refine blk_drew ?_ | refine blk_alloc ?_ _)); exact BK213.out) hb); have n3_ := Aside0.mk (below_step (by repeat (first | (with_reducible first | exact HB.out | apply below_alloc | apply pw_below_drewN | apply below_drew1 | refine below_set ?_ GE212.out | refine below_set ?_ GE213.out) | exact HB.out)) hb); clear BK212; clear BK213; clear HB; have HO216 := n0_; have BK212 := n1_; have BK213 := n2_; have HB := n3_; clear n0_ n1_ n2_ n3_; (try clear hb); (try clear hb2); (try clear hk); (try clear hi); (try clear ho0)) | ((with_reducible refine gate_dst (N := 14) rfl ?_); refine Kd.R_lit Kd.string _ 9 ?hg (N := 14) ?hd (xs := ([(⟨#[]⟩ : ByteArray), (⟨#[]⟩ : ByteArray), (⟨#[]⟩ : ByteArray)] : List ByteArray)) (inner := [.string (⟨#[]⟩ : ByteArray), .string (⟨#[]⟩ : ByteArray), .string (⟨#[]⟩ : ByteArray)]) (ok := fun _ => True) (okp := fun _ => True) ?hr ?hp (fun _ hk => hk) trivial (Below.refl _ _) (Nat.le_refl _) (by simp) ?_; (case hd => rfl); (case hg => rfl); (case hr => first | (go_simp; done) | (go_simp; rfl)); (case hp => exact (Reps.one (show Kd.M Kd.string _ _ _ (⟨#[]⟩ : ByteArray) [.string (⟨#[]⟩ : ByteArray)] from rfl) (Reps.one (show Kd.M Kd.string _ _ _ (⟨#[]⟩ : ByteArray) [.string (⟨#[]⟩ : ByteArray)] from rfl) (Reps.one (show Kd.M Kd.string _ _ _ (⟨#[]⟩ : ByteArray) [.string (⟨#[]⟩ : ByteArray)] from rfl) (Reps.none _ _))))); intro v218 w15 ho16 hb hg_ hnew_; clear hg_ hnew_; (first | rw [← Ny217.out] at ho16 | (simp only [Int.reduceToNat] at ho16; rw [← Ny217.out] at ho16)); have n0_ := Aside0.mk (Kd.R_elder' (by (with_reducible repeat (first | apply Kd.R_alloc | apply Kd.R_drewN | apply Kd.R_drew)); exact HO216.out) (Kd.R_base ho16) hb); have n1_ := Aside0.mk (Kd.R_lower (Kd.R_new' ho16 (Kd.R_lt (by (with_reducible repeat (first | apply Kd.R_alloc | apply Kd.R_drewN | apply Kd.R_drew)); exact HO216.out))) (below_size (by repeat (first | (with_reducible first | exact HB.out | apply below_alloc | apply pw_below_drewN | apply below_drew1 | refine below_set ?_ GE212.out | refine below_set ?_ GE213.out) | exact HB.out)))); have n2_ := Aside0.mk (blk_below (g := gb212) (o := .cells #[.int .i64 a0_0, .int .i64 a0_1, .int .i64 a0_2, .int .i64 a0_3, .int .i64 a0_4] 31 (0, 0)) (by (with_reducible repeat (first | refine blk_drewN ?_ _ | refine blk_drew ?_ | refine blk_alloc ?_ _)); exact BK212.out) hb); have n3_ := Aside0.mk (blk_below (g := gb213) (o := .cells #[.int .i64 0, .int .u64 0, .int .u64 0, .int .i64 0] 33 (0, 0)) (by (with_reducible repeat (first | refine blk_drewN ?_ _ | refine blk_drew ?_ | refine blk_alloc ?_ _)); exact BK213.out) hb); have n4_ := Aside0.mk (below_step (by repeat (first | (with_reducible first | exact HB.out | apply below_alloc | apply pw_below_drewN | apply below_drew1 | refine below_set ?_ GE212.out | refine below_set ?_ GE213.out) | exact HB.out)) hb); clear HO216; clear BK212; clear BK213; clear HB; have HO216 := n0_; have HO219 := n1_; have BK212 := n2_; have BK213 := n3_; have HB := n4_; clear n0_ n1_ n2_ n3_ n4_; clear hb ho16; obtain ⟨Ao18, co18, eo18⟩ := Kd.R_slice HO219.out; subst eo18) | ((with_reducible refine gate_builtin (b := .append) (xs := #[.tmp 13, .tmp 14]) rfl ?_); at_builtin; refine Kd.R_append_rows Kd.string (w0 := w) w.heap.size rfl (.tmp 13) (.tmp 14) 55 9 (.string ⟨#[]⟩) 16 rfl Tryd.underlying55 info9 rfl (by decide) (by omega) v215 t214 y217 _ _ _ (fun k_ => some k_ ≠ (.slice Ao18 y217.length co18 : Value).ownBlock) (fun _ => False) rfl rfl ?aO ?aR (fun _ _ h => h) (fun _ h => h.elim) ?aF ?aB ?aS ?aL ?_; (case aR => repeat (first | exact (Kd.R_reads' HO219.out).2.2 | (with_reducible refine Kd.C_alloc ?_ _) | (with_reducible refine Kd.C_drewN ?_ _) | (with_reducible refine Kd.C_drew ?_))); (case aB => exact (by repeat (first | (with_reducible first | exact HB.out | apply below_alloc | apply pw_below_drewN | apply below_drew1 | refine below_set ?_ GE212.out | refine below_set ?_ GE213.out) | exact HB.out))); (case aF => exact (fun k_ hk => Kd.fresh' (Kd.R_lt (by (with_reducible repeat (first | apply Kd.R_alloc | apply Kd.R_drewN | apply Kd.R_drew)); exact HO219.out)) k_ hk)); (case aO => exact (by (with_reducible repeat (first | apply Kd.R_alloc | apply Kd.R_drewN | apply Kd.R_drew)); exact Kd.R_mono HO216.out (fun _ hk => hk.2))); (case aS => exact (below_size (by repeat (first | (with_reducible first | exact HB.out | apply below_alloc | apply pw_below_drewN | apply below_drew1 | refine below_set ?_ GE212.out | refine below_set ?_ GE213.out) | exact HB.out)))); (case aL => have := LMc4.out; omega); intro v221 w17 ho hb hg hat; rw [← Ny220.out] at ho; have n0_ := Aside0.mk (blk_grown (g := gb212) (o := .cells #[.int .i64 a0_0, .int .i64 a0_1, .int .i64 a0_2, .int .i64 a0_3, .int .i64 a0_4] 31 (0, 0)) (by (with_reducible repeat (first | refine blk_drewN ?_ _ | refine blk_drew ?_ | refine blk_alloc ?_ _)); exact BK212.out) hg (Kd.R_ne HO216.out BK212.out (by decide))); have n1_ := Aside0.mk (blk_grown (g := gb213) (o := .cells #[.int .i64 0, .int .u64 0, .int .u64 0, .int .i64 0] 33 (0, 0)) (by (with_reducible repeat (first | refine blk_drewN ?_ _ | refine blk_drew ?_ | refine blk_alloc ?_ _)); exact BK213.out) hg (Kd.R_ne HO216.out BK213.out (by decide))); have n2_ := Aside0.mk (Kd.R_after (ok := (fun _ => True)) (by (with_reducible repeat (first | apply Kd.R_alloc | apply Kd.R_drewN | apply Kd.R_drew)); exact HO219.out) hg hat); have n3_ := Aside0.mk (hb); have n4_ := Aside0.mk (ho); clear BK212; clear BK213; clear HO219; clear HB; clear HO216; have BK212 := n0_; have BK213 := n1_; have HO219 := n2_; have HB := n3_; have HO222 := n4_; clear n0_ n1_ n2_ n3_ n4_; clear ho hb hg hat))
    have n0_ := Aside0.mk (Kd.R_drew HO219.out)
    have n1_ := Aside0.mk (Kd.R_drew HO222.out)
    have n2_ := Aside0.mk (blk_drew BK212.out)
    have n3_ := Aside0.mk (blk_drew BK213.out)
    have n4_ := Aside0.mk (below_drew1 HB.out)
    clear HO219
    clear HO222
    clear BK212
    clear BK213
    clear HB
    have HO219 := n0_
    have HO222 := n1_
    have BK212 := n2_
    have BK213 := n3_
    have HB := n4_
    clear n0_ n1_ n2_ n3_ n4_
    obtain ⟨Ao20, co20, eo20⟩ := Kd.R_slice HO222.out
    (first | subst eo20 | (injection eo20 with f1_ f2_ f3_; have f4_ := f1_.symm; have f5_ := f3_.symm; clear f1_ f2_ f3_; subst f4_; subst f5_))
    have p226 : 0 ≤ (1 : Int) := (by omega)
    have q226 : 1 < (y220.length : Int) := of_decide_eq_true (by first | (with_reducible assumption) | assumption)
    obtain ⟨ad226, e226, hx226_0⟩ := Kd.at_string (Kd.R_reads' HO222.out).2.2 1 p226 q226
    cases e226
    (try simp only [show (1 : Int).toNat = 1 from rfl, Nat.reduceMul, Nat.reduceEqDiff, Go.Addr.add, ↓reduceIte] at hx226_0)
    have qi226 : (1 < y220.length) = True := eq_true (by omega)
    (try rw [show ((1 : Int)).toNat = 1 from rfl] at hx226_0)
    replace p226 := eq_true p226
    replace q226 := eq_true q226
    refine start_ (n := 9) (S := fun w' => w'.cell? ⟨ad226.block, ad226.off + 1, none⟩ = some (.string (rdOf ByteArray.empty y220 1))) (ds := []) #[false, false, false, false, false, false, false, false, false] (by kernel_rfl) rfl rfl (hx226_0) (fun hHeld => ?_); refine with_tabW tale_ReadOp.tab2 tale_ReadOp.bits2 (fun HT_ HW_ => ?_)
    generalize w17.drew = w19 at HO219 HO222 BK212 BK213 HB hx226_0 hHeld ⊢
    refine pure_ (i := 1) (N := some 17) (v := ?_) (a' := ?_) #[false, true, false, false, false, false, false, false, false] rfl rfl (any_of HT_.out (by kernel_rfl)) (fun _ _ _ h => h) (Or.inl ⟨by rfl, ?_⟩) ?_ ?_
    rotate_left
    ·intro w'
     go_simp
     with_reducible rfl
    rotate_left
    ·simp only [Act.put, List.setIfInBounds_toArray, List.set_cons_zero, List.set_cons_succ, i64_w, i32_w]
     rfl
    refine pure_ (i := 2) (N := some 18) (v := ?_) (a' := ?_) #[false, true, true, false, false, false, false, false, false] rfl rfl (any_of HT_.out (by kernel_rfl)) (fun _ _ _ h => h) (Or.inl ⟨by rfl, ?_⟩) ?_ ?_
    rotate_left
    ·intro w'
     go_simp
     with_reducible rfl
    rotate_left
    ·simp only [Act.put, List.setIfInBounds_toArray, List.set_cons_zero, List.set_cons_succ, i64_w, i32_w]
     rfl
    refine take_ (i := 3) (N := some 19) (v := ?_) (a' := ?_) #[false, true, true, true, false, false, false, false, false] rfl rfl (take_ofW HT_.out HW_.out (by kernel_rfl)) (fun _ _ _ h => h) (Or.inl ⟨by rfl, ?_⟩) hHeld ?_ ?_
    rotate_left
    ·intro w' s0
     go_simp
     with_reducible rfl
    rotate_left
    ·simp only [Act.put, List.setIfInBounds_toArray, List.set_cons_zero, List.set_cons_succ, i64_w, i32_w]
     rfl
    refine join_ (σ := Value × Nat) 1 #[true, true, true, true, true, true, true, true, false] (fun s_ => [(16, s_.1), (20, .int .i64 t227), (8, .pointer (some ⟨s_.2, 0, none⟩)), (21, .int .i64 ji8), (22, .agg #[.int .i64 ji8, .int .u64 0, .int .u64 0, .int .i64 0])]) (fun s_ w' => (w'.cell? ⟨ad226.block, ad226.off + 1, none⟩ = some (.string (rdOf ByteArray.empty y220 1))) ∧ (Kd.R Kd.string 9 w' w.heap.size (fun k_ => some k_ ≠ (.slice (some ad226) y220.length co20 : Value).ownBlock ∧ some k_ ≠ (s_.1 : Value).ownBlock) (.slice Ao18 y217.length co18) y217) ∧ (Kd.R Kd.string 9 w' w.heap.size (fun k_ => some k_ ≠ (.slice Ao18 y217.length co18 : Value).ownBlock ∧ some k_ ≠ (s_.1 : Value).ownBlock) (.slice (some ad226) y220.length co20) y220) ∧ (Kd.R Kd.string 9 w' w.heap.size (fun k_ => some k_ ≠ (.slice Ao18 y217.length co18 : Value).ownBlock ∧ some k_ ≠ (.slice (some ad226) y220.length co20 : Value).ownBlock) s_.1 t223) ∧ (w'.heap[gb212]? = some (.cells #[.int .i64 a0_0, .int .i64 a0_1, .int .i64 a0_2, .int .i64 a0_3, .int .i64 a0_4] 31 (0, 0))) ∧ (w'.heap[gb213]? = some (.cells #[.int .i64 0, .int .u64 0, .int .u64 0, .int .i64 0] 33 (0, 0))) ∧ (w'.heap[s_.2]? = some (.cells #[.int .i64 0, .int .u64 0, .int .u64 0, .int .i64 0] 33 (0, 0))) ∧ (w.heap.size ≤ s_.2) ∧ (w.heap.size ≤ s_.2) ∧ (gb212 ≠ s_.2) ∧ (s_.2 ≠ gb212) ∧ (gb213 ≠ s_.2) ∧ (s_.2 ≠ gb213) ∧ (Below w.heap.size w w')) ?_ ?_
    rotate_left
    ·intro hCont
     refine two_ (i := 0) (j := 7) (Ni := some 16) (Nj := some 8) #[true, true, true, true, false, false, false, false, false] #[false, true, true, true, false, false, false, true, false] rfl rfl rfl rfl (two_of HT_.out (by kernel_rfl)) (by decide) (by decide) (fun K hK => ?_) (fun K hK => ?_)
     ·skip
      refine goes_ Tryd.func23 (by kernel_rfl) rfl #[] (by rfl) rfl rfl (by (try simp only [List.map_toArray, List.map_cons, List.map_nil]); first | done | rfl | (simp only [List.length_drop, List.length_take]; rfl)) ?_
      with_reducible refine (tale_names.calls  t223 _ A5.out).mono ?_
      rintro e w21 ⟨v224, rfl, ho0, hb⟩
      have HS0_ := (hb.cell (World.block_lt_of_cell? _ _ (hHeld))).trans (hHeld)
      refine ⟨_, rfl, ?_⟩
      have n0_ := Aside0.mk (Kd.R_elder' (by (with_reducible repeat (first | apply Kd.R_alloc | apply Kd.R_drewN | apply Kd.R_drew)); exact HO219.out) (Kd.R_base ho0) hb)
      have n1_ := Aside0.mk (Kd.R_elder' (by (with_reducible repeat (first | apply Kd.R_alloc | apply Kd.R_drewN | apply Kd.R_drew)); exact HO222.out) (Kd.R_base ho0) hb)
      have n2_ := Aside0.mk (Kd.R_lower (Kd.R_new' (Kd.R_new' ho0 (Kd.R_lt (by (with_reducible repeat (first | apply Kd.R_alloc | apply Kd.R_drewN | apply Kd.R_drew)); exact HO219.out))) (Kd.R_lt (by (with_reducible repeat (first | apply Kd.R_alloc | apply Kd.R_drewN | apply Kd.R_drew)); exact HO222.out))) (below_size (by repeat (first | (with_reducible first | exact HB.out | apply below_alloc | apply pw_below_drewN | apply below_drew1 | refine below_set ?_ GE212.out | refine below_set ?_ GE213.out) | exact HB.out))))
      have n3_ := Aside0.mk (blk_below (g := gb212) (o := .cells #[.int .i64 a0_0, .int .i64 a0_1, .int .i64 a0_2, .int .i64 a0_3, .int .i64 a0_4] 31 (0, 0)) (by (with_reducible repeat (first | refine blk_drewN ?_ _ | refine blk_drew ?_ | refine blk_alloc ?_ _)); exact BK212.out) hb)
      have n4_ := Aside0.mk (blk_below (g := gb213) (o := .cells #[.int .i64 0, .int .u64 0, .int .u64 0, .int .i64 0] 33 (0, 0)) (by (with_reducible repeat (first | refine blk_drewN ?_ _ | refine blk_drew ?_ | refine blk_alloc ?_ _)); exact BK213.out) hb)
      have n5_ := Aside0.mk (below_step (by repeat (first | (with_reducible first | exact HB.out | apply below_alloc | apply pw_below_drewN | apply below_drew1 | refine below_set ?_ GE212.out | refine below_set ?_ GE213.out) | exact HB.out)) hb)
      clear HO219
      clear HO222
      clear BK212
      clear BK213
      clear HB
      have HO219 := n0_
      have HO222 := n1_
      have HO225 := n2_
      have BK212 := n3_
      have BK213 := n4_
      have HB := n5_
      clear n0_ n1_ n2_ n3_ n4_ n5_
      (try clear hb)
      (try clear hb2)
      (try clear hk)
      (try clear hi)
      (try clear ho0)
      obtain ⟨Ao22, co22, eo22⟩ := Kd.R_slice HO225.out
      (first | subst eo22 | (injection eo22 with f1_ f2_ f3_; have f4_ := f1_.symm; have f5_ := f3_.symm; clear f1_ f2_ f3_; subst f4_; subst f5_))
      refine hK.out _ _ (HS0_) (fun hHeld => ?_)
      clear hK K
      refine norm_ (a' := ?_) ?_ ?_
      rotate_left
      ·show Act.put _ (some 16) _ = _
       simp only [Act.put, List.setIfInBounds_toArray, List.set_cons_zero, List.set_cons_succ, i64_w, i32_w]
       rfl
      refine two_ (i := 4) (j := 7) (Ni := some 20) (Nj := some 8) #[true, true, true, true, true, false, false, false, false] #[true, true, true, true, false, false, false, true, false] rfl rfl rfl rfl (two_of HT_.out (by kernel_rfl)) (by decide) (by decide) (fun K hK => ?_) (fun K hK => ?_)
      ·skip
       refine goes_ Tryd.func27 (by kernel_rfl) rfl #[.slice Ao22 t223.length co22, .string (rdOf ByteArray.empty y220 1)] (by rfl) rfl rfl (by (try simp only [List.map_toArray, List.map_cons, List.map_nil]); first | done | rfl | (simp only [List.length_drop, List.length_take]; rfl)) ?_
       with_reducible refine (slices_Index_string_string.calls k _ _ t223 (rdOf ByteArray.empty y220 1) t227 _ ?side1 ?side2 A7.out).mono ?_
       (case side1 => repeat (first | exact (Kd.R_reads' HO225.out).2.2 | (with_reducible refine Kd.C_alloc ?_ _) | (with_reducible refine Kd.C_drewN ?_ _) | (with_reducible refine Kd.C_drew ?_)))
       (case side2 => exact (Kd.R_reads' HO225.out).2.1)
       rintro e w' ⟨rfl, ⟨nd, rfl⟩⟩
       refine ⟨_, rfl, ?_⟩
       refine hK.out _ _ (hHeld) (fun hHeld => ?_)
       clear hK K
       refine norm_ (a' := ?_) ?_ ?_
       rotate_left
       ·show Act.put _ (some 20) _ = _
        simp only [Act.put, List.setIfInBounds_toArray, List.set_cons_zero, List.set_cons_succ, i64_w, i32_w]
        rfl
       refine pure_ (i := 5) (N := some 21) (v := ?_) (a' := ?_) #[true, true, true, true, true, true, false, false, false] rfl rfl (any_of HT_.out (by kernel_rfl)) (fun _ _ _ h => h) (Or.inl ⟨by rfl, ?_⟩) ?_ ?_
       rotate_left
       ·intro w'
        go_simp
        with_reducible rfl
       rotate_left
       ·simp only [Act.put, List.setIfInBounds_toArray, List.set_cons_zero, List.set_cons_succ, i64_w, i32_w]
        rfl
       refine pure_ (i := 6) (N := some 22) (v := ?_) (a' := ?_) #[true, true, true, true, true, true, true, false, false] rfl rfl (any_of HT_.out (by kernel_rfl)) (fun _ _ _ h => h) (Or.inl ⟨by rfl, ?_⟩) ?_ ?_
       rotate_left
       ·intro w'
        go_simp
        with_reducible rfl
       rotate_left
       ·simp only [Act.put, List.setIfInBounds_toArray, List.set_cons_zero, List.set_cons_succ, i64_w, i32_w]
        rfl
       refine one_ (i := 7) (N := some 8) #[true, true, true, true, true, true, true, true, false] rfl rfl (one_of HT_.out (by kernel_rfl)) (by decide) (fun K hK => ?_)
       refine box_step ?hg (N := 8) ?hd (cs := #[.int .i64 0, .int .u64 0, .int .u64 0, .int .i64 0]) (t := 33) ?hr ?_; (case hd => rfl); (case hg => rfl); (case hr => first | (go_simp; done) | (go_simp; rfl))
       intro gb228 hg w23 hbox hb
       have HS0_ := (hb.cell (World.block_lt_of_cell? _ _ (hHeld))).trans (hHeld)
       have n0_ := Aside0.mk (Kd.R_below (by (with_reducible repeat (first | apply Kd.R_alloc | apply Kd.R_drewN | apply Kd.R_drew)); exact HO219.out) hb)
       have n1_ := Aside0.mk (Kd.R_below (by (with_reducible repeat (first | apply Kd.R_alloc | apply Kd.R_drewN | apply Kd.R_drew)); exact HO222.out) hb)
       have n2_ := Aside0.mk (Kd.R_below (by (with_reducible repeat (first | apply Kd.R_alloc | apply Kd.R_drewN | apply Kd.R_drew)); exact HO225.out) hb)
       have n3_ := Aside0.mk (blk_below (g := gb212) (o := .cells #[.int .i64 a0_0, .int .i64 a0_1, .int .i64 a0_2, .int .i64 a0_3, .int .i64 a0_4] 31 (0, 0)) (by (with_reducible repeat (first | refine blk_drewN ?_ _ | refine blk_drew ?_ | refine blk_alloc ?_ _)); exact BK212.out) hb)
       have n4_ := Aside0.mk (blk_below (g := gb213) (o := .cells #[.int .i64 0, .int .u64 0, .int .u64 0, .int .i64 0] 33 (0, 0)) (by (with_reducible repeat (first | refine blk_drewN ?_ _ | refine blk_drew ?_ | refine blk_alloc ?_ _)); exact BK213.out) hb)
       have n5_ := Aside0.mk (below_step (by repeat (first | (with_reducible first | exact HB.out | apply below_alloc | apply pw_below_drewN | apply below_drew1 | refine below_set ?_ GE212.out | refine below_set ?_ GE213.out) | exact HB.out)) hb)
       have n6_ := Aside0.mk (hbox)
       have n7_ := Aside0.mk ((by rw [hg]; exact (below_size (by repeat (first | (with_reducible first | exact HB.out | apply below_alloc | apply pw_below_drewN | apply below_drew1 | refine below_set ?_ GE212.out | refine below_set ?_ GE213.out) | exact HB.out))) : w.heap.size ≤ gb228))
       have n8_ := Aside0.mk ((by rw [hg]; exact (below_size (by repeat (first | (with_reducible first | exact HB.out | apply below_alloc | apply pw_below_drewN | apply below_drew1 | refine below_set ?_ GE212.out | refine below_set ?_ GE213.out) | exact HB.out))) : w.heap.size ≤ gb228))
       have n9_ := Aside0.mk ((by rw [hg]; exact Nat.ne_of_lt (blk_lt (g := gb212) (o := .cells #[.int .i64 a0_0, .int .i64 a0_1, .int .i64 a0_2, .int .i64 a0_3, .int .i64 a0_4] 31 (0, 0)) (by (with_reducible repeat (first | refine blk_drewN ?_ _ | refine blk_drew ?_ | refine blk_alloc ?_ _)); exact BK212.out)) : gb212 ≠ gb228))
       have n10_ := Aside0.mk ((by rw [hg]; exact Nat.ne_of_gt (blk_lt (g := gb212) (o := .cells #[.int .i64 a0_0, .int .i64 a0_1, .int .i64 a0_2, .int .i64 a0_3, .int .i64 a0_4] 31 (0, 0)) (by (with_reducible repeat (first | refine blk_drewN ?_ _ | refine blk_drew ?_ | refine blk_alloc ?_ _)); exact BK212.out)) : gb228 ≠ gb212))
       have n11_ := Aside0.mk ((by rw [hg]; exact Nat.ne_of_lt (blk_lt (g := gb213) (o := .cells #[.int .i64 0, .int .u64 0, .int .u64 0, .int .i64 0] 33 (0, 0)) (by (with_reducible repeat (first | refine blk_drewN ?_ _ | refine blk_drew ?_ | refine blk_alloc ?_ _)); exact BK213.out)) : gb213 ≠ gb228))
       have n12_ := Aside0.mk ((by rw [hg]; exact Nat.ne_of_gt (blk_lt (g := gb213) (o := .cells #[.int .i64 0, .int .u64 0, .int .u64 0, .int .i64 0] 33 (0, 0)) (by (with_reducible repeat (first | refine blk_drewN ?_ _ | refine blk_drew ?_ | refine blk_alloc ?_ _)); exact BK213.out)) : gb228 ≠ gb213))
       clear HO219
       clear HO222
       clear HO225
       clear BK212
       clear BK213
       clear HB
       have HO219 := n0_
       have HO222 := n1_
       have HO225 := n2_
       have BK212 := n3_
       have BK213 := n4_
       have HB := n5_
       have BK228 := n6_
       have GW228 := n7_
       have GE228 := n8_
       have NB212_228 := n9_
       have NB228_212 := n10_
       have NB213_228 := n11_
       have NB228_213 := n12_
       clear n0_ n1_ n2_ n3_ n4_ n5_ n6_ n7_ n8_ n9_ n10_ n11_ n12_
       clear hb hbox hg
       refine hK.out _ _ (HS0_) (fun hHeld => ?_)
       clear hK K
       refine norm_ (a' := ?_) ?_ ?_
       rotate_left
       ·show Act.put _ (some 8) _ = _
        simp only [Act.put, List.setIfInBounds_toArray, List.set_cons_zero, List.set_cons_succ, i64_w, i32_w]
        rfl
       exact norm_ (by simp only [putAll, Act.put, List.setIfInBounds_toArray, List.set_cons_zero, List.set_cons_succ]) (hCont (.slice Ao22 t223.length co22, gb228) _ ⟨hHeld, (by (with_reducible repeat (first | apply Kd.R_alloc | apply Kd.R_drewN | apply Kd.R_drew)); exact Kd.R_mono HO219.out (fun _ hk => ⟨hk.1.2, hk.2⟩)), (by (with_reducible repeat (first | apply Kd.R_alloc | apply Kd.R_drewN | apply Kd.R_drew)); exact HO222.out), (by (with_reducible repeat (first | apply Kd.R_alloc | apply Kd.R_drewN | apply Kd.R_drew)); exact Kd.R_mono HO225.out (fun _ hk => ⟨hk.1.2, hk.2⟩)), (by (with_reducible repeat (first | refine blk_drewN ?_ _ | refine blk_drew ?_ | refine blk_alloc ?_ _)); exact BK212.out), (by (with_reducible repeat (first | refine blk_drewN ?_ _ | refine blk_drew ?_ | refine blk_alloc ?_ _)); exact BK213.out), (by (with_reducible repeat (first | refine blk_drewN ?_ _ | refine blk_drew ?_ | refine blk_alloc ?_ _)); exact BK228.out), GW228.out, GE228.out, NB212_228.out, NB228_212.out, NB213_228.out, NB228_213.out, (by repeat (first | (with_reducible first | exact HB.out | apply below_alloc | apply pw_below_drewN | apply below_drew1 | refine below_set ?_ GE212.out | refine below_set ?_ GE213.out | refine below_set ?_ GE228.out) | exact HB.out))⟩)
      ·skip
       refine box_step ?hg (N := 8) ?hd (cs := #[.int .i64 0, .int .u64 0, .int .u64 0, .int .i64 0]) (t := 33) ?hr ?_; (case hd => rfl); (case hg => rfl); (case hr => first | (go_simp; done) | (go_simp; rfl))
       intro gb228 hg w22 hbox hb
       have HS0_ := (hb.cell (World.block_lt_of_cell? _ _ (hHeld))).trans (hHeld)
       have n0_ := Aside0.mk (Kd.R_below (by (with_reducible repeat (first | apply Kd.R_alloc | apply Kd.R_drewN | apply Kd.R_drew)); exact HO219.out) hb)
       have n1_ := Aside0.mk (Kd.R_below (by (with_reducible repeat (first | apply Kd.R_alloc | apply Kd.R_drewN | apply Kd.R_drew)); exact HO222.out) hb)
       have n2_ := Aside0.mk (Kd.R_below (by (with_reducible repeat (first | apply Kd.R_alloc | apply Kd.R_drewN | apply Kd.R_drew)); exact HO225.out) hb)
       have n3_ := Aside0.mk (blk_below (g := gb212) (o := .cells #[.int .i64 a0_0, .int .i64 a0_1, .int .i64 a0_2, .int .i64 a0_3, .int .i64 a0_4] 31 (0, 0)) (by (with_reducible repeat (first | refine blk_drewN ?_ _ | refine blk_drew ?_ | refine blk_alloc ?_ _)); exact BK212.out) hb)
       have n4_ := Aside0.mk (blk_below (g := gb213) (o := .cells #[.int .i64 0, .int .u64 0, .int .u64 0, .int .i64 0] 33 (0, 0)) (by (with_reducible repeat (first | refine blk_drewN ?_ _ | refine blk_drew ?_ | refine blk_alloc ?_ _)); exact BK213.out) hb)
       have n5_ := Aside0.mk (below_step (by repeat (first | (with_reducible first | exact HB.out | apply below_alloc | apply pw_below_drewN | apply below_drew1 | refine below_set ?_ GE212.out | refine below_set ?_ GE213.out) | exact HB.out)) hb)
       have n6_ := Aside0.mk (hbox)
       have n7_ := Aside0.mk ((by rw [hg]; exact (below_size (by repeat (first | (with_reducible first | exact HB.out | apply below_alloc | apply pw_below_drewN | apply below_drew1 | refine below_set ?_ GE212.out | refine below_set ?_ GE213.out) | exact HB.out))) : w.heap.size ≤ gb228))
       have n8_ := Aside0.mk ((by rw [hg]; exact (below_size (by repeat (first | (with_reducible first | exact HB.out | apply below_alloc | apply pw_below_drewN | apply below_drew1 | refine below_set ?_ GE212.out | refine below_set ?_ GE213.out) | exact HB.out))) : w.heap.size ≤ gb228))
       have n9_ := Aside0.mk ((by rw [hg]; exact Nat.ne_of_lt (blk_lt (g := gb212) (o := .cells #[.int .i64 a0_0, .int .i64 a0_1, .int .i64 a0_2, .int .i64 a0_3, .int .i64 a0_4] 31 (0, 0)) (by (with_reducible repeat (first | refine blk_drewN ?_ _ | refine blk_drew ?_ | refine blk_alloc ?_ _)); exact BK212.out)) : gb212 ≠ gb228))
       have n10_ := Aside0.mk ((by rw [hg]; exact Nat.ne_of_gt (blk_lt (g := gb212) (o := .cells #[.int .i64 a0_0, .int .i64 a0_1, .int .i64 a0_2, .int .i64 a0_3, .int .i64 a0_4] 31 (0, 0)) (by (with_reducible repeat (first | refine blk_drewN ?_ _ | refine blk_drew ?_ | refine blk_alloc ?_ _)); exact BK212.out)) : gb228 ≠ gb212))
       have n11_ := Aside0.mk ((by rw [hg]; exact Nat.ne_of_lt (blk_lt (g := gb213) (o := .cells #[.int .i64 0, .int .u64 0, .int .u64 0, .int .i64 0] 33 (0, 0)) (by (with_reducible repeat (first | refine blk_drewN ?_ _ | refine blk_drew ?_ | refine blk_alloc ?_ _)); exact BK213.out)) : gb213 ≠ gb228))
       have n12_ := Aside0.mk ((by rw [hg]; exact Nat.ne_of_gt (blk_lt (g := gb213) (o := .cells #[.int .i64 0, .int .u64 0, .int .u64 0, .int .i64 0] 33 (0, 0)) (by (with_reducible repeat (first | refine blk_drewN ?_ _ | refine blk_drew ?_ | refine blk_alloc ?_ _)); exact BK213.out)) : gb228 ≠ gb213))
       clear HO219
       clear HO222
       clear HO225
       clear BK212
       clear BK213
       clear HB
       have HO219 := n0_
       have HO222 := n1_
       have HO225 := n2_
       have BK212 := n3_
       have BK213 := n4_
       have HB := n5_
       have BK228 := n6_
       have GW228 := n7_
       have GE228 := n8_
       have NB212_228 := n9_
       have NB228_212 := n10_
       have NB213_228 := n11_
       have NB228_213 := n12_
       clear n0_ n1_ n2_ n3_ n4_ n5_ n6_ n7_ n8_ n9_ n10_ n11_ n12_
       clear hb hbox hg
       obtain ⟨Ao23, co23, eo23⟩ := Kd.R_slice HO225.out
       (first | subst eo23 | (injection eo23 with f1_ f2_ f3_; have f4_ := f1_.symm; have f5_ := f3_.symm; clear f1_ f2_ f3_; subst f4_; subst f5_))
       refine hK.out _ _ (HS0_) (fun hHeld => ?_)
       clear hK K
       refine norm_ (a' := ?_) ?_ ?_
       rotate_left
       ·show Act.put _ (some 8) _ = _
        simp only [Act.put, List.setIfInBounds_toArray, List.set_cons_zero, List.set_cons_succ, i64_w, i32_w]
        rfl
       refine one_ (i := 4) (N := some 20) #[true, true, true, true, true, false, false, true, false] rfl rfl (one_of HT_.out (by kernel_rfl)) (by decide) (fun K hK => ?_)
       refine goes_ Tryd.func27 (by kernel_rfl) rfl #[.slice Ao23 t223.length co23, .string (rdOf ByteArray.empty y220 1)] (by rfl) rfl rfl (by (try simp only [List.map_toArray, List.map_cons, List.map_nil]); first | done | rfl | (simp only [List.length_drop, List.length_take]; rfl)) ?_
       with_reducible refine (slices_Index_string_string.calls k _ _ t223 (rdOf ByteArray.empty y220 1) t227 _ ?side1 ?side2 A7.out).mono ?_
       (case side1 => repeat (first | exact (Kd.R_reads' HO225.out).2.2 | (with_reducible refine Kd.C_alloc ?_ _) | (with_reducible refine Kd.C_drewN ?_ _) | (with_reducible refine Kd.C_drew ?_)))
       (case side2 => exact (Kd.R_reads' HO225.out).2.1)
       rintro e w' ⟨rfl, ⟨nd, rfl⟩⟩
       refine ⟨_, rfl, ?_⟩
       refine hK.out _ _ (hHeld) (fun hHeld => ?_)
       clear hK K
       refine norm_ (a' := ?_) ?_ ?_
       rotate_left
       ·show Act.put _ (some 20) _ = _
        simp only [Act.put, List.setIfInBounds_toArray, List.set_cons_zero, List.set_cons_succ, i64_w, i32_w]
        rfl
       refine pure_ (i := 5) (N := some 21) (v := ?_) (a' := ?_) #[true, true, true, true, true, true, false, true, false] rfl rfl (any_of HT_.out (by kernel_rfl)) (fun _ _ _ h => h) (Or.inl ⟨by rfl, ?_⟩) ?_ ?_
       rotate_left
       ·intro w'
        go_simp
        with_reducible rfl
       rotate_left
       ·simp only [Act.put, List.setIfInBounds_toArray, List.set_cons_zero, List.set_cons_succ, i64_w, i32_w]
        rfl
       refine pure_ (i := 6) (N := some 22) (v := ?_) (a' := ?_) #[true, true, true, true, true, true, true, true, false] rfl rfl (any_of HT_.out (by kernel_rfl)) (fun _ _ _ h => h) (Or.inl ⟨by rfl, ?_⟩) ?_ ?_
       rotate_left
       ·intro w'
        go_simp
        with_reducible rfl
       rotate_left
       ·simp only [Act.put, List.setIfInBounds_toArray, List.set_cons_zero, List.set_cons_succ, i64_w, i32_w]
        rfl
       exact norm_ (by simp only [putAll, Act.put, List.setIfInBounds_toArray, List.set_cons_zero, List.set_cons_succ]) (hCont (.slice Ao23 t223.length co23, gb228) _ ⟨hHeld, (by (with_reducible repeat (first | apply Kd.R_alloc | apply Kd.R_drewN | apply Kd.R_drew)); exact Kd.R_mono HO219.out (fun _ hk => ⟨hk.1.2, hk.2⟩)), (by (with_reducible repeat (first | apply Kd.R_alloc | apply Kd.R_drewN | apply Kd.R_drew)); exact HO222.out), (by (with_reducible repeat (first | apply Kd.R_alloc | apply Kd.R_drewN | apply Kd.R_drew)); exact Kd.R_mono HO225.out (fun _ hk => ⟨hk.1.2, hk.2⟩)), (by (with_reducible repeat (first | refine blk_drewN ?_ _ | refine blk_drew ?_ | refine blk_alloc ?_ _)); exact BK212.out), (by (with_reducible repeat (first | refine blk_drewN ?_ _ | refine blk_drew ?_ | refine blk_alloc ?_ _)); exact BK213.out), (by (with_reducible repeat (first | refine blk_drewN ?_ _ | refine blk_drew ?_ | refine blk_alloc ?_ _)); exact BK228.out), GW228.out, GE228.out, NB212_228.out, NB228_212.out, NB213_228.out, NB228_213.out, (by repeat (first | (with_reducible first | exact HB.out | apply below_alloc | apply pw_below_drewN | apply below_drew1 | refine below_set ?_ GE212.out | refine below_set ?_ GE213.out | refine below_set ?_ GE228.out) | exact HB.out))⟩)
     ·skip
      refine box_step ?hg (N := 8) ?hd (cs := #[.int .i64 0, .int .u64 0, .int .u64 0, .int .i64 0]) (t := 33) ?hr ?_; (case hd => rfl); (case hg => rfl); (case hr => first | (go_simp; done) | (go_simp; rfl))
      intro gb228 hg w21 hbox hb
      have HS0_ := (hb.cell (World.block_lt_of_cell? _ _ (hHeld))).trans (hHeld)
      have n0_ := Aside0.mk (Kd.R_below (by (with_reducible repeat (first | apply Kd.R_alloc | apply Kd.R_drewN | apply Kd.R_drew)); exact HO219.out) hb)
      have n1_ := Aside0.mk (Kd.R_below (by (with_reducible repeat (first | apply Kd.R_alloc | apply Kd.R_drewN | apply Kd.R_drew)); exact HO222.out) hb)
      have n2_ := Aside0.mk (blk_below (g := gb212) (o := .cells #[.int .i64 a0_0, .int .i64 a0_1, .int .i64 a0_2, .int .i64 a0_3, .int .i64 a0_4] 31 (0, 0)) (by (with_reducible repeat (first | refine blk_drewN ?_ _ | refine blk_drew ?_ | refine blk_alloc ?_ _)); exact BK212.out) hb)
      have n3_ := Aside0.mk (blk_below (g := gb213) (o := .cells #[.int .i64 0, .int .u64 0, .int .u64 0, .int .i64 0] 33 (0, 0)) (by (with_reducible repeat (first | refine blk_drewN ?_ _ | refine blk_drew ?_ | refine blk_alloc ?_ _)); exact BK213.out) hb)
      have n4_ := Aside0.mk (below_step (by repeat (first | (with_reducible first | exact HB.out | apply below_alloc | apply pw_below_drewN | apply below_drew1 | refine below_set ?_ GE212.out | refine below_set ?_ GE213.out) | exact HB.out)) hb)
      have n5_ := Aside0.mk (hbox)
      have n6_ := Aside0.mk ((by rw [hg]; exact (below_size (by repeat (first | (with_reducible first | exact HB.out | apply below_alloc | apply pw_below_drewN | apply below_drew1 | refine below_set ?_ GE212.out | refine below_set ?_ GE213.out) | exact HB.out))) : w.heap.size ≤ gb228))
      have n7_ := Aside0.mk ((by rw [hg]; exact (below_size (by repeat (first | (with_reducible first | exact HB.out | apply below_alloc | apply pw_below_drewN | apply below_drew1 | refine below_set ?_ GE212.out | refine below_set ?_ GE213.out) | exact HB.out))) : w.heap.size ≤ gb228))
      have n8_ := Aside0.mk ((by rw [hg]; exact Nat.ne_of_lt (blk_lt (g := gb212) (o := .cells #[.int .i64 a0_0, .int .i64 a0_1, .int .i64 a0_2, .int .i64 a0_3, .int .i64 a0_4] 31 (0, 0)) (by (with_reducible repeat (first | refine blk_drewN ?_ _ | refine blk_drew ?_ | refine blk_alloc ?_ _)); exact BK212.out)) : gb212 ≠ gb228))
      have n9_ := Aside0.mk ((by rw [hg]; exact Nat.ne_of_gt (blk_lt (g := gb212) (o := .cells #[.int .i64 a0_0, .int .i64 a0_1, .int .i64 a0_2, .int .i64 a0_3, .int .i64 a0_4] 31 (0, 0)) (by (with_reducible repeat (first | refine blk_drewN ?_ _ | refine blk_drew ?_ | refine blk_alloc ?_ _)); exact BK212.out)) : gb228 ≠ gb212))
      have n10_ := Aside0.mk ((by rw [hg]; exact Nat.ne_of_lt (blk_lt (g := gb213) (o := .cells #[.int .i64 0, .int .u64 0, .int .u64 0, .int .i64 0] 33 (0, 0)) (by (with_reducible repeat (first | refine blk_drewN ?_ _ | refine blk_drew ?_ | refine blk_alloc ?_ _)); exact BK213.out)) : gb213 ≠ gb228))
      have n11_ := Aside0.mk ((by rw [hg]; exact Nat.ne_of_gt (blk_lt (g := gb213) (o := .cells #[.int .i64 0, .int .u64 0, .int .u64 0, .int .i64 0] 33 (0, 0)) (by (with_reducible repeat (first | refine blk_drewN ?_ _ | refine blk_drew ?_ | refine blk_alloc ?_ _)); exact BK213.out)) : gb228 ≠ gb213))
      clear HO219
      clear HO222
      clear BK212
      clear BK213
      clear HB
      have HO219 := n0_
      have HO222 := n1_
      have BK212 := n2_
      have BK213 := n3_
      have HB := n4_
      have BK228 := n5_
      have GW228 := n6_
      have GE228 := n7_
      have NB212_228 := n8_
      have NB228_212 := n9_
      have NB213_228 := n10_
      have NB228_213 := n11_
      clear n0_ n1_ n2_ n3_ n4_ n5_ n6_ n7_ n8_ n9_ n10_ n11_
      clear hb hbox hg
      refine hK.out _ _ (HS0_) (fun hHeld => ?_)
      clear hK K
      refine norm_ (a' := ?_) ?_ ?_
      rotate_left
      ·show Act.put _ (some 8) _ = _
       simp only [Act.put, List.setIfInBounds_toArray, List.set_cons_zero, List.set_cons_succ, i64_w, i32_w]
       rfl
      refine one_ (i := 0) (N := some 16) #[true, true, true, true, false, false, false, true, false] rfl rfl (one_of HT_.out (by kernel_rfl)) (by decide) (fun K hK => ?_)
      refine goes_ Tryd.func23 (by kernel_rfl) rfl #[] (by rfl) rfl rfl (by (try simp only [List.map_toArray, List.map_cons, List.map_nil]); first | done | rfl | (simp only [List.length_drop, List.length_take]; rfl)) ?_
      with_reducible refine (tale_names.calls  t223 _ A5.out).mono ?_
      rintro e w22 ⟨v224, rfl, ho0, hb⟩
      have HS0_ := (hb.cell (World.block_lt_of_cell? _ _ (hHeld))).trans (hHeld)
      refine ⟨_, rfl, ?_⟩
      have n0_ := Aside0.mk (Kd.R_elder' (by (with_reducible repeat (first | apply Kd.R_alloc | apply Kd.R_drewN | apply Kd.R_drew)); exact HO219.out) (Kd.R_base ho0) hb)
      have n1_ := Aside0.mk (Kd.R_elder' (by (with_reducible repeat (first | apply Kd.R_alloc | apply Kd.R_drewN | apply Kd.R_drew)); exact HO222.out) (Kd.R_base ho0) hb)
      have n2_ := Aside0.mk (Kd.R_lower (Kd.R_new' (Kd.R_new' ho0 (Kd.R_lt (by (with_reducible repeat (first | apply Kd.R_alloc | apply Kd.R_drewN | apply Kd.R_drew)); exact HO219.out))) (Kd.R_lt (by (with_reducible repeat (first | apply Kd.R_alloc | apply Kd.R_drewN | apply Kd.R_drew)); exact HO222.out))) (below_size (by repeat (first | (with_reducible first | exact HB.out | apply below_alloc | apply pw_below_drewN | apply below_drew1 | refine below_set ?_ GE212.out | refine below_set ?_ GE213.out | refine below_set ?_ GE228.out) | exact HB.out))))
      have n3_ := Aside0.mk (blk_below (g := gb212) (o := .cells #[.int .i64 a0_0, .int .i64 a0_1, .int .i64 a0_2, .int .i64 a0_3, .int .i64 a0_4] 31 (0, 0)) (by (with_reducible repeat (first | refine blk_drewN ?_ _ | refine blk_drew ?_ | refine blk_alloc ?_ _)); exact BK212.out) hb)
      have n4_ := Aside0.mk (blk_below (g := gb213) (o := .cells #[.int .i64 0, .int .u64 0, .int .u64 0, .int .i64 0] 33 (0, 0)) (by (with_reducible repeat (first | refine blk_drewN ?_ _ | refine blk_drew ?_ | refine blk_alloc ?_ _)); exact BK213.out) hb)
      have n5_ := Aside0.mk (blk_below (g := gb228) (o := .cells #[.int .i64 0, .int .u64 0, .int .u64 0, .int .i64 0] 33 (0, 0)) (by (with_reducible repeat (first | refine blk_drewN ?_ _ | refine blk_drew ?_ | refine blk_alloc ?_ _)); exact BK228.out) hb)
      have n6_ := Aside0.mk (below_step (by repeat (first | (with_reducible first | exact HB.out | apply below_alloc | apply pw_below_drewN | apply below_drew1 | refine below_set ?_ GE212.out | refine below_set ?_ GE213.out | refine below_set ?_ GE228.out) | exact HB.out)) hb)
      clear HO219
      clear HO222
      clear BK212
      clear BK213
      clear BK228
      clear HB
      have HO219 := n0_
      have HO222 := n1_
      have HO225 := n2_
      have BK212 := n3_
      have BK213 := n4_
      have BK228 := n5_
      have HB := n6_
      clear n0_ n1_ n2_ n3_ n4_ n5_ n6_
      (try clear hb)
      (try clear hb2)
      (try clear hk)
      (try clear hi)
      (try clear ho0)
      obtain ⟨Ao23, co23, eo23⟩ := Kd.R_slice HO225.out
      (first | subst eo23 | (injection eo23 with f1_ f2_ f3_; have f4_ := f1_.symm; have f5_ := f3_.symm; clear f1_ f2_ f3_; subst f4_; subst f5_))
      refine hK.out _ _ (HS0_) (fun hHeld => ?_)
      clear hK K
      refine norm_ (a' := ?_) ?_ ?_
      rotate_left
      ·show Act.put _ (some 16) _ = _
       simp only [Act.put, List.setIfInBounds_toArray, List.set_cons_zero, List.set_cons_succ, i64_w, i32_w]
       rfl
      refine one_ (i := 4) (N := some 20) #[true, true, true, true, true, false, false, true, false] rfl rfl (one_of HT_.out (by kernel_rfl)) (by decide) (fun K hK => ?_)
      refine goes_ Tryd.func27 (by kernel_rfl) rfl #[.slice Ao23 t223.length co23, .string (rdOf ByteArray.empty y220 1)] (by rfl) rfl rfl (by (try simp only [List.map_toArray, List.map_cons, List.map_nil]); first | done | rfl | (simp only [List.length_drop, List.length_take]; rfl)) ?_
      with_reducible refine (slices_Index_string_string.calls k _ _ t223 (rdOf ByteArray.empty y220 1) t227 _ ?side1 ?side2 A7.out).mono ?_
      (case side1 => repeat (first | exact (Kd.R_reads' HO225.out).2.2 | (with_reducible refine Kd.C_alloc ?_ _) | (with_reducible refine Kd.C_drewN ?_ _) | (with_reducible refine Kd.C_drew ?_)))
      (case side2 => exact (Kd.R_reads' HO225.out).2.1)
      rintro e w' ⟨rfl, ⟨nd, rfl⟩⟩
      refine ⟨_, rfl, ?_⟩
      refine hK.out _ _ (hHeld) (fun hHeld => ?_)
      clear hK K
      refine norm_ (a' := ?_) ?_ ?_
      rotate_left
      ·show Act.put _ (some 20) _ = _
       simp only [Act.put, List.setIfInBounds_toArray, List.set_cons_zero, List.set_cons_succ, i64_w, i32_w]
       rfl
      refine pure_ (i := 5) (N := some 21) (v := ?_) (a' := ?_) #[true, true, true, true, true, true, false, true, false] rfl rfl (any_of HT_.out (by kernel_rfl)) (fun _ _ _ h => h) (Or.inl ⟨by rfl, ?_⟩) ?_ ?_
      rotate_left
      ·intro w'
       go_simp
       with_reducible rfl
      rotate_left
      ·simp only [Act.put, List.setIfInBounds_toArray, List.set_cons_zero, List.set_cons_succ, i64_w, i32_w]
       rfl
      refine pure_ (i := 6) (N := some 22) (v := ?_) (a' := ?_) #[true, true, true, true, true, true, true, true, false] rfl rfl (any_of HT_.out (by kernel_rfl)) (fun _ _ _ h => h) (Or.inl ⟨by rfl, ?_⟩) ?_ ?_
      rotate_left
      ·intro w'
       go_simp
       with_reducible rfl
      rotate_left
      ·simp only [Act.put, List.setIfInBounds_toArray, List.set_cons_zero, List.set_cons_succ, i64_w, i32_w]
       rfl
      exact norm_ (by simp only [putAll, Act.put, List.setIfInBounds_toArray, List.set_cons_zero, List.set_cons_succ]) (hCont (.slice Ao23 t223.length co23, gb228) _ ⟨hHeld, (by (with_reducible repeat (first | apply Kd.R_alloc | apply Kd.R_drewN | apply Kd.R_drew)); exact Kd.R_mono HO219.out (fun _ hk => ⟨hk.1.2, hk.2⟩)), (by (with_reducible repeat (first | apply Kd.R_alloc | apply Kd.R_drewN | apply Kd.R_drew)); exact HO222.out), (by (with_reducible repeat (first | apply Kd.R_alloc | apply Kd.R_drewN | apply Kd.R_drew)); exact Kd.R_mono HO225.out (fun _ hk => ⟨hk.1.2, hk.2⟩)), (by (with_reducible repeat (first | refine blk_drewN ?_ _ | refine blk_drew ?_ | refine blk_alloc ?_ _)); exact BK212.out), (by (with_reducible repeat (first | refine blk_drewN ?_ _ | refine blk_drew ?_ | refine blk_alloc ?_ _)); exact BK213.out), (by (with_reducible repeat (first | refine blk_drewN ?_ _ | refine blk_drew ?_ | refine blk_alloc ?_ _)); exact BK228.out), GW228.out, GE228.out, NB212_228.out, NB228_212.out, NB213_228.out, NB228_213.out, (by repeat (first | (with_reducible first | exact HB.out | apply below_alloc | apply pw_below_drewN | apply below_drew1 | refine below_set ?_ GE212.out | refine below_set ?_ GE213.out | refine below_set ?_ GE228.out) | exact HB.out))⟩)
    rintro ⟨v224, gb228⟩ w24 ⟨hS_, h0_, h1_, h2_, h3_, h4_, h5_, h6_, h7_, h8_, h9_, h10_, h11_, h12_⟩
    have n0_ : Aside0 (Kd.R Kd.string 9 w24 w.heap.size (fun k_ => some k_ ≠ (.slice (some ad226) y220.length co20 : Value).ownBlock ∧ some k_ ≠ (v224 : Value).ownBlock) (.slice Ao18 y217.length co18) y217) := ⟨h0_⟩
    have n1_ : Aside0 (Kd.R Kd.string 9 w24 w.heap.size (fun k_ => some k_ ≠ (.slice Ao18 y217.length co18 : Value).ownBlock ∧ some k_ ≠ (v224 : Value).ownBlock) (.slice (some ad226) y220.length co20) y220) := ⟨h1_⟩
    have n2_ : Aside0 (Kd.R Kd.string 9 w24 w.heap.size (fun k_ => some k_ ≠ (.slice Ao18 y217.length co18 : Value).ownBlock ∧ some k_ ≠ (.slice (some ad226) y220.length co20 : Value).ownBlock) v224 t223) := ⟨h2_⟩
    have n3_ : Aside0 (w24.heap[gb212]? = some (.cells #[.int .i64 a0_0, .int .i64 a0_1, .int .i64 a0_2, .int .i64 a0_3, .int .i64 a0_4] 31 (0, 0))) := ⟨h3_⟩
    have n4_ : Aside0 (w24.heap[gb213]? = some (.cells #[.int .i64 0, .int .u64 0, .int .u64 0, .int .i64 0] 33 (0, 0))) := ⟨h4_⟩
    have n5_ : Aside0 (w24.heap[gb228]? = some (.cells #[.int .i64 0, .int .u64 0, .int .u64 0, .int .i64 0] 33 (0, 0))) := ⟨h5_⟩
    have n6_ : Aside0 (w.heap.size ≤ gb228) := ⟨h6_⟩
    have n7_ : Aside0 (w.heap.size ≤ gb228) := ⟨h7_⟩
    have n8_ : Aside0 (gb212 ≠ gb228) := ⟨h8_⟩
    have n9_ : Aside0 (gb228 ≠ gb212) := ⟨h9_⟩
    have n10_ : Aside0 (gb213 ≠ gb228) := ⟨h10_⟩
    have n11_ : Aside0 (gb228 ≠ gb213) := ⟨h11_⟩
    have n12_ : Aside0 (Below w.heap.size w w24) := ⟨h12_⟩
    clear HO219
    clear HO222
    clear BK212
    clear BK213
    clear HB
    clear h0_ h1_ h2_ h3_ h4_ h5_ h6_ h7_ h8_ h9_ h10_ h11_ h12_
    have HO219 := n0_
    have HO222 := n1_
    have HO225 := n2_
    have BK212 := n3_
    have BK213 := n4_
    have BK228 := n5_
    have GW228 := n6_
    have GE228 := n7_
    have NB212_228 := n8_
    have NB228_212 := n9_
    have NB213_228 := n10_
    have NB228_213 := n11_
    have HB := n12_
    clear n0_ n1_ n2_ n3_ n4_ n5_ n6_ n7_ n8_ n9_ n10_ n11_ n12_
    have hHeld : w24.cell? ⟨ad226.block, ad226.off + 1, none⟩ = some (.string (rdOf ByteArray.empty y220 1)) := hS_
    refine norm_ (a' := ?_) ?_ ?_
    rotate_left
    ·simp only [putAll, Act.put, List.setIfInBounds_toArray, List.set_cons_zero, List.set_cons_succ]
     rfl
    refine one_ (i := 8) (N := none) #[true, true, true, true, true, true, true, true, true] rfl rfl (one_of HT_.out (by kernel_rfl)) (by decide) (fun K hK => ?_)
    have hs25 : w24.cell? ⟨gb228, 0, none⟩ = some (.int .i64 0) := (blk_cell BK228.out 0).trans rfl
    have hfs25 := blk_frozen BK228.out 0
    have hns25_0 := NB212_228.out
    have hns25_1 := NB213_228.out
    have hms25_0 := NB228_212.out
    have hms25_1 := NB228_213.out
    have hs26 : w24.cell? ⟨gb228, 1, none⟩ = some (.int .u64 0) := (blk_cell BK228.out 1).trans rfl
    have hfs26 := blk_frozen BK228.out 1
    have hns26_0 := NB212_228.out
    have hns26_1 := NB213_228.out
    have hms26_0 := NB228_212.out
    have hms26_1 := NB228_213.out
    have hs27 : w24.cell? ⟨gb228, 2, none⟩ = some (.int .u64 0) := (blk_cell BK228.out 2).trans rfl
    have hfs27 := blk_frozen BK228.out 2
    have hns27_0 := NB212_228.out
    have hns27_1 := NB213_228.out
    have hms27_0 := NB228_212.out
    have hms27_1 := NB228_213.out
    have hs28 : w24.cell? ⟨gb228, 3, none⟩ = some (.int .i64 0) := (blk_cell BK228.out 3).trans rfl
    have hfs28 := blk_frozen BK228.out 3
    have hns28_0 := NB212_228.out
    have hns28_1 := NB213_228.out
    have hms28_0 := NB228_212.out
    have hms28_1 := NB228_213.out
    refine skip_ (w1 := ?_) (by rfl) rfl ?_ ?_
    rotate_left
    ·go_simp
     rfl
    refine hK.out _ _ (((cell_far (p := ⟨gb228, _, none⟩) (by first | exact Kd.own_blk (Kd.R_ne HO222.out BK228.out (by decide)) | (rw [add_block]; exact Kd.own_blk (Kd.R_ne HO222.out BK228.out (by decide))) | (show (Addr.add _ _).block ≠ _; rw [add_block]; exact Kd.own_blk (Kd.R_ne HO222.out BK228.out (by decide))) | (dsimp only; exact Kd.own_blk (Kd.R_ne HO222.out BK228.out (by decide)))) _).trans (((cell_far (p := ⟨gb228, _, none⟩) (by first | exact Kd.own_blk (Kd.R_ne HO222.out BK228.out (by decide)) | (rw [add_block]; exact Kd.own_blk (Kd.R_ne HO222.out BK228.out (by decide))) | (show (Addr.add _ _).block ≠ _; rw [add_block]; exact Kd.own_blk (Kd.R_ne HO222.out BK228.out (by decide))) | (dsimp only; exact Kd.own_blk (Kd.R_ne HO222.out BK228.out (by decide)))) _).trans (((cell_far (p := ⟨gb228, _, none⟩) (by first | exact Kd.own_blk (Kd.R_ne HO222.out BK228.out (by decide)) | (rw [add_block]; exact Kd.own_blk (Kd.R_ne HO222.out BK228.out (by decide))) | (show (Addr.add _ _).block ≠ _; rw [add_block]; exact Kd.own_blk (Kd.R_ne HO222.out BK228.out (by decide))) | (dsimp only; exact Kd.own_blk (Kd.R_ne HO222.out BK228.out (by decide)))) _).trans (((cell_far (p := ⟨gb228, _, none⟩) (by first | exact Kd.own_blk (Kd.R_ne HO222.out BK228.out (by decide)) | (rw [add_block]; exact Kd.own_blk (Kd.R_ne HO222.out BK228.out (by decide))) | (show (Addr.add _ _).block ≠ _; rw [add_block]; exact Kd.own_blk (Kd.R_ne HO222.out BK228.out (by decide))) | (dsimp only; exact Kd.own_blk (Kd.R_ne HO222.out BK228.out (by decide)))) _).trans (hHeld))))))))) (fun hHeld => ?_)
    clear hK K
    refine done_ (done_of HT_.out (by kernel_rfl)) ?_
    have p229 : 0 ≤ (2 : Int) := (by omega)
    have q229 : 2 < (y220.length : Int) := of_decide_eq_true (by first | (with_reducible assumption) | assumption)
    obtain ⟨ad229, e229, hx229_0⟩ := Kd.at_string (Kd.R_reads' HO222.out).2.2 2 p229 q229
    obtain rfl : ad226 = ad229 := (by injection e229)
    (try simp only [show (2 : Int).toNat = 2 from rfl, Nat.reduceMul, Nat.reduceEqDiff, Go.Addr.add, ↓reduceIte] at hx229_0)
    have qi229 : (2 < y220.length) = True := eq_true (by omega)
    (try rw [show ((2 : Int)).toNat = 2 from rfl] at hx229_0)
    have hn229_0 : ad226.block ≠ gb228 := Kd.own_blk (Kd.R_ne HO222.out BK228.out (by decide))
    have hn229_1 : ad226.block ≠ gb228 := Kd.own_blk (Kd.R_ne HO222.out BK228.out (by decide))
    have hn229_2 : ad226.block ≠ gb228 := Kd.own_blk (Kd.R_ne HO222.out BK228.out (by decide))
    have hn229_3 : ad226.block ≠ gb228 := Kd.own_blk (Kd.R_ne HO222.out BK228.out (by decide))
    replace hx229_0 := (cell_far (p := ⟨gb228, 0, none⟩) (by first | (rw [add_block]; exact hn229_0) | (show (Addr.add _ _).block ≠ _; rw [add_block]; exact hn229_0) | exact hn229_0) (.int .i64 ji8)).trans hx229_0
    replace hx229_0 := (cell_far (p := ⟨gb228, 1, none⟩) (by first | (rw [add_block]; exact hn229_1) | (show (Addr.add _ _).block ≠ _; rw [add_block]; exact hn229_1) | exact hn229_1) (.int .u64 0)).trans hx229_0
    replace hx229_0 := (cell_far (p := ⟨gb228, 2, none⟩) (by first | (rw [add_block]; exact hn229_2) | (show (Addr.add _ _).block ≠ _; rw [add_block]; exact hn229_2) | exact hn229_2) (.int .u64 0)).trans hx229_0
    replace hx229_0 := (cell_far (p := ⟨gb228, 3, none⟩) (by first | (rw [add_block]; exact hn229_3) | (show (Addr.add _ _).block ≠ _; rw [add_block]; exact hn229_3) | exact hn229_3) (.int .i64 0)).trans hx229_0
    clear hn229_0
    clear hn229_1
    clear hn229_2
    clear hn229_3
    replace p229 := eq_true p229
    replace q229 := eq_true q229
    go_upto_block 0 with (first | ((with_reducible refine gate_callee (f := 28) rfl ?_); refine goesL_ (some 27) rfl rfl Tryd.func28 (by kernel_rfl) rfl #[.string (rdOf ByteArray.empty y220 2)] rfl (by (try simp only [List.map_toArray, List.map_cons, List.map_nil]); first | done | rfl | (simp only [List.length_drop, List.length_take]; rfl)) ?_; (with_reducible refine (tale_number.calls (rdOf ByteArray.empty y220 2) t230 t231 _ A10.out HTT.out (by repeat (first | (with_reducible first | exact HB.out | apply below_alloc | apply pw_below_drewN | apply below_drew1 | refine below_set ?_ GE212.out | refine below_set ?_ GE213.out | refine below_set ?_ GE228.out) | exact HB.out))).mono ?_); rintro e w29 ⟨rfl, hb⟩; refine ⟨_, rfl, ?_⟩; have n0_ := Aside0.mk (Kd.R_below (by (with_reducible repeat (first | apply Kd.R_alloc | apply Kd.R_drewN | apply Kd.R_drew)); exact (Kd.R_mono (Kd.R_far (p := ⟨gb228, 3, none⟩) (Kd.R_far (p := ⟨gb228, 2, none⟩) (Kd.R_far (p := ⟨gb228, 1, none⟩) (Kd.R_far (p := ⟨gb228, 0, none⟩) (Kd.R_types HO219.out BK228.out (by decide)) (fun _ hk => hk.2) (.int .i64 ji8)) (fun _ hk => hk.2) (.int .u64 0)) (fun _ hk => hk.2) (.int .u64 0)) (fun _ hk => hk.2) (.int .i64 0)) (fun _ h_ => h_.1))) hb); have n1_ := Aside0.mk (Kd.R_below (by (with_reducible repeat (first | apply Kd.R_alloc | apply Kd.R_drewN | apply Kd.R_drew)); exact (Kd.R_mono (Kd.R_far (p := ⟨gb228, 3, none⟩) (Kd.R_far (p := ⟨gb228, 2, none⟩) (Kd.R_far (p := ⟨gb228, 1, none⟩) (Kd.R_far (p := ⟨gb228, 0, none⟩) (Kd.R_types HO222.out BK228.out (by decide)) (fun _ hk => hk.2) (.int .i64 ji8)) (fun _ hk => hk.2) (.int .u64 0)) (fun _ hk => hk.2) (.int .u64 0)) (fun _ hk => hk.2) (.int .i64 0)) (fun _ h_ => h_.1))) hb); have n2_ := Aside0.mk (Kd.R_below (by (with_reducible repeat (first | apply Kd.R_alloc | apply Kd.R_drewN | apply Kd.R_drew)); exact (Kd.R_mono (Kd.R_far (p := ⟨gb228, 3, none⟩) (Kd.R_far (p := ⟨gb228, 2, none⟩) (Kd.R_far (p := ⟨gb228, 1, none⟩) (Kd.R_far (p := ⟨gb228, 0, none⟩) (Kd.R_types HO225.out BK228.out (by decide)) (fun _ hk => hk.2) (.int .i64 ji8)) (fun _ hk => hk.2) (.int .u64 0)) (fun _ hk => hk.2) (.int .u64 0)) (fun _ hk => hk.2) (.int .i64 0)) (fun _ h_ => h_.1))) hb); have n3_ := Aside0.mk (blk_below (g := gb212) (o := .cells #[.int .i64 a0_0, .int .i64 a0_1, .int .i64 a0_2, .int .i64 a0_3, .int .i64 a0_4] 31 (0, 0)) (by (with_reducible repeat (first | refine blk_drewN ?_ _ | refine blk_drew ?_ | refine blk_alloc ?_ _)); refine blk_far ?_ NB212_228.out _; (with_reducible repeat (first | refine blk_drewN ?_ _ | refine blk_drew ?_ | refine blk_alloc ?_ _)); refine blk_far ?_ NB212_228.out _; (with_reducible repeat (first | refine blk_drewN ?_ _ | refine blk_drew ?_ | refine blk_alloc ?_ _)); refine blk_far ?_ NB212_228.out _; (with_reducible repeat (first | refine blk_drewN ?_ _ | refine blk_drew ?_ | refine blk_alloc ?_ _)); refine blk_far ?_ NB212_228.out _; (with_reducible repeat (first | refine blk_drewN ?_ _ | refine blk_drew ?_ | refine blk_alloc ?_ _)); exact BK212.out) hb); have n4_ := Aside0.mk (blk_below (g := gb213) (o := .cells #[.int .i64 0, .int .u64 0, .int .u64 0, .int .i64 0] 33 (0, 0)) (by (with_reducible repeat (first | refine blk_drewN ?_ _ | refine blk_drew ?_ | refine blk_alloc ?_ _)); refine blk_far ?_ NB213_228.out _; (with_reducible repeat (first | refine blk_drewN ?_ _ | refine blk_drew ?_ | refine blk_alloc ?_ _)); refine blk_far ?_ NB213_228.out _; (with_reducible repeat (first | refine blk_drewN ?_ _ | refine blk_drew ?_ | refine blk_alloc ?_ _)); refine blk_far ?_ NB213_228.out _; (with_reducible repeat (first | refine blk_drewN ?_ _ | refine blk_drew ?_ | refine blk_alloc ?_ _)); refine blk_far ?_ NB213_228.out _; (with_reducible repeat (first | refine blk_drewN ?_ _ | refine blk_drew ?_ | refine blk_alloc ?_ _)); exact BK213.out) hb); have n5_ := Aside0.mk (blk_below (g := gb228) (o := .cells #[.int .i64 ji8, .int .u64 0, .int .u64 0, .int .i64 0] 33 (0, 0)) (by (with_reducible repeat (first | refine blk_drewN ?_ _ | refine blk_drew ?_ | refine blk_alloc ?_ _)); refine blk_put (cs := #[.int .i64 ji8, .int .u64 0, .int .u64 0, .int .i64 0]) ?_ 3 _ rfl; (with_reducible repeat (first | refine blk_drewN ?_ _ | refine blk_drew ?_ | refine blk_alloc ?_ _)); refine blk_put (cs := #[.int .i64 ji8, .int .u64 0, .int .u64 0, .int .i64 0]) ?_ 2 _ rfl; (with_reducible repeat (first | refine blk_drewN ?_ _ | refine blk_drew ?_ | refine blk_alloc ?_ _)); refine blk_put (cs := #[.int .i64 ji8, .int .u64 0, .int .u64 0, .int .i64 0]) ?_ 1 _ rfl; (with_reducible repeat (first | refine blk_drewN ?_ _ | refine blk_drew ?_ | refine blk_alloc ?_ _)); refine blk_put (cs := #[.int .i64 0, .int .u64 0, .int .u64 0, .int .i64 0]) ?_ 0 _ rfl; (with_reducible repeat (first | refine blk_drewN ?_ _ | refine blk_drew ?_ | refine blk_alloc ?_ _)); exact BK228.out) hb); have n6_ := Aside0.mk (below_step (by repeat (first | (with_reducible first | exact HB.out | apply below_alloc | apply pw_below_drewN | apply below_drew1 | refine below_set ?_ GE212.out | refine below_set ?_ GE213.out | refine below_set ?_ GE228.out) | exact HB.out)) hb); clear HO219; clear HO222; clear HO225; clear BK212; clear BK213; clear BK228; clear HB; have HO219 := n0_; have HO222 := n1_; have HO225 := n2_; have BK212 := n3_; have BK213 := n4_; have BK228 := n5_; have HB := n6_; clear n0_ n1_ n2_ n3_ n4_ n5_ n6_; (try clear hb); (try clear hb2); (try clear hk); (try clear hi); have hnb30 := NB228_212.out; have hnc30 := NB212_228.out; have hnb31 := NB228_213.out; have hnc31 := NB213_228.out; have hcz32_0 : w29.cell? ⟨gb228, 0, none⟩ = some (.int .i64 ji8) := (blk_cell BK228.out 0).trans rfl; have hcz32_1 : w29.cell? ⟨gb228, 1, none⟩ = some (.int .u64 0) := (blk_cell BK228.out 1).trans rfl; have hcz32_2 : w29.cell? ⟨gb228, 2, none⟩ = some (.int .u64 0) := (blk_cell BK228.out 2).trans rfl; have hcz32_3 : w29.cell? ⟨gb228, 3, none⟩ = some (.int .i64 0) := (blk_cell BK228.out 3).trans rfl; have hfz32_0 := blk_frozen BK228.out 0; have hfz32_1 := blk_frozen BK228.out 1; have hfz32_2 := blk_frozen BK228.out 2; have hfz32_3 := blk_frozen BK228.out 3))
    (try simp only [Act.put, List.setIfInBounds_toArray, List.set_cons_zero, List.set_cons_succ])
    go_cut [] (fun wc => ∃ (kq : Nat) (x229001_10 : Int) (x229002_10 : Int) (x229003_10 : Int), Aside0 (tale_ReadOp.j1 kq a1 y220 a0_0 a0_1 a0_2 a0_3 a0_4 ji8 x229001_10 x229002_10 x229003_10 = some (r1, r2, r3, r4, r5, r6)) ∧ Aside0 (kq ≤ k) ∧ Aside0 (Kd.R Kd.string 9 wc w.heap.size (fun _ => True) (.slice (some ad226) y220.length co20) y220) ∧ Aside0 (wc.heap[gb212]? = some (.cells #[.int .i64 a0_0, .int .i64 a0_1, .int .i64 a0_2, .int .i64 a0_3, .int .i64 a0_4] 31 (0, 0))) ∧ Aside0 (wc.heap[gb213]? = some (.cells #[.int .i64 0, .int .u64 0, .int .u64 0, .int .i64 0] 33 (0, 0))) ∧ Aside0 (wc.heap[gb228]? = some (.cells #[.int .i64 ji8, .int .u64 x229001_10, .int .u64 x229002_10, .int .i64 x229003_10] 33 (0, 0))) ∧ Aside0 (Below w.heap.size w wc))
    case first =>
     have H := HC11.out
     clear HC11
     by_cases c33 : (ji8) = 1
     ·rw [if_pos c33] at H
      have c33b0 : ((ji8) == 1) = true := beq_iff_eq.mpr c33
      have c33b1 : ((ji8) != 1) = false := bne_eq_false_iff_eq.mpr c33
      clear c33
      (first | rw [c33b0] | (simp only [i64_w, i32_w]; rw [c33b0]) | skip)
      by_cases c34 : a0_0 = 3
      ·rw [if_pos c34] at H
       have c34b0 : (a0_0 == 3) = true := beq_iff_eq.mpr c34
       have c34b1 : (a0_0 != 3) = false := bne_eq_false_iff_eq.mpr c34
       clear c34
       by_cases c35 : 3 < (y220.length : Int)
       ·rw [if_pos c35] at H
        have c35b0 : decide (3 < (y220.length : Int)) = true := decide_eq_true c35
        have c35b1 : decide (3 < y220.length) = true := decide_eq_true (by omega)
        clear c35
        replace H := Option.bind_eq_some_iff.mp H
        obtain ⟨t233, A360, H⟩ := H
        replace H : (tale_ReadOp.j1 k a1 y220 a0_0 a0_1 a0_2 a0_3 a0_4 ji8 t230 0 t233) = some (r1, r2, r3, r4, r5, r6) := H
        have A36 := Aside0.mk A360
        clear A360
        have H' := Aside0.mk H
        clear H
        have hnb37 := NB212_213.out
        have hnc37 := NB213_212.out
        have hnb38 := NB212_228.out
        have hnc38 := NB228_212.out
        have hcz39_0 : w29.cell? ⟨gb212, 0, none⟩ = some (.int .i64 a0_0) := (blk_cell BK212.out 0).trans rfl
        have hcz39_1 : w29.cell? ⟨gb212, 1, none⟩ = some (.int .i64 a0_1) := (blk_cell BK212.out 1).trans rfl
        have hcz39_2 : w29.cell? ⟨gb212, 2, none⟩ = some (.int .i64 a0_2) := (blk_cell BK212.out 2).trans rfl
        have hcz39_3 : w29.cell? ⟨gb212, 3, none⟩ = some (.int .i64 a0_3) := (blk_cell BK212.out 3).trans rfl
        have hcz39_4 : w29.cell? ⟨gb212, 4, none⟩ = some (.int .i64 a0_4) := (blk_cell BK212.out 4).trans rfl
        have hfz39_0 := blk_frozen BK212.out 0
        have hfz39_1 := blk_frozen BK212.out 1
        have hfz39_2 := blk_frozen BK212.out 2
        have hfz39_3 := blk_frozen BK212.out 3
        have hfz39_4 := blk_frozen BK212.out 4
        have p232 : 0 ≤ (3 : Int) := (by omega)
        have q232 : 3 < (y220.length : Int) := of_decide_eq_true (by first | (with_reducible assumption) | assumption)
        obtain ⟨ad232, e232, hx232_0⟩ := Kd.at_string (Kd.R_reads' HO222.out).2.2 3 p232 q232
        obtain rfl : ad226 = ad232 := (by injection e232)
        (try simp only [show (3 : Int).toNat = 3 from rfl, Nat.reduceMul, Nat.reduceEqDiff, Go.Addr.add, ↓reduceIte] at hx232_0)
        have qi232 : (3 < y220.length) = True := eq_true (by omega)
        (try rw [show ((3 : Int)).toNat = 3 from rfl] at hx232_0)
        have hn232_0 : ad226.block ≠ gb228 := Kd.own_blk (Kd.R_ne HO222.out BK228.out (by decide))
        replace hx232_0 := (cell_far (p := ⟨gb228, 1, none⟩) (by first | (rw [add_block]; exact hn232_0) | (show (Addr.add _ _).block ≠ _; rw [add_block]; exact hn232_0) | exact hn232_0) (.int .u64 t230)).trans hx232_0
        clear hn232_0
        replace p232 := eq_true p232
        replace q232 := eq_true q232
        go_wp2_with (first | ((with_reducible refine gate_callee (f := 29) rfl ?_); refine goesL_ (some 41) rfl rfl Tryd.func29 (by kernel_rfl) rfl #[.string (rdOf ByteArray.empty y220 3)] rfl (by (try simp only [List.map_toArray, List.map_cons, List.map_nil]); first | done | rfl | (simp only [List.length_drop, List.length_take]; rfl)) ?_; (with_reducible refine (tale_small.calls (rdOf ByteArray.empty y220 3) t233 _ A36.out HTT.out (by repeat (first | (with_reducible first | exact HB.out | apply below_alloc | apply pw_below_drewN | apply below_drew1 | refine below_set ?_ GE212.out | refine below_set ?_ GE213.out | refine below_set ?_ GE228.out) | exact HB.out))).mono ?_); rintro e w40 ⟨rfl, hb⟩; refine ⟨_, rfl, ?_⟩; have n0_ := Aside0.mk (Kd.R_below (by (with_reducible repeat (first | apply Kd.R_alloc | apply Kd.R_drewN | apply Kd.R_drew)); exact (Kd.R_mono (Kd.R_far (p := ⟨gb228, 1, none⟩) (Kd.R_types HO219.out BK228.out (by decide)) (fun _ hk => hk.2) (.int .u64 t230)) (fun _ h_ => h_.1))) hb); have n1_ := Aside0.mk (Kd.R_below (by (with_reducible repeat (first | apply Kd.R_alloc | apply Kd.R_drewN | apply Kd.R_drew)); exact (Kd.R_mono (Kd.R_far (p := ⟨gb228, 1, none⟩) (Kd.R_types HO222.out BK228.out (by decide)) (fun _ hk => hk.2) (.int .u64 t230)) (fun _ h_ => h_.1))) hb); have n2_ := Aside0.mk (Kd.R_below (by (with_reducible repeat (first | apply Kd.R_alloc | apply Kd.R_drewN | apply Kd.R_drew)); exact (Kd.R_mono (Kd.R_far (p := ⟨gb228, 1, none⟩) (Kd.R_types HO225.out BK228.out (by decide)) (fun _ hk => hk.2) (.int .u64 t230)) (fun _ h_ => h_.1))) hb); have n3_ := Aside0.mk (blk_below (g := gb212) (o := .cells #[.int .i64 a0_0, .int .i64 a0_1, .int .i64 a0_2, .int .i64 a0_3, .int .i64 a0_4] 31 (0, 0)) (by (with_reducible repeat (first | refine blk_drewN ?_ _ | refine blk_drew ?_ | refine blk_alloc ?_ _)); refine blk_far ?_ NB212_228.out _; (with_reducible repeat (first | refine blk_drewN ?_ _ | refine blk_drew ?_ | refine blk_alloc ?_ _)); exact BK212.out) hb); have n4_ := Aside0.mk (blk_below (g := gb213) (o := .cells #[.int .i64 0, .int .u64 0, .int .u64 0, .int .i64 0] 33 (0, 0)) (by (with_reducible repeat (first | refine blk_drewN ?_ _ | refine blk_drew ?_ | refine blk_alloc ?_ _)); refine blk_far ?_ NB213_228.out _; (with_reducible repeat (first | refine blk_drewN ?_ _ | refine blk_drew ?_ | refine blk_alloc ?_ _)); exact BK213.out) hb); have n5_ := Aside0.mk (blk_below (g := gb228) (o := .cells #[.int .i64 ji8, .int .u64 t230, .int .u64 0, .int .i64 0] 33 (0, 0)) (by (with_reducible repeat (first | refine blk_drewN ?_ _ | refine blk_drew ?_ | refine blk_alloc ?_ _)); refine blk_put (cs := #[.int .i64 ji8, .int .u64 0, .int .u64 0, .int .i64 0]) ?_ 1 _ rfl; (with_reducible repeat (first | refine blk_drewN ?_ _ | refine blk_drew ?_ | refine blk_alloc ?_ _)); exact BK228.out) hb); have n6_ := Aside0.mk (below_step (by repeat (first | (with_reducible first | exact HB.out | apply below_alloc | apply pw_below_drewN | apply below_drew1 | refine below_set ?_ GE212.out | refine below_set ?_ GE213.out | refine below_set ?_ GE228.out) | exact HB.out)) hb); clear HO219; clear HO222; clear HO225; clear BK212; clear BK213; clear BK228; clear HB; have HO219 := n0_; have HO222 := n1_; have HO225 := n2_; have BK212 := n3_; have BK213 := n4_; have BK228 := n5_; have HB := n6_; clear n0_ n1_ n2_ n3_ n4_ n5_ n6_; (try clear hb); (try clear hb2); (try clear hk); (try clear hi); have hnb41 := NB228_213.out; have hnc41 := NB213_228.out; have hcz42_0 : w40.cell? ⟨gb228, 0, none⟩ = some (.int .i64 ji8) := (blk_cell BK228.out 0).trans rfl; have hcz42_1 : w40.cell? ⟨gb228, 1, none⟩ = some (.int .u64 t230) := (blk_cell BK228.out 1).trans rfl; have hcz42_2 : w40.cell? ⟨gb228, 2, none⟩ = some (.int .u64 0) := (blk_cell BK228.out 2).trans rfl; have hcz42_3 : w40.cell? ⟨gb228, 3, none⟩ = some (.int .i64 0) := (blk_cell BK228.out 3).trans rfl; have hfz42_0 := blk_frozen BK228.out 0; have hfz42_1 := blk_frozen BK228.out 1; have hfz42_2 := blk_frozen BK228.out 2; have hfz42_3 := blk_frozen BK228.out 3))
        go_meet
        case rel => exact ⟨_, (t230), (0), (t233), H', ⟨by first | omega | exact Nat.le_refl _⟩, ⟨by (with_reducible repeat (first | apply Kd.R_alloc | apply Kd.R_drewN | apply Kd.R_drew)); exact Kd.R_mono (Kd.R_far (p := ⟨gb228, 3, none⟩) (Kd.R_types HO222.out BK228.out (by decide)) (fun _ hk => hk.2) (.int .i64 t233)) (fun _ hk => trivial)⟩, ⟨by (with_reducible repeat (first | refine blk_drewN ?_ _ | refine blk_drew ?_ | refine blk_alloc ?_ _)); refine blk_far ?_ NB212_228.out _; (with_reducible repeat (first | refine blk_drewN ?_ _ | refine blk_drew ?_ | refine blk_alloc ?_ _)); exact BK212.out⟩, ⟨by (with_reducible repeat (first | refine blk_drewN ?_ _ | refine blk_drew ?_ | refine blk_alloc ?_ _)); refine blk_far ?_ NB213_228.out _; (with_reducible repeat (first | refine blk_drewN ?_ _ | refine blk_drew ?_ | refine blk_alloc ?_ _)); exact BK213.out⟩, ⟨by (with_reducible repeat (first | refine blk_drewN ?_ _ | refine blk_drew ?_ | refine blk_alloc ?_ _)); refine blk_put (cs := #[.int .i64 ji8, .int .u64 t230, .int .u64 0, .int .i64 0]) ?_ 3 _ rfl; (with_reducible repeat (first | refine blk_drewN ?_ _ | refine blk_drew ?_ | refine blk_alloc ?_ _)); exact BK228.out⟩, ⟨by repeat (first | (with_reducible first | exact HB.out | apply below_alloc | apply pw_below_drewN | apply below_drew1 | refine below_set ?_ GE212.out | refine below_set ?_ GE213.out | refine below_set ?_ GE228.out) | exact HB.out)⟩⟩
       ·rw [if_neg c35] at H
        exact absurd H (by simp)
      ·rw [if_neg c34] at H
       have c34b0 : (a0_0 == 3) = false := beq_eq_false_iff_ne.mpr c34
       have c34b1 : (a0_0 != 3) = true := bne_iff_ne.mpr c34
       have H' := Aside0.mk H
       clear H
       have hnb43 := NB212_213.out
       have hnc43 := NB213_212.out
       have hnb44 := NB212_228.out
       have hnc44 := NB228_212.out
       have hcz45_0 : w29.cell? ⟨gb212, 0, none⟩ = some (.int .i64 a0_0) := (blk_cell BK212.out 0).trans rfl
       have hcz45_1 : w29.cell? ⟨gb212, 1, none⟩ = some (.int .i64 a0_1) := (blk_cell BK212.out 1).trans rfl
       have hcz45_2 : w29.cell? ⟨gb212, 2, none⟩ = some (.int .i64 a0_2) := (blk_cell BK212.out 2).trans rfl
       have hcz45_3 : w29.cell? ⟨gb212, 3, none⟩ = some (.int .i64 a0_3) := (blk_cell BK212.out 3).trans rfl
       have hcz45_4 : w29.cell? ⟨gb212, 4, none⟩ = some (.int .i64 a0_4) := (blk_cell BK212.out 4).trans rfl
       have hfz45_0 := blk_frozen BK212.out 0
       have hfz45_1 := blk_frozen BK212.out 1
       have hfz45_2 := blk_frozen BK212.out 2
       have hfz45_3 := blk_frozen BK212.out 3
       have hfz45_4 := blk_frozen BK212.out 4
       go_wp2
       go_meet
       case rel => exact ⟨_, (t230), (0), (0), H', ⟨by first | omega | exact Nat.le_refl _⟩, ⟨by (with_reducible repeat (first | apply Kd.R_alloc | apply Kd.R_drewN | apply Kd.R_drew)); exact Kd.R_mono (Kd.R_far (p := ⟨gb228, 1, none⟩) (Kd.R_types HO222.out BK228.out (by decide)) (fun _ hk => hk.2) (.int .u64 t230)) (fun _ hk => trivial)⟩, ⟨by (with_reducible repeat (first | refine blk_drewN ?_ _ | refine blk_drew ?_ | refine blk_alloc ?_ _)); refine blk_far ?_ NB212_228.out _; (with_reducible repeat (first | refine blk_drewN ?_ _ | refine blk_drew ?_ | refine blk_alloc ?_ _)); exact BK212.out⟩, ⟨by (with_reducible repeat (first | refine blk_drewN ?_ _ | refine blk_drew ?_ | refine blk_alloc ?_ _)); refine blk_far ?_ NB213_228.out _; (with_reducible repeat (first | refine blk_drewN ?_ _ | refine blk_drew ?_ | refine blk_alloc ?_ _)); exact BK213.out⟩, ⟨by (with_reducible repeat (first | refine blk_drewN ?_ _ | refine blk_drew ?_ | refine blk_alloc ?_ _)); refine blk_put (cs := #[.int .i64 ji8, .int .u64 0, .int .u64 0, .int .i64 0]) ?_ 1 _ rfl; (with_reducible repeat (first | refine blk_drewN ?_ _ | refine blk_drew ?_ | refine blk_alloc ?_ _)); exact BK228.out⟩, ⟨by repeat (first | (with_reducible first | exact HB.out | apply below_alloc | apply pw_below_drewN | apply below_drew1 | refine below_set ?_ GE212.out | refine below_set ?_ GE213.out | refine below_set ?_ GE228.out) | exact HB.out)⟩⟩
     ·rw [if_neg c33] at H
      have c33b0 : ((ji8) == 1) = false := beq_eq_false_iff_ne.mpr c33
      have c33b1 : ((ji8) != 1) = true := bne_iff_ne.mpr c33
      (first | rw [c33b0] | (simp only [i64_w, i32_w]; rw [c33b0]) | skip)
      have HC46 := Aside0.mk H
      clear H
      go_upto_if 43 with (fail)
      go_cut [43] (fun v43 wc => ∃ (kq : Nat) (x43_45 : Bool), v43 = .bool x43_45 ∧ Aside0 (tale_ReadOp.j0 kq a1 y220 ji8 x43_45 a0_0 a0_1 a0_2 a0_3 a0_4 ji8 t230 0 0 = some (r1, r2, r3, r4, r5, r6)) ∧ Aside0 (kq ≤ k) ∧ Aside0 (Kd.R Kd.string 9 wc w.heap.size (fun _ => True) (.slice (some ad226) y220.length co20) y220) ∧ Aside0 (wc.heap[gb212]? = some (.cells #[.int .i64 a0_0, .int .i64 a0_1, .int .i64 a0_2, .int .i64 a0_3, .int .i64 a0_4] 31 (0, 0))) ∧ Aside0 (wc.heap[gb213]? = some (.cells #[.int .i64 0, .int .u64 0, .int .u64 0, .int .i64 0] 33 (0, 0))) ∧ Aside0 (wc.heap[gb228]? = some (.cells #[.int .i64 ji8, .int .u64 t230, .int .u64 0, .int .i64 0] 33 (0, 0))) ∧ Aside0 (Below w.heap.size w wc))
      case first =>
       have H := HC46.out
       clear HC46
       by_cases c47 : (ji8) = 4
       ·rw [if_pos c47] at H
        have c47b0 : ((ji8) == 4) = true := beq_iff_eq.mpr c47
        have c47b1 : ((ji8) != 4) = false := bne_eq_false_iff_eq.mpr c47
        clear c47
        (first | rw [c47b0] | (simp only [i64_w, i32_w]; rw [c47b0]) | skip)
        have H' := Aside0.mk H
        clear H
        go_wp2
        go_meet
        case rel => exact ⟨_, (((ji8) == 4)), (by first | rfl | exact congrArg Value.bool (Eq.symm (by assumption)) | (simp; done) | (simp only [← hji8] <;> (first | rfl | simp)) | (simp [*]; done)), H', ⟨by first | omega | exact Nat.le_refl _⟩, ⟨by (with_reducible repeat (first | apply Kd.R_alloc | apply Kd.R_drewN | apply Kd.R_drew)); exact Kd.R_mono (Kd.R_far (p := ⟨gb228, 1, none⟩) (Kd.R_types HO222.out BK228.out (by decide)) (fun _ hk => hk.2) (.int .u64 t230)) (fun _ hk => trivial)⟩, ⟨by (with_reducible repeat (first | refine blk_drewN ?_ _ | refine blk_drew ?_ | refine blk_alloc ?_ _)); refine blk_far ?_ NB212_228.out _; (with_reducible repeat (first | refine blk_drewN ?_ _ | refine blk_drew ?_ | refine blk_alloc ?_ _)); exact BK212.out⟩, ⟨by (with_reducible repeat (first | refine blk_drewN ?_ _ | refine blk_drew ?_ | refine blk_alloc ?_ _)); refine blk_far ?_ NB213_228.out _; (with_reducible repeat (first | refine blk_drewN ?_ _ | refine blk_drew ?_ | refine blk_alloc ?_ _)); exact BK213.out⟩, ⟨by (with_reducible repeat (first | refine blk_drewN ?_ _ | refine blk_drew ?_ | refine blk_alloc ?_ _)); refine blk_put (cs := #[.int .i64 ji8, .int .u64 0, .int .u64 0, .int .i64 0]) ?_ 1 _ rfl; (with_reducible repeat (first | refine blk_drewN ?_ _ | refine blk_drew ?_ | refine blk_alloc ?_ _)); exact BK228.out⟩, ⟨by repeat (first | (with_reducible first | exact HB.out | apply below_alloc | apply pw_below_drewN | apply below_drew1 | refine below_set ?_ GE212.out | refine below_set ?_ GE213.out | refine below_set ?_ GE228.out) | exact HB.out)⟩⟩
       ·rw [if_neg c47] at H
        have c47b0 : ((ji8) == 4) = false := beq_eq_false_iff_ne.mpr c47
        have c47b1 : ((ji8) != 4) = true := bne_iff_ne.mpr c47
        (first | rw [c47b0] | (simp only [i64_w, i32_w]; rw [c47b0]) | skip)
        have H' := Aside0.mk H
        clear H
        go_wp2
        go_meet
        case rel => exact ⟨_, (((ji8) == 5)), (by first | rfl | exact congrArg Value.bool (Eq.symm (by assumption)) | (simp; done) | (simp only [← hji8] <;> (first | rfl | simp)) | (simp [*]; done)), H', ⟨by first | omega | exact Nat.le_refl _⟩, ⟨by (with_reducible repeat (first | apply Kd.R_alloc | apply Kd.R_drewN | apply Kd.R_drew)); exact Kd.R_mono (Kd.R_far (p := ⟨gb228, 1, none⟩) (Kd.R_types HO222.out BK228.out (by decide)) (fun _ hk => hk.2) (.int .u64 t230)) (fun _ hk => trivial)⟩, ⟨by (with_reducible repeat (first | refine blk_drewN ?_ _ | refine blk_drew ?_ | refine blk_alloc ?_ _)); refine blk_far ?_ NB212_228.out _; (with_reducible repeat (first | refine blk_drewN ?_ _ | refine blk_drew ?_ | refine blk_alloc ?_ _)); exact BK212.out⟩, ⟨by (with_reducible repeat (first | refine blk_drewN ?_ _ | refine blk_drew ?_ | refine blk_alloc ?_ _)); refine blk_far ?_ NB213_228.out _; (with_reducible repeat (first | refine blk_drewN ?_ _ | refine blk_drew ?_ | refine blk_alloc ?_ _)); exact BK213.out⟩, ⟨by (with_reducible repeat (first | refine blk_drewN ?_ _ | refine blk_drew ?_ | refine blk_alloc ?_ _)); refine blk_put (cs := #[.int .i64 ji8, .int .u64 0, .int .u64 0, .int .i64 0]) ?_ 1 _ rfl; (with_reducible repeat (first | refine blk_drewN ?_ _ | refine blk_drew ?_ | refine blk_alloc ?_ _)); exact BK228.out⟩, ⟨by repeat (first | (with_reducible first | exact HB.out | apply below_alloc | apply pw_below_drewN | apply below_drew1 | refine below_set ?_ GE212.out | refine below_set ?_ GE213.out | refine below_set ?_ GE228.out) | exact HB.out)⟩⟩
      case rest =>
       clear HC46
       try clear c1
       try clear c2
       try clear p2
       try clear q2
       try clear hx2
       try clear qi2
       try clear c3
       try clear c4
       try clear c6
       try clear c6b1
       try clear c9
       try clear c9b0
       try clear c9b1
       try clear c12
       try clear p22
       try clear q22
       try clear hx22
       try clear qi22
       try clear c23
       try clear p23
       try clear q23
       try clear hx23
       try clear qi23
       try clear c26
       try clear c27
       try clear c28
       try clear c29
       try clear c30
       try clear c31
       try clear c33
       try clear c33b0
       try clear c33b1
       try clear c34
       try clear c34b0
       try clear c34b1
       try clear c35
       try clear c35b0
       try clear c35b1
       try clear c37
       try clear c38
       try clear c41
       try clear c43
       try clear c44
       try clear c47
       try clear c47b0
       try clear c47b1
       try clear hcz32_0
       try clear hcz32_1
       try clear hcz32_2
       try clear hcz32_3
       try clear hcz39_0
       try clear hcz39_1
       try clear hcz39_2
       try clear hcz39_3
       try clear hcz39_4
       try clear hcz42_0
       try clear hcz42_1
       try clear hcz42_2
       try clear hcz42_3
       try clear hcz45_0
       try clear hcz45_1
       try clear hcz45_2
       try clear hcz45_3
       try clear hcz45_4
       try clear hfz32_0
       try clear hfz32_1
       try clear hfz32_2
       try clear hfz32_3
       try clear hfz39_0
       try clear hfz39_1
       try clear hfz39_2
       try clear hfz39_3
       try clear hfz39_4
       try clear hfz42_0
       try clear hfz42_1
       try clear hfz42_2
       try clear hfz42_3
       try clear hfz45_0
       try clear hfz45_1
       try clear hfz45_2
       try clear hfz45_3
       try clear hfz45_4
       try clear hx226_0
       try clear hx229_0
       try clear hx232_0
       try clear p226
       try clear p229
       try clear p232
       try clear q226
       try clear q229
       try clear q232
       obtain ⟨kq, x43_45, rfl, HA, HJ45, HO_7, BK212, BK213, BK228, HB⟩ := hcut
       cases kq with
       | zero => exact absurd HA.out (by simp [tale_ReadOp.j0])
       | succ kj45 =>
        have H := HA.out
        clear HA
        simp only [tale_ReadOp.j0] at H
        by_cases c48 : x43_45 = true
        ·subst c48
         have H1 : (if 3 < (y220.length : Int) then ((tale_number.f (rdOf ByteArray.empty y220 3)).bind fun bt235 => (tale_ReadOp.j1 kj45 a1 y220 a0_0 a0_1 a0_2 a0_3 a0_4 ji8 t230 bt235.1 0)) else (none)) = some (r1, r2, r3, r4, r5, r6) := by rw [if_pos rfl] at H; exact H
         clear H
         have H := H1
         clear H1
         by_cases c49 : 3 < (y220.length : Int)
         ·rw [if_pos c49] at H
          have c49b0 : decide (3 < (y220.length : Int)) = true := decide_eq_true c49
          have c49b1 : decide (3 < y220.length) = true := decide_eq_true (by omega)
          clear c49
          replace H := Option.bind_eq_some_iff.mp H
          obtain ⟨⟨t235, t236⟩, A500, H⟩ := H
          replace H : (tale_ReadOp.j1 kj45 a1 y220 a0_0 a0_1 a0_2 a0_3 a0_4 ji8 t230 t235 0) = some (r1, r2, r3, r4, r5, r6) := H
          have A50 := Aside0.mk A500
          clear A500
          have H' := Aside0.mk H
          clear H
          have p234 : 0 ≤ (3 : Int) := (by omega)
          have q234 : 3 < (y220.length : Int) := of_decide_eq_true (by first | (with_reducible assumption) | assumption)
          obtain ⟨ad234, e234, hx234_0⟩ := Kd.at_string (Kd.R_reads' HO_7.out).2.2 3 p234 q234
          obtain rfl : ad226 = ad234 := (by injection e234)
          (try simp only [show (3 : Int).toNat = 3 from rfl, Nat.reduceMul, Nat.reduceEqDiff, Go.Addr.add, ↓reduceIte] at hx234_0)
          have qi234 : (3 < y220.length) = True := eq_true (by omega)
          (try rw [show ((3 : Int)).toNat = 3 from rfl] at hx234_0)
          replace p234 := eq_true p234
          replace q234 := eq_true q234
          go_wp2_with (first | ((with_reducible refine gate_callee (f := 28) rfl ?_); refine goesL_ (some 50) rfl rfl Tryd.func28 (by kernel_rfl) rfl #[.string (rdOf ByteArray.empty y220 3)] rfl (by (try simp only [List.map_toArray, List.map_cons, List.map_nil]); first | done | rfl | (simp only [List.length_drop, List.length_take]; rfl)) ?_; (with_reducible refine (tale_number.calls (rdOf ByteArray.empty y220 3) t235 t236 _ A50.out HTT.out (by repeat (first | (with_reducible first | exact HB.out | apply below_alloc | apply pw_below_drewN | apply below_drew1 | refine below_set ?_ GE212.out | refine below_set ?_ GE213.out | refine below_set ?_ GE228.out) | exact HB.out))).mono ?_); rintro e w51 ⟨rfl, hb⟩; refine ⟨_, rfl, ?_⟩; have n0_ := Aside0.mk (Kd.R_below (by (with_reducible repeat (first | apply Kd.R_alloc | apply Kd.R_drewN | apply Kd.R_drew)); exact HO_7.out) hb); have n1_ := Aside0.mk (blk_below (g := gb212) (o := .cells #[.int .i64 a0_0, .int .i64 a0_1, .int .i64 a0_2, .int .i64 a0_3, .int .i64 a0_4] 31 (0, 0)) (by (with_reducible repeat (first | refine blk_drewN ?_ _ | refine blk_drew ?_ | refine blk_alloc ?_ _)); exact BK212.out) hb); have n2_ := Aside0.mk (blk_below (g := gb213) (o := .cells #[.int .i64 0, .int .u64 0, .int .u64 0, .int .i64 0] 33 (0, 0)) (by (with_reducible repeat (first | refine blk_drewN ?_ _ | refine blk_drew ?_ | refine blk_alloc ?_ _)); exact BK213.out) hb); have n3_ := Aside0.mk (blk_below (g := gb228) (o := .cells #[.int .i64 ji8, .int .u64 t230, .int .u64 0, .int .i64 0] 33 (0, 0)) (by (with_reducible repeat (first | refine blk_drewN ?_ _ | refine blk_drew ?_ | refine blk_alloc ?_ _)); exact BK228.out) hb); have n4_ := Aside0.mk (below_step (by repeat (first | (with_reducible first | exact HB.out | apply below_alloc | apply pw_below_drewN | apply below_drew1 | refine below_set ?_ GE212.out | refine below_set ?_ GE213.out | refine below_set ?_ GE228.out) | exact HB.out)) hb); clear HO_7; clear BK212; clear BK213; clear BK228; clear HB; have HO_7 := n0_; have BK212 := n1_; have BK213 := n2_; have BK228 := n3_; have HB := n4_; clear n0_ n1_ n2_ n3_ n4_; (try clear hb); (try clear hb2); (try clear hk); (try clear hi); have hnb52 := NB228_212.out; have hnc52 := NB212_228.out; have hnb53 := NB228_213.out; have hnc53 := NB213_228.out; have hcz54_0 : w51.cell? ⟨gb228, 0, none⟩ = some (.int .i64 ji8) := (blk_cell BK228.out 0).trans rfl; have hcz54_1 : w51.cell? ⟨gb228, 1, none⟩ = some (.int .u64 t230) := (blk_cell BK228.out 1).trans rfl; have hcz54_2 : w51.cell? ⟨gb228, 2, none⟩ = some (.int .u64 0) := (blk_cell BK228.out 2).trans rfl; have hcz54_3 : w51.cell? ⟨gb228, 3, none⟩ = some (.int .i64 0) := (blk_cell BK228.out 3).trans rfl; have hfz54_0 := blk_frozen BK228.out 0; have hfz54_1 := blk_frozen BK228.out 1; have hfz54_2 := blk_frozen BK228.out 2; have hfz54_3 := blk_frozen BK228.out 3))
          go_meet
          case rel => exact ⟨_, (t230), (t235), (0), H', ⟨by have := HJ45.out; first | omega | exact Nat.le_refl _⟩, ⟨by (with_reducible repeat (first | apply Kd.R_alloc | apply Kd.R_drewN | apply Kd.R_drew)); exact Kd.R_mono (Kd.R_far (p := ⟨gb228, 2, none⟩) (Kd.R_types HO_7.out BK228.out (by decide)) (fun _ hk => hk.2) (.int .u64 t235)) (fun _ hk => trivial)⟩, ⟨by (with_reducible repeat (first | refine blk_drewN ?_ _ | refine blk_drew ?_ | refine blk_alloc ?_ _)); refine blk_far ?_ NB212_228.out _; (with_reducible repeat (first | refine blk_drewN ?_ _ | refine blk_drew ?_ | refine blk_alloc ?_ _)); exact BK212.out⟩, ⟨by (with_reducible repeat (first | refine blk_drewN ?_ _ | refine blk_drew ?_ | refine blk_alloc ?_ _)); refine blk_far ?_ NB213_228.out _; (with_reducible repeat (first | refine blk_drewN ?_ _ | refine blk_drew ?_ | refine blk_alloc ?_ _)); exact BK213.out⟩, ⟨by (with_reducible repeat (first | refine blk_drewN ?_ _ | refine blk_drew ?_ | refine blk_alloc ?_ _)); refine blk_put (cs := #[.int .i64 ji8, .int .u64 t230, .int .u64 0, .int .i64 0]) ?_ 2 _ rfl; (with_reducible repeat (first | refine blk_drewN ?_ _ | refine blk_drew ?_ | refine blk_alloc ?_ _)); exact BK228.out⟩, ⟨by repeat (first | (with_reducible first | exact HB.out | apply below_alloc | apply pw_below_drewN | apply below_drew1 | refine below_set ?_ GE212.out | refine below_set ?_ GE213.out | refine below_set ?_ GE228.out) | exact HB.out)⟩⟩
         ·rw [if_neg c49] at H
          exact absurd H (by simp)
        ·replace c48 := Bool.eq_false_iff.mpr c48
         subst c48
         have H1 : (if ji8 = 8 then (tale_ReadOp.j1 kj45 a1 y220 a0_0 a0_1 a0_2 a0_3 a0_4 ji8 0 0 0) else (tale_ReadOp.j1 kj45 a1 y220 a0_0 a0_1 a0_2 a0_3 a0_4 ji8 t230 0 0)) = some (r1, r2, r3, r4, r5, r6) := by rw [if_neg (show ¬ (false = true) by decide)] at H; exact H
         clear H
         have H := H1
         clear H1
         by_cases c55 : ji8 = 8
         ·rw [if_pos c55] at H
          have c55b0 : (ji8 == 8) = true := beq_iff_eq.mpr c55
          have c55b1 : (ji8 != 8) = false := bne_eq_false_iff_eq.mpr c55
          clear c55
          have H' := Aside0.mk H
          clear H
          have hnb56 := NB228_212.out
          have hnc56 := NB212_228.out
          have hnb57 := NB228_213.out
          have hnc57 := NB213_228.out
          have hcz58_0 : wc.cell? ⟨gb228, 0, none⟩ = some (.int .i64 ji8) := (blk_cell BK228.out 0).trans rfl
          have hcz58_1 : wc.cell? ⟨gb228, 1, none⟩ = some (.int .u64 t230) := (blk_cell BK228.out 1).trans rfl
          have hcz58_2 : wc.cell? ⟨gb228, 2, none⟩ = some (.int .u64 0) := (blk_cell BK228.out 2).trans rfl
          have hcz58_3 : wc.cell? ⟨gb228, 3, none⟩ = some (.int .i64 0) := (blk_cell BK228.out 3).trans rfl
          have hfz58_0 := blk_frozen BK228.out 0
          have hfz58_1 := blk_frozen BK228.out 1
          have hfz58_2 := blk_frozen BK228.out 2
          have hfz58_3 := blk_frozen BK228.out 3
          go_wp2
          go_meet
          case rel => exact ⟨_, (0), (0), (0), H', ⟨by have := HJ45.out; first | omega | exact Nat.le_refl _⟩, ⟨by (with_reducible repeat (first | apply Kd.R_alloc | apply Kd.R_drewN | apply Kd.R_drew)); exact Kd.R_mono (Kd.R_far (p := ⟨gb228, 1, none⟩) (Kd.R_types HO_7.out BK228.out (by decide)) (fun _ hk => hk.2) (.int .u64 0)) (fun _ hk => trivial)⟩, ⟨by (with_reducible repeat (first | refine blk_drewN ?_ _ | refine blk_drew ?_ | refine blk_alloc ?_ _)); refine blk_far ?_ NB212_228.out _; (with_reducible repeat (first | refine blk_drewN ?_ _ | refine blk_drew ?_ | refine blk_alloc ?_ _)); exact BK212.out⟩, ⟨by (with_reducible repeat (first | refine blk_drewN ?_ _ | refine blk_drew ?_ | refine blk_alloc ?_ _)); refine blk_far ?_ NB213_228.out _; (with_reducible repeat (first | refine blk_drewN ?_ _ | refine blk_drew ?_ | refine blk_alloc ?_ _)); exact BK213.out⟩, ⟨by (with_reducible repeat (first | refine blk_drewN ?_ _ | refine blk_drew ?_ | refine blk_alloc ?_ _)); refine blk_put (cs := #[.int .i64 ji8, .int .u64 t230, .int .u64 0, .int .i64 0]) ?_ 1 _ rfl; (with_reducible repeat (first | refine blk_drewN ?_ _ | refine blk_drew ?_ | refine blk_alloc ?_ _)); exact BK228.out⟩, ⟨by repeat (first | (with_reducible first | exact HB.out | apply below_alloc | apply pw_below_drewN | apply below_drew1 | refine below_set ?_ GE212.out | refine below_set ?_ GE213.out | refine below_set ?_ GE228.out) | exact HB.out)⟩⟩
         ·rw [if_neg c55] at H
          have c55b0 : (ji8 == 8) = false := beq_eq_false_iff_ne.mpr c55
          have c55b1 : (ji8 != 8) = true := bne_iff_ne.mpr c55
          have H' := Aside0.mk H
          clear H
          go_wp2
          go_meet
          case rel => exact ⟨_, (t230), (0), (0), H', ⟨by have := HJ45.out; first | omega | exact Nat.le_refl _⟩, ⟨by (with_reducible repeat (first | apply Kd.R_alloc | apply Kd.R_drewN | apply Kd.R_drew)); exact HO_7.out⟩, ⟨by (with_reducible repeat (first | refine blk_drewN ?_ _ | refine blk_drew ?_ | refine blk_alloc ?_ _)); exact BK212.out⟩, ⟨by (with_reducible repeat (first | refine blk_drewN ?_ _ | refine blk_drew ?_ | refine blk_alloc ?_ _)); exact BK213.out⟩, ⟨by (with_reducible repeat (first | refine blk_drewN ?_ _ | refine blk_drew ?_ | refine blk_alloc ?_ _)); exact BK228.out⟩, ⟨by repeat (first | (with_reducible first | exact HB.out | apply below_alloc | apply pw_below_drewN | apply below_drew1 | refine below_set ?_ GE212.out | refine below_set ?_ GE213.out | refine below_set ?_ GE228.out) | exact HB.out)⟩⟩
    case rest =>
     clear HC11
     try clear c1
     try clear c2
     try clear p2
     try clear q2
     try clear hx2
     try clear qi2
     try clear c3
     try clear c4
     try clear c5
     try clear c6
     try clear c6b1
     try clear c9
     try clear c9b0
     try clear c9b1
     try clear c12
     try clear p22
     try clear q22
     try clear hx22
     try clear qi22
     try clear c23
     try clear p23
     try clear q23
     try clear hx23
     try clear qi23
     try clear c26
     try clear c27
     try clear c28
     try clear c29
     try clear c30
     try clear c31
     try clear c33
     try clear c33b0
     try clear c33b1
     try clear c34
     try clear c34b0
     try clear c34b1
     try clear c35
     try clear c35b0
     try clear c35b1
     try clear c37
     try clear c38
     try clear c41
     try clear c43
     try clear c44
     try clear c47
     try clear c47b0
     try clear c47b1
     try clear c48
     try clear c49
     try clear c49b0
     try clear c49b1
     try clear c52
     try clear c53
     try clear c55
     try clear c55b0
     try clear c55b1
     try clear c56
     try clear c57
     try clear hcz32_0
     try clear hcz32_1
     try clear hcz32_2
     try clear hcz32_3
     try clear hcz39_0
     try clear hcz39_1
     try clear hcz39_2
     try clear hcz39_3
     try clear hcz39_4
     try clear hcz42_0
     try clear hcz42_1
     try clear hcz42_2
     try clear hcz42_3
     try clear hcz45_0
     try clear hcz45_1
     try clear hcz45_2
     try clear hcz45_3
     try clear hcz45_4
     try clear hcz54_0
     try clear hcz54_1
     try clear hcz54_2
     try clear hcz54_3
     try clear hcz58_0
     try clear hcz58_1
     try clear hcz58_2
     try clear hcz58_3
     try clear hfz32_0
     try clear hfz32_1
     try clear hfz32_2
     try clear hfz32_3
     try clear hfz39_0
     try clear hfz39_1
     try clear hfz39_2
     try clear hfz39_3
     try clear hfz39_4
     try clear hfz42_0
     try clear hfz42_1
     try clear hfz42_2
     try clear hfz42_3
     try clear hfz45_0
     try clear hfz45_1
     try clear hfz45_2
     try clear hfz45_3
     try clear hfz45_4
     try clear hfz54_0
     try clear hfz54_1
     try clear hfz54_2
     try clear hfz54_3
     try clear hfz58_0
     try clear hfz58_1
     try clear hfz58_2
     try clear hfz58_3
     try clear hx226_0
     try clear hx229_0
     try clear hx232_0
     try clear hx234_0
     try clear p2
     try clear p22
     try clear p226
     try clear p229
     try clear p23
     try clear p232
     try clear p234
     try clear q2
     try clear q22
     try clear q226
     try clear q229
     try clear q23
     try clear q232
     try clear q234
     obtain ⟨kq, x229001_10, x229002_10, x229003_10, HA, HJ10, HO_7, BK212, BK213, BK228, HB⟩ := hcut
     cases kq with
     | zero => exact absurd HA.out (by simp [tale_ReadOp.j1])
     | succ kj10 =>
      have H := HA.out
      clear HA
      simp only [tale_ReadOp.j1] at H
      by_cases c59 : 0 < (y220.length : Int)
      ·rw [if_pos c59] at H
       have c59b0 : decide (0 < (y220.length : Int)) = true := decide_eq_true c59
       have c59b1 : decide (0 < y220.length) = true := decide_eq_true (by omega)
       clear c59
       replace H := Option.bind_eq_some_iff.mp H
       obtain ⟨t238, A600, H⟩ := H
       replace H : ((tale_Op.f a0_0 a0_1 a0_2 a0_3 a0_4 t238 ji8 x229001_10 x229002_10 x229003_10).bind fun bt239 => (if bt239.2 = 0 then (if bt239.1.toList = a1.toList then (some (t238, ji8, x229001_10, x229002_10, x229003_10, 0)) else (some (0, 0, 0, 0, 0, 4))) else (some (0, 0, 0, 0, 0, 4)))) = some (r1, r2, r3, r4, r5, r6) := H
       have A60 := Aside0.mk A600
       clear A600
       replace H := Option.bind_eq_some_iff.mp H
       obtain ⟨⟨t239, t240⟩, A610, H⟩ := H
       replace H : (if t240 = 0 then (if t239.toList = a1.toList then (some (t238, ji8, x229001_10, x229002_10, x229003_10, 0)) else (some (0, 0, 0, 0, 0, 4))) else (some (0, 0, 0, 0, 0, 4))) = some (r1, r2, r3, r4, r5, r6) := H
       have A61 := Aside0.mk A610
       clear A610
       by_cases c62 : t240 = 0
       ·rw [if_pos c62] at H
        have c62b0 : (t240 == 0) = true := beq_iff_eq.mpr c62
        have c62b1 : (t240 != 0) = false := bne_eq_false_iff_eq.mpr c62
        clear c62
        by_cases c63 : t239.toList = a1.toList
        ·rw [if_pos c63] at H
         have c63b0 : (t239.toList == a1.toList) = true := beq_iff_eq.mpr c63
         have c63b1 : (t239.toList != a1.toList) = false := bne_eq_false_iff_eq.mpr c63
         clear c63
         simp only [Option.some.injEq, Prod.mk.injEq] at H
         obtain ⟨rfl, rfl, rfl, rfl, rfl, rfl⟩ := H
         have p237 : 0 ≤ (0 : Int) := (by omega)
         have q237 : 0 < (y220.length : Int) := of_decide_eq_true (by first | (with_reducible assumption) | assumption)
         obtain ⟨ad237, e237, hx237_0⟩ := Kd.at_string (Kd.R_reads' HO_7.out).2.2 0 p237 q237
         obtain rfl : ad226 = ad237 := (by injection e237)
         have qi237 : (0 < y220.length) = True := eq_true (by omega)
         (try rw [show ((0 : Int)).toNat = 0 from rfl] at hx237_0)
         (try rw [Addr.add_zero'] at hx237_0)
         replace p237 := eq_true p237
         replace q237 := eq_true q237
         try go_wp2_with (first | ((with_reducible refine gate_callee (f := 29) rfl ?_); refine goesL_ (some 60) rfl rfl Tryd.func29 (by kernel_rfl) rfl #[.string (rdOf ByteArray.empty y220 0)] rfl (by (try simp only [List.map_toArray, List.map_cons, List.map_nil]); first | done | rfl | (simp only [List.length_drop, List.length_take]; rfl)) ?_; (with_reducible refine (tale_small.calls (rdOf ByteArray.empty y220 0) t238 _ A60.out HTT.out (by repeat (first | (with_reducible first | exact HB.out | apply below_alloc | apply pw_below_drewN | apply below_drew1 | refine below_set ?_ GE212.out | refine below_set ?_ GE213.out | refine below_set ?_ GE228.out) | exact HB.out))).mono ?_); rintro e w64 ⟨rfl, hb⟩; refine ⟨_, rfl, ?_⟩; have n0_ := Aside0.mk (Kd.R_below (by (with_reducible repeat (first | apply Kd.R_alloc | apply Kd.R_drewN | apply Kd.R_drew)); exact HO_7.out) hb); have n1_ := Aside0.mk (blk_below (g := gb212) (o := .cells #[.int .i64 a0_0, .int .i64 a0_1, .int .i64 a0_2, .int .i64 a0_3, .int .i64 a0_4] 31 (0, 0)) (by (with_reducible repeat (first | refine blk_drewN ?_ _ | refine blk_drew ?_ | refine blk_alloc ?_ _)); exact BK212.out) hb); have n2_ := Aside0.mk (blk_below (g := gb213) (o := .cells #[.int .i64 0, .int .u64 0, .int .u64 0, .int .i64 0] 33 (0, 0)) (by (with_reducible repeat (first | refine blk_drewN ?_ _ | refine blk_drew ?_ | refine blk_alloc ?_ _)); exact BK213.out) hb); have n3_ := Aside0.mk (blk_below (g := gb228) (o := .cells #[.int .i64 ji8, .int .u64 x229001_10, .int .u64 x229002_10, .int .i64 x229003_10] 33 (0, 0)) (by (with_reducible repeat (first | refine blk_drewN ?_ _ | refine blk_drew ?_ | refine blk_alloc ?_ _)); exact BK228.out) hb); have n4_ := Aside0.mk (below_step (by repeat (first | (with_reducible first | exact HB.out | apply below_alloc | apply pw_below_drewN | apply below_drew1 | refine below_set ?_ GE212.out | refine below_set ?_ GE213.out | refine below_set ?_ GE228.out) | exact HB.out)) hb); clear HO_7; clear BK212; clear BK213; clear BK228; clear HB; have HO_7 := n0_; have BK212 := n1_; have BK213 := n2_; have BK228 := n3_; have HB := n4_; clear n0_ n1_ n2_ n3_ n4_; (try clear hb); (try clear hb2); (try clear hk); (try clear hi); have hnb65 := NB212_213.out; have hnc65 := NB213_212.out; have hnb66 := NB212_228.out; have hnc66 := NB228_212.out; have hcz67_0 : w64.cell? ⟨gb212, 0, none⟩ = some (.int .i64 a0_0) := (blk_cell BK212.out 0).trans rfl; have hcz67_1 : w64.cell? ⟨gb212, 1, none⟩ = some (.int .i64 a0_1) := (blk_cell BK212.out 1).trans rfl; have hcz67_2 : w64.cell? ⟨gb212, 2, none⟩ = some (.int .i64 a0_2) := (blk_cell BK212.out 2).trans rfl; have hcz67_3 : w64.cell? ⟨gb212, 3, none⟩ = some (.int .i64 a0_3) := (blk_cell BK212.out 3).trans rfl; have hcz67_4 : w64.cell? ⟨gb212, 4, none⟩ = some (.int .i64 a0_4) := (blk_cell BK212.out 4).trans rfl; have hfz67_0 := blk_frozen BK212.out 0; have hfz67_1 := blk_frozen BK212.out 1; have hfz67_2 := blk_frozen BK212.out 2; have hfz67_3 := blk_frozen BK212.out 3; have hfz67_4 := blk_frozen BK212.out 4; have hnb68 := NB228_213.out; have hnc68 := NB213_228.out; have hcz69_0 : w64.cell? ⟨gb228, 0, none⟩ = some (.int .i64 ji8) := (blk_cell BK228.out 0).trans rfl; have hcz69_1 : w64.cell? ⟨gb228, 1, none⟩ = some (.int .u64 x229001_10) := (blk_cell BK228.out 1).trans rfl; have hcz69_2 : w64.cell? ⟨gb228, 2, none⟩ = some (.int .u64 x229002_10) := (blk_cell BK228.out 2).trans rfl; have hcz69_3 : w64.cell? ⟨gb228, 3, none⟩ = some (.int .i64 x229003_10) := (blk_cell BK228.out 3).trans rfl; have hfz69_0 := blk_frozen BK228.out 0; have hfz69_1 := blk_frozen BK228.out 1; have hfz69_2 := blk_frozen BK228.out 2; have hfz69_3 := blk_frozen BK228.out 3) | ((with_reducible refine gate_callee (f := 9) rfl ?_); refine goesL_ (some 65) rfl rfl Tryd.func9 (by kernel_rfl) rfl #[.agg #[.int .i64 a0_0, .int .i64 a0_1, .int .i64 a0_2, .int .i64 a0_3, .int .i64 a0_4], .int .i64 t238, .agg #[.int .i64 ji8, .int .u64 x229001_10, .int .u64 x229002_10, .int .i64 x229003_10]] rfl (by (try simp only [List.map_toArray, List.map_cons, List.map_nil]); first | done | (simp only [hji8]; rfl) | rfl | (simp only [List.length_drop, List.length_take]; rfl)) ?_; (with_reducible refine (tale_Op.calls a0_0 a0_1 a0_2 a0_3 a0_4 t238 ji8 x229001_10 x229002_10 x229003_10 t239 t240 _ A61.out HTT.out (by repeat (first | (with_reducible first | exact HB.out | apply below_alloc | apply pw_below_drewN | apply below_drew1 | refine below_set ?_ GE212.out | refine below_set ?_ GE213.out | refine below_set ?_ GE228.out) | exact HB.out))).mono ?_); rintro e w70 ⟨rfl, hb⟩; refine ⟨_, rfl, ?_⟩; have n0_ := Aside0.mk (Kd.R_below (by (with_reducible repeat (first | apply Kd.R_alloc | apply Kd.R_drewN | apply Kd.R_drew)); exact HO_7.out) hb); have n1_ := Aside0.mk (blk_below (g := gb212) (o := .cells #[.int .i64 a0_0, .int .i64 a0_1, .int .i64 a0_2, .int .i64 a0_3, .int .i64 a0_4] 31 (0, 0)) (by (with_reducible repeat (first | refine blk_drewN ?_ _ | refine blk_drew ?_ | refine blk_alloc ?_ _)); exact BK212.out) hb); have n2_ := Aside0.mk (blk_below (g := gb213) (o := .cells #[.int .i64 0, .int .u64 0, .int .u64 0, .int .i64 0] 33 (0, 0)) (by (with_reducible repeat (first | refine blk_drewN ?_ _ | refine blk_drew ?_ | refine blk_alloc ?_ _)); exact BK213.out) hb); have n3_ := Aside0.mk (blk_below (g := gb228) (o := .cells #[.int .i64 ji8, .int .u64 x229001_10, .int .u64 x229002_10, .int .i64 x229003_10] 33 (0, 0)) (by (with_reducible repeat (first | refine blk_drewN ?_ _ | refine blk_drew ?_ | refine blk_alloc ?_ _)); exact BK228.out) hb); have n4_ := Aside0.mk (below_step (by repeat (first | (with_reducible first | exact HB.out | apply below_alloc | apply pw_below_drewN | apply below_drew1 | refine below_set ?_ GE212.out | refine below_set ?_ GE213.out | refine below_set ?_ GE228.out) | exact HB.out)) hb); clear HO_7; clear BK212; clear BK213; clear BK228; clear HB; have HO_7 := n0_; have BK212 := n1_; have BK213 := n2_; have BK228 := n3_; have HB := n4_; clear n0_ n1_ n2_ n3_ n4_; (try clear hb); (try clear hb2); (try clear hk); (try clear hi)))
         have n0_ := Aside0.mk (Kd.R_drew HO_7.out)
         have n1_ := Aside0.mk (blk_drew BK212.out)
         have n2_ := Aside0.mk (blk_drew BK213.out)
         have n3_ := Aside0.mk (blk_drew BK228.out)
         have n4_ := Aside0.mk (below_drew1 HB.out)
         clear HO_7
         clear BK212
         clear BK213
         clear BK228
         clear HB
         have HO_7 := n0_
         have BK212 := n1_
         have BK213 := n2_
         have BK228 := n3_
         have HB := n4_
         clear n0_ n1_ n2_ n3_ n4_
         refine start_ (n := 5) (S := fun w' => w'.cell? ⟨gb228, 0, none⟩ = some (.int .i64 ji8) ∧ w'.cell? ⟨gb228, 1, none⟩ = some (.int .u64 x229001_10) ∧ w'.cell? ⟨gb228, 2, none⟩ = some (.int .u64 x229002_10) ∧ w'.cell? ⟨gb228, 3, none⟩ = some (.int .i64 x229003_10)) (ds := []) #[false, false, false, false, false] (by kernel_rfl) rfl rfl ⟨(blk_cell BK228.out 0).trans rfl, (blk_cell BK228.out 1).trans rfl, (blk_cell BK228.out 2).trans rfl, (blk_cell BK228.out 3).trans rfl⟩ (fun hHeld => ?_)
         generalize w70.drew = w71 at HO_7 BK212 BK213 BK228 HB hHeld ⊢
         refine pure_ (i := 0) (N := some 76) (v := ?_) (a' := ?_) #[true, false, false, false, false] rfl rfl (by kernel_rfl) (fun _ _ _ h => h) (Or.inl ⟨by rfl, ?_⟩) ?_ ?_
         rotate_left
         ·intro w'
          go_simp
          with_reducible rfl
         rotate_left
         ·simp only [Act.put, List.setIfInBounds_toArray, List.set_cons_zero, List.set_cons_succ, i64_w, i32_w]
          rfl
         refine pure_ (i := 2) (N := some 4) (v := ?_) (a' := ?_) #[true, false, true, false, false] rfl rfl (by kernel_rfl) (fun _ _ _ h => h) (Or.inl ⟨by rfl, ?_⟩) ?_ ?_
         rotate_left
         ·intro w'
          go_simp
          with_reducible rfl
         rotate_left
         ·simp only [Act.put, List.setIfInBounds_toArray, List.set_cons_zero, List.set_cons_succ, i64_w, i32_w]
          rfl
         refine take_ (i := 1) (N := some 77) (v := ?_) (a' := ?_) #[true, true, true, false, false] rfl rfl (by kernel_rfl) (fun _ _ _ h => h) (Or.inl ⟨by rfl, ?_⟩) hHeld ?_ ?_
         rotate_left
         ·rintro w' ⟨s0, s1, s2, s3⟩
          go_simp
          with_reducible rfl
         rotate_left
         ·simp only [Act.put, List.setIfInBounds_toArray, List.set_cons_zero, List.set_cons_succ, i64_w, i32_w]
          rfl
         refine one_ (i := 3) (N := none) #[true, true, true, true, false] rfl rfl (by kernel_rfl) (by decide) (fun K hK => ?_)
         have hs72 : w71.cell? ⟨gb213, 0, none⟩ = some (.int .i64 0) := (blk_cell BK213.out 0).trans rfl
         have hfs72 := blk_frozen BK213.out 0
         have hns72_0 := NB212_213.out
         have hns72_2 := NB228_213.out
         have hms72_0 := NB213_212.out
         have hms72_2 := NB213_228.out
         have hs73 : w71.cell? ⟨gb213, 1, none⟩ = some (.int .u64 0) := (blk_cell BK213.out 1).trans rfl
         have hfs73 := blk_frozen BK213.out 1
         have hns73_0 := NB212_213.out
         have hns73_2 := NB228_213.out
         have hms73_0 := NB213_212.out
         have hms73_2 := NB213_228.out
         have hs74 : w71.cell? ⟨gb213, 2, none⟩ = some (.int .u64 0) := (blk_cell BK213.out 2).trans rfl
         have hfs74 := blk_frozen BK213.out 2
         have hns74_0 := NB212_213.out
         have hns74_2 := NB228_213.out
         have hms74_0 := NB213_212.out
         have hms74_2 := NB213_228.out
         have hs75 : w71.cell? ⟨gb213, 3, none⟩ = some (.int .i64 0) := (blk_cell BK213.out 3).trans rfl
         have hfs75 := blk_frozen BK213.out 3
         have hns75_0 := NB212_213.out
         have hns75_2 := NB228_213.out
         have hms75_0 := NB213_212.out
         have hms75_2 := NB213_228.out
         refine skip_ (w1 := ?_) (by rfl) rfl ?_ ?_
         rotate_left
         ·go_simp
          rfl
         refine hK.out _ _ ⟨((cell_far (p := ⟨gb213, _, none⟩) NB228_213.out _).trans (((cell_far (p := ⟨gb213, _, none⟩) NB228_213.out _).trans (((cell_far (p := ⟨gb213, _, none⟩) NB228_213.out _).trans (((cell_far (p := ⟨gb213, _, none⟩) NB228_213.out _).trans (hHeld.1)))))))), ((cell_far (p := ⟨gb213, _, none⟩) NB228_213.out _).trans (((cell_far (p := ⟨gb213, _, none⟩) NB228_213.out _).trans (((cell_far (p := ⟨gb213, _, none⟩) NB228_213.out _).trans (((cell_far (p := ⟨gb213, _, none⟩) NB228_213.out _).trans (hHeld.2.1)))))))), ((cell_far (p := ⟨gb213, _, none⟩) NB228_213.out _).trans (((cell_far (p := ⟨gb213, _, none⟩) NB228_213.out _).trans (((cell_far (p := ⟨gb213, _, none⟩) NB228_213.out _).trans (((cell_far (p := ⟨gb213, _, none⟩) NB228_213.out _).trans (hHeld.2.2.1)))))))), ((cell_far (p := ⟨gb213, _, none⟩) NB228_213.out _).trans (((cell_far (p := ⟨gb213, _, none⟩) NB228_213.out _).trans (((cell_far (p := ⟨gb213, _, none⟩) NB228_213.out _).trans (((cell_far (p := ⟨gb213, _, none⟩) NB228_213.out _).trans (hHeld.2.2.2))))))))⟩ (fun hHeld => ?_)
         clear hK K
         refine pure_ (i := 4) (N := some 6) (v := ?_) (a' := ?_) #[true, true, true, true, true] rfl rfl (by kernel_rfl) (fun _ _ _ h => h) (Or.inl ⟨by rfl, ?_⟩) ?_ ?_
         rotate_left
         ·intro w'
          go_simp
          with_reducible rfl
         rotate_left
         ·simp only [Act.put, List.setIfInBounds_toArray, List.set_cons_zero, List.set_cons_succ, i64_w, i32_w]
          rfl
         refine done_ (by kernel_rfl) ?_
         try go_wp2
         refine bodyPost_ret (results_list (rs := [.tmp 4, .cell 5 33, .tmp 6]) rfl (by simp) (.tmp (.cell gb213 33 #[.int .i64 ji8, .int .u64 x229001_10, .int .u64 x229002_10, .int .i64 x229003_10] (0, 0) _ rfl (by (with_reducible repeat (first | refine blk_drewN ?_ _ | refine blk_drew ?_ | refine blk_alloc ?_ _)); refine blk_put (cs := #[.int .i64 ji8, .int .u64 x229001_10, .int .u64 x229002_10, .int .i64 0]) ?_ 3 _ rfl; (with_reducible repeat (first | refine blk_drewN ?_ _ | refine blk_drew ?_ | refine blk_alloc ?_ _)); refine blk_put (cs := #[.int .i64 ji8, .int .u64 x229001_10, .int .u64 0, .int .i64 0]) ?_ 2 _ rfl; (with_reducible repeat (first | refine blk_drewN ?_ _ | refine blk_drew ?_ | refine blk_alloc ?_ _)); refine blk_put (cs := #[.int .i64 ji8, .int .u64 0, .int .u64 0, .int .i64 0]) ?_ 1 _ rfl; (with_reducible repeat (first | refine blk_drewN ?_ _ | refine blk_drew ?_ | refine blk_alloc ?_ _)); refine blk_put (cs := #[.int .i64 0, .int .u64 0, .int .u64 0, .int .i64 0]) ?_ 0 _ rfl; (with_reducible repeat (first | refine blk_drewN ?_ _ | refine blk_drew ?_ | refine blk_alloc ?_ _)); exact BK213.out) Tryd.underlying33 rfl (by kernel_rfl) (.tmp .nil)))) rfl ?_
         exact ⟨by first | rfl | (simp [errW_none, errW_some] <;> rfl) | (simp only [← hji8]; first | rfl | (simp [errW_none, errW_some] <;> rfl)) | (simp [*, errW_none, errW_some] <;> rfl), by repeat (first | (with_reducible first | exact HB.out | apply below_alloc | apply pw_below_drewN | apply below_drew1 | refine below_set ?_ GE212.out | refine below_set ?_ GE213.out | refine below_set ?_ GE228.out) | exact HB.out)⟩
        ·rw [if_neg c63] at H
         have c63b0 : (t239.toList == a1.toList) = false := beq_eq_false_iff_ne.mpr c63
         have c63b1 : (t239.toList != a1.toList) = true := bne_iff_ne.mpr c63
         simp only [Option.some.injEq, Prod.mk.injEq] at H
         obtain ⟨rfl, rfl, rfl, rfl, rfl, rfl⟩ := H
         have p237 : 0 ≤ (0 : Int) := (by omega)
         have q237 : 0 < (y220.length : Int) := of_decide_eq_true (by first | (with_reducible assumption) | assumption)
         obtain ⟨ad237, e237, hx237_0⟩ := Kd.at_string (Kd.R_reads' HO_7.out).2.2 0 p237 q237
         obtain rfl : ad226 = ad237 := (by injection e237)
         have qi237 : (0 < y220.length) = True := eq_true (by omega)
         (try rw [show ((0 : Int)).toNat = 0 from rfl] at hx237_0)
         (try rw [Addr.add_zero'] at hx237_0)
         replace p237 := eq_true p237
         replace q237 := eq_true q237
         go_wp2_with (first | ((with_reducible refine gate_callee (f := 29) rfl ?_); refine goesL_ (some 60) rfl rfl Tryd.func29 (by kernel_rfl) rfl #[.string (rdOf ByteArray.empty y220 0)] rfl (by (try simp only [List.map_toArray, List.map_cons, List.map_nil]); first | done | rfl | (simp only [List.length_drop, List.length_take]; rfl)) ?_; (with_reducible refine (tale_small.calls (rdOf ByteArray.empty y220 0) t238 _ A60.out HTT.out (by repeat (first | (with_reducible first | exact HB.out | apply below_alloc | apply pw_below_drewN | apply below_drew1 | refine below_set ?_ GE212.out | refine below_set ?_ GE213.out | refine below_set ?_ GE228.out) | exact HB.out))).mono ?_); rintro e w76 ⟨rfl, hb⟩; refine ⟨_, rfl, ?_⟩; have n0_ := Aside0.mk (Kd.R_below (by (with_reducible repeat (first | apply Kd.R_alloc | apply Kd.R_drewN | apply Kd.R_drew)); exact HO_7.out) hb); have n1_ := Aside0.mk (blk_below (g := gb212) (o := .cells #[.int .i64 a0_0, .int .i64 a0_1, .int .i64 a0_2, .int .i64 a0_3, .int .i64 a0_4] 31 (0, 0)) (by (with_reducible repeat (first | refine blk_drewN ?_ _ | refine blk_drew ?_ | refine blk_alloc ?_ _)); exact BK212.out) hb); have n2_ := Aside0.mk (blk_below (g := gb213) (o := .cells #[.int .i64 0, .int .u64 0, .int .u64 0, .int .i64 0] 33 (0, 0)) (by (with_reducible repeat (first | refine blk_drewN ?_ _ | refine blk_drew ?_ | refine blk_alloc ?_ _)); exact BK213.out) hb); have n3_ := Aside0.mk (blk_below (g := gb228) (o := .cells #[.int .i64 ji8, .int .u64 x229001_10, .int .u64 x229002_10, .int .i64 x229003_10] 33 (0, 0)) (by (with_reducible repeat (first | refine blk_drewN ?_ _ | refine blk_drew ?_ | refine blk_alloc ?_ _)); exact BK228.out) hb); have n4_ := Aside0.mk (below_step (by repeat (first | (with_reducible first | exact HB.out | apply below_alloc | apply pw_below_drewN | apply below_drew1 | refine below_set ?_ GE212.out | refine below_set ?_ GE213.out | refine below_set ?_ GE228.out) | exact HB.out)) hb); clear HO_7; clear BK212; clear BK213; clear BK228; clear HB; have HO_7 := n0_; have BK212 := n1_; have BK213 := n2_; have BK228 := n3_; have HB := n4_; clear n0_ n1_ n2_ n3_ n4_; (try clear hb); (try clear hb2); (try clear hk); (try clear hi); have hnb77 := NB212_213.out; have hnc77 := NB213_212.out; have hnb78 := NB212_228.out; have hnc78 := NB228_212.out; have hcz79_0 : w76.cell? ⟨gb212, 0, none⟩ = some (.int .i64 a0_0) := (blk_cell BK212.out 0).trans rfl; have hcz79_1 : w76.cell? ⟨gb212, 1, none⟩ = some (.int .i64 a0_1) := (blk_cell BK212.out 1).trans rfl; have hcz79_2 : w76.cell? ⟨gb212, 2, none⟩ = some (.int .i64 a0_2) := (blk_cell BK212.out 2).trans rfl; have hcz79_3 : w76.cell? ⟨gb212, 3, none⟩ = some (.int .i64 a0_3) := (blk_cell BK212.out 3).trans rfl; have hcz79_4 : w76.cell? ⟨gb212, 4, none⟩ = some (.int .i64 a0_4) := (blk_cell BK212.out 4).trans rfl; have hfz79_0 := blk_frozen BK212.out 0; have hfz79_1 := blk_frozen BK212.out 1; have hfz79_2 := blk_frozen BK212.out 2; have hfz79_3 := blk_frozen BK212.out 3; have hfz79_4 := blk_frozen BK212.out 4; have hnb80 := NB228_213.out; have hnc80 := NB213_228.out; have hcz81_0 : w76.cell? ⟨gb228, 0, none⟩ = some (.int .i64 ji8) := (blk_cell BK228.out 0).trans rfl; have hcz81_1 : w76.cell? ⟨gb228, 1, none⟩ = some (.int .u64 x229001_10) := (blk_cell BK228.out 1).trans rfl; have hcz81_2 : w76.cell? ⟨gb228, 2, none⟩ = some (.int .u64 x229002_10) := (blk_cell BK228.out 2).trans rfl; have hcz81_3 : w76.cell? ⟨gb228, 3, none⟩ = some (.int .i64 x229003_10) := (blk_cell BK228.out 3).trans rfl; have hfz81_0 := blk_frozen BK228.out 0; have hfz81_1 := blk_frozen BK228.out 1; have hfz81_2 := blk_frozen BK228.out 2; have hfz81_3 := blk_frozen BK228.out 3) | ((with_reducible refine gate_callee (f := 9) rfl ?_); refine goesL_ (some 65) rfl rfl Tryd.func9 (by kernel_rfl) rfl #[.agg #[.int .i64 a0_0, .int .i64 a0_1, .int .i64 a0_2, .int .i64 a0_3, .int .i64 a0_4], .int .i64 t238, .agg #[.int .i64 ji8, .int .u64 x229001_10, .int .u64 x229002_10, .int .i64 x229003_10]] rfl (by (try simp only [List.map_toArray, List.map_cons, List.map_nil]); first | done | (simp only [hji8]; rfl) | rfl | (simp only [List.length_drop, List.length_take]; rfl)) ?_; (with_reducible refine (tale_Op.calls a0_0 a0_1 a0_2 a0_3 a0_4 t238 ji8 x229001_10 x229002_10 x229003_10 t239 t240 _ A61.out HTT.out (by repeat (first | (with_reducible first | exact HB.out | apply below_alloc | apply pw_below_drewN | apply below_drew1 | refine below_set ?_ GE212.out | refine below_set ?_ GE213.out | refine below_set ?_ GE228.out) | exact HB.out))).mono ?_); rintro e w82 ⟨rfl, hb⟩; refine ⟨_, rfl, ?_⟩; have n0_ := Aside0.mk (Kd.R_below (by (with_reducible repeat (first | apply Kd.R_alloc | apply Kd.R_drewN | apply Kd.R_drew)); exact HO_7.out) hb); have n1_ := Aside0.mk (blk_below (g := gb212) (o := .cells #[.int .i64 a0_0, .int .i64 a0_1, .int .i64 a0_2, .int .i64 a0_3, .int .i64 a0_4] 31 (0, 0)) (by (with_reducible repeat (first | refine blk_drewN ?_ _ | refine blk_drew ?_ | refine blk_alloc ?_ _)); exact BK212.out) hb); have n2_ := Aside0.mk (blk_below (g := gb213) (o := .cells #[.int .i64 0, .int .u64 0, .int .u64 0, .int .i64 0] 33 (0, 0)) (by (with_reducible repeat (first | refine blk_drewN ?_ _ | refine blk_drew ?_ | refine blk_alloc ?_ _)); exact BK213.out) hb); have n3_ := Aside0.mk (blk_below (g := gb228) (o := .cells #[.int .i64 ji8, .int .u64 x229001_10, .int .u64 x229002_10, .int .i64 x229003_10] 33 (0, 0)) (by (with_reducible repeat (first | refine blk_drewN ?_ _ | refine blk_drew ?_ | refine blk_alloc ?_ _)); exact BK228.out) hb); have n4_ := Aside0.mk (below_step (by repeat (first | (with_reducible first | exact HB.out | apply below_alloc | apply pw_below_drewN | apply below_drew1 | refine below_set ?_ GE212.out | refine below_set ?_ GE213.out | refine below_set ?_ GE228.out) | exact HB.out)) hb); clear HO_7; clear BK212; clear BK213; clear BK228; clear HB; have HO_7 := n0_; have BK212 := n1_; have BK213 := n2_; have BK228 := n3_; have HB := n4_; clear n0_ n1_ n2_ n3_ n4_; (try clear hb); (try clear hb2); (try clear hk); (try clear hi); have hcz83_0 : w82.cell? ⟨gb213, 0, none⟩ = some (.int .i64 0) := (blk_cell BK213.out 0).trans rfl; have hcz83_1 : w82.cell? ⟨gb213, 1, none⟩ = some (.int .u64 0) := (blk_cell BK213.out 1).trans rfl; have hcz83_2 : w82.cell? ⟨gb213, 2, none⟩ = some (.int .u64 0) := (blk_cell BK213.out 2).trans rfl; have hcz83_3 : w82.cell? ⟨gb213, 3, none⟩ = some (.int .i64 0) := (blk_cell BK213.out 3).trans rfl; have hfz83_0 := blk_frozen BK213.out 0; have hfz83_1 := blk_frozen BK213.out 1; have hfz83_2 := blk_frozen BK213.out 2; have hfz83_3 := blk_frozen BK213.out 3))
         refine bodyPost_ret (results_list (rs := [.tmp 4, .cell 5 33, .tmp 6]) rfl (by simp) (.tmp (.cell gb213 33 #[.int .i64 0, .int .u64 0, .int .u64 0, .int .i64 0] (0, 0) _ rfl (by (with_reducible repeat (first | refine blk_drewN ?_ _ | refine blk_drew ?_ | refine blk_alloc ?_ _)); refine blk_put (cs := #[.int .i64 0, .int .u64 0, .int .u64 0, .int .i64 0]) ?_ 3 _ rfl; (with_reducible repeat (first | refine blk_drewN ?_ _ | refine blk_drew ?_ | refine blk_alloc ?_ _)); refine blk_put (cs := #[.int .i64 0, .int .u64 0, .int .u64 0, .int .i64 0]) ?_ 2 _ rfl; (with_reducible repeat (first | refine blk_drewN ?_ _ | refine blk_drew ?_ | refine blk_alloc ?_ _)); refine blk_put (cs := #[.int .i64 0, .int .u64 0, .int .u64 0, .int .i64 0]) ?_ 1 _ rfl; (with_reducible repeat (first | refine blk_drewN ?_ _ | refine blk_drew ?_ | refine blk_alloc ?_ _)); refine blk_put (cs := #[.int .i64 0, .int .u64 0, .int .u64 0, .int .i64 0]) ?_ 0 _ rfl; (with_reducible repeat (first | refine blk_drewN ?_ _ | refine blk_drew ?_ | refine blk_alloc ?_ _)); exact BK213.out) Tryd.underlying33 rfl (by kernel_rfl) (.tmp .nil)))) rfl ?_
         exact ⟨by first | rfl | (simp [errW_none, errW_some] <;> rfl) | (simp only [← hji8]; first | rfl | (simp [errW_none, errW_some] <;> rfl)) | (simp [*, errW_none, errW_some] <;> rfl), by repeat (first | (with_reducible first | exact HB.out | apply below_alloc | apply pw_below_drewN | apply below_drew1 | refine below_set ?_ GE212.out | refine below_set ?_ GE213.out | refine below_set ?_ GE228.out) | exact HB.out)⟩
       ·rw [if_neg c62] at H
        have c62b0 : (t240 == 0) = false := beq_eq_false_iff_ne.mpr c62
        have c62b1 : (t240 != 0) = true := bne_iff_ne.mpr c62
        simp only [Option.some.injEq, Prod.mk.injEq] at H
        obtain ⟨rfl, rfl, rfl, rfl, rfl, rfl⟩ := H
        have p237 : 0 ≤ (0 : Int) := (by omega)
        have q237 : 0 < (y220.length : Int) := of_decide_eq_true (by first | (with_reducible assumption) | assumption)
        obtain ⟨ad237, e237, hx237_0⟩ := Kd.at_string (Kd.R_reads' HO_7.out).2.2 0 p237 q237
        obtain rfl : ad226 = ad237 := (by injection e237)
        have qi237 : (0 < y220.length) = True := eq_true (by omega)
        (try rw [show ((0 : Int)).toNat = 0 from rfl] at hx237_0)
        (try rw [Addr.add_zero'] at hx237_0)
        replace p237 := eq_true p237
        replace q237 := eq_true q237
        go_wp2_with (first | ((with_reducible refine gate_callee (f := 29) rfl ?_); refine goesL_ (some 60) rfl rfl Tryd.func29 (by kernel_rfl) rfl #[.string (rdOf ByteArray.empty y220 0)] rfl (by (try simp only [List.map_toArray, List.map_cons, List.map_nil]); first | done | rfl | (simp only [List.length_drop, List.length_take]; rfl)) ?_; (with_reducible refine (tale_small.calls (rdOf ByteArray.empty y220 0) t238 _ A60.out HTT.out (by repeat (first | (with_reducible first | exact HB.out | apply below_alloc | apply pw_below_drewN | apply below_drew1 | refine below_set ?_ GE212.out | refine below_set ?_ GE213.out | refine below_set ?_ GE228.out) | exact HB.out))).mono ?_); rintro e w84 ⟨rfl, hb⟩; refine ⟨_, rfl, ?_⟩; have n0_ := Aside0.mk (Kd.R_below (by (with_reducible repeat (first | apply Kd.R_alloc | apply Kd.R_drewN | apply Kd.R_drew)); exact HO_7.out) hb); have n1_ := Aside0.mk (blk_below (g := gb212) (o := .cells #[.int .i64 a0_0, .int .i64 a0_1, .int .i64 a0_2, .int .i64 a0_3, .int .i64 a0_4] 31 (0, 0)) (by (with_reducible repeat (first | refine blk_drewN ?_ _ | refine blk_drew ?_ | refine blk_alloc ?_ _)); exact BK212.out) hb); have n2_ := Aside0.mk (blk_below (g := gb213) (o := .cells #[.int .i64 0, .int .u64 0, .int .u64 0, .int .i64 0] 33 (0, 0)) (by (with_reducible repeat (first | refine blk_drewN ?_ _ | refine blk_drew ?_ | refine blk_alloc ?_ _)); exact BK213.out) hb); have n3_ := Aside0.mk (blk_below (g := gb228) (o := .cells #[.int .i64 ji8, .int .u64 x229001_10, .int .u64 x229002_10, .int .i64 x229003_10] 33 (0, 0)) (by (with_reducible repeat (first | refine blk_drewN ?_ _ | refine blk_drew ?_ | refine blk_alloc ?_ _)); exact BK228.out) hb); have n4_ := Aside0.mk (below_step (by repeat (first | (with_reducible first | exact HB.out | apply below_alloc | apply pw_below_drewN | apply below_drew1 | refine below_set ?_ GE212.out | refine below_set ?_ GE213.out | refine below_set ?_ GE228.out) | exact HB.out)) hb); clear HO_7; clear BK212; clear BK213; clear BK228; clear HB; have HO_7 := n0_; have BK212 := n1_; have BK213 := n2_; have BK228 := n3_; have HB := n4_; clear n0_ n1_ n2_ n3_ n4_; (try clear hb); (try clear hb2); (try clear hk); (try clear hi); have hnb85 := NB212_213.out; have hnc85 := NB213_212.out; have hnb86 := NB212_228.out; have hnc86 := NB228_212.out; have hcz87_0 : w84.cell? ⟨gb212, 0, none⟩ = some (.int .i64 a0_0) := (blk_cell BK212.out 0).trans rfl; have hcz87_1 : w84.cell? ⟨gb212, 1, none⟩ = some (.int .i64 a0_1) := (blk_cell BK212.out 1).trans rfl; have hcz87_2 : w84.cell? ⟨gb212, 2, none⟩ = some (.int .i64 a0_2) := (blk_cell BK212.out 2).trans rfl; have hcz87_3 : w84.cell? ⟨gb212, 3, none⟩ = some (.int .i64 a0_3) := (blk_cell BK212.out 3).trans rfl; have hcz87_4 : w84.cell? ⟨gb212, 4, none⟩ = some (.int .i64 a0_4) := (blk_cell BK212.out 4).trans rfl; have hfz87_0 := blk_frozen BK212.out 0; have hfz87_1 := blk_frozen BK212.out 1; have hfz87_2 := blk_frozen BK212.out 2; have hfz87_3 := blk_frozen BK212.out 3; have hfz87_4 := blk_frozen BK212.out 4; have hnb88 := NB228_213.out; have hnc88 := NB213_228.out; have hcz89_0 : w84.cell? ⟨gb228, 0, none⟩ = some (.int .i64 ji8) := (blk_cell BK228.out 0).trans rfl; have hcz89_1 : w84.cell? ⟨gb228, 1, none⟩ = some (.int .u64 x229001_10) := (blk_cell BK228.out 1).trans rfl; have hcz89_2 : w84.cell? ⟨gb228, 2, none⟩ = some (.int .u64 x229002_10) := (blk_cell BK228.out 2).trans rfl; have hcz89_3 : w84.cell? ⟨gb228, 3, none⟩ = some (.int .i64 x229003_10) := (blk_cell BK228.out 3).trans rfl; have hfz89_0 := blk_frozen BK228.out 0; have hfz89_1 := blk_frozen BK228.out 1; have hfz89_2 := blk_frozen BK228.out 2; have hfz89_3 := blk_frozen BK228.out 3) | ((with_reducible refine gate_callee (f := 9) rfl ?_); refine goesL_ (some 65) rfl rfl Tryd.func9 (by kernel_rfl) rfl #[.agg #[.int .i64 a0_0, .int .i64 a0_1, .int .i64 a0_2, .int .i64 a0_3, .int .i64 a0_4], .int .i64 t238, .agg #[.int .i64 ji8, .int .u64 x229001_10, .int .u64 x229002_10, .int .i64 x229003_10]] rfl (by (try simp only [List.map_toArray, List.map_cons, List.map_nil]); first | done | (simp only [hji8]; rfl) | rfl | (simp only [List.length_drop, List.length_take]; rfl)) ?_; (with_reducible refine (tale_Op.calls a0_0 a0_1 a0_2 a0_3 a0_4 t238 ji8 x229001_10 x229002_10 x229003_10 t239 t240 _ A61.out HTT.out (by repeat (first | (with_reducible first | exact HB.out | apply below_alloc | apply pw_below_drewN | apply below_drew1 | refine below_set ?_ GE212.out | refine below_set ?_ GE213.out | refine below_set ?_ GE228.out) | exact HB.out))).mono ?_); rintro e w90 ⟨rfl, hb⟩; refine ⟨_, rfl, ?_⟩; have n0_ := Aside0.mk (Kd.R_below (by (with_reducible repeat (first | apply Kd.R_alloc | apply Kd.R_drewN | apply Kd.R_drew)); exact HO_7.out) hb); have n1_ := Aside0.mk (blk_below (g := gb212) (o := .cells #[.int .i64 a0_0, .int .i64 a0_1, .int .i64 a0_2, .int .i64 a0_3, .int .i64 a0_4] 31 (0, 0)) (by (with_reducible repeat (first | refine blk_drewN ?_ _ | refine blk_drew ?_ | refine blk_alloc ?_ _)); exact BK212.out) hb); have n2_ := Aside0.mk (blk_below (g := gb213) (o := .cells #[.int .i64 0, .int .u64 0, .int .u64 0, .int .i64 0] 33 (0, 0)) (by (with_reducible repeat (first | refine blk_drewN ?_ _ | refine blk_drew ?_ | refine blk_alloc ?_ _)); exact BK213.out) hb); have n3_ := Aside0.mk (blk_below (g := gb228) (o := .cells #[.int .i64 ji8, .int .u64 x229001_10, .int .u64 x229002_10, .int .i64 x229003_10] 33 (0, 0)) (by (with_reducible repeat (first | refine blk_drewN ?_ _ | refine blk_drew ?_ | refine blk_alloc ?_ _)); exact BK228.out) hb); have n4_ := Aside0.mk (below_step (by repeat (first | (with_reducible first | exact HB.out | apply below_alloc | apply pw_below_drewN | apply below_drew1 | refine below_set ?_ GE212.out | refine below_set ?_ GE213.out | refine below_set ?_ GE228.out) | exact HB.out)) hb); clear HO_7; clear BK212; clear BK213; clear BK228; clear HB; have HO_7 := n0_; have BK212 := n1_; have BK213 := n2_; have BK228 := n3_; have HB := n4_; clear n0_ n1_ n2_ n3_ n4_; (try clear hb); (try clear hb2); (try clear hk); (try clear hi); have hcz91_0 : w90.cell? ⟨gb213, 0, none⟩ = some (.int .i64 0) := (blk_cell BK213.out 0).trans rfl; have hcz91_1 : w90.cell? ⟨gb213, 1, none⟩ = some (.int .u64 0) := (blk_cell BK213.out 1).trans rfl; have hcz91_2 : w90.cell? ⟨gb213, 2, none⟩ = some (.int .u64 0) := (blk_cell BK213.out 2).trans rfl; have hcz91_3 : w90.cell? ⟨gb213, 3, none⟩ = some (.int .i64 0) := (blk_cell BK213.out 3).trans rfl; have hfz91_0 := blk_frozen BK213.out 0; have hfz91_1 := blk_frozen BK213.out 1; have hfz91_2 := blk_frozen BK213.out 2; have hfz91_3 := blk_frozen BK213.out 3))
        refine bodyPost_ret (results_list (rs := [.tmp 4, .cell 5 33, .tmp 6]) rfl (by simp) (.tmp (.cell gb213 33 #[.int .i64 0, .int .u64 0, .int .u64 0, .int .i64 0] (0, 0) _ rfl (by (with_reducible repeat (first | refine blk_drewN ?_ _ | refine blk_drew ?_ | refine blk_alloc ?_ _)); refine blk_put (cs := #[.int .i64 0, .int .u64 0, .int .u64 0, .int .i64 0]) ?_ 3 _ rfl; (with_reducible repeat (first | refine blk_drewN ?_ _ | refine blk_drew ?_ | refine blk_alloc ?_ _)); refine blk_put (cs := #[.int .i64 0, .int .u64 0, .int .u64 0, .int .i64 0]) ?_ 2 _ rfl; (with_reducible repeat (first | refine blk_drewN ?_ _ | refine blk_drew ?_ | refine blk_alloc ?_ _)); refine blk_put (cs := #[.int .i64 0, .int .u64 0, .int .u64 0, .int .i64 0]) ?_ 1 _ rfl; (with_reducible repeat (first | refine blk_drewN ?_ _ | refine blk_drew ?_ | refine blk_alloc ?_ _)); refine blk_put (cs := #[.int .i64 0, .int .u64 0, .int .u64 0, .int .i64 0]) ?_ 0 _ rfl; (with_reducible repeat (first | refine blk_drewN ?_ _ | refine blk_drew ?_ | refine blk_alloc ?_ _)); exact BK213.out) Tryd.underlying33 rfl (by kernel_rfl) (.tmp .nil)))) rfl ?_
        exact ⟨by first | rfl | (simp [errW_none, errW_some] <;> rfl) | (simp only [← hji8]; first | rfl | (simp [errW_none, errW_some] <;> rfl)) | (simp [*, errW_none, errW_some] <;> rfl), by repeat (first | (with_reducible first | exact HB.out | apply below_alloc | apply pw_below_drewN | apply below_drew1 | refine below_set ?_ GE212.out | refine below_set ?_ GE213.out | refine below_set ?_ GE228.out) | exact HB.out)⟩
      ·rw [if_neg c59] at H
       exact absurd H (by simp)
   ·rw [if_neg c9] at H
    exact absurd H (by simp)
  ·rw [if_neg c6] at H
   exact absurd H (by simp)
 ·rw [if_neg c4] at H
  exact absurd H (by simp)
end Go.Proofs.YtinmmnljicmppaaDoor.PTaleApart
