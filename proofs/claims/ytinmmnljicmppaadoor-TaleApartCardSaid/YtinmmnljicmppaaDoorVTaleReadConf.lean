import Derived.Test.YtinmmnljicmppaaDoorVTaleF
import Derived.Test.YtinmmnljicmppaaDoorVTalePd
import Derived.Test.YtinmmnljicmppaaDoorVPTaleApartx0
/- Words of this proof. -/
namespace Go.Proofs.YtinmmnljicmppaaDoor.PTaleApart
open Go.RowKit Go.Proofs.YtinmmnljicmppaaDoorW.PrintWords Go.Proofs.YtinmmnljicmppaaDoorW.PrintLast Go.Proofs.YtinmmnljicmppaaDoorW.PrintMore Go.Proofs.YtinmmnljicmppaaDoor.Str
attribute [local go_sem] max2_int min2_int max_two min_two max_three min_three max_four min_four
set_option linter.unusedVariables false
set_option linter.unusedSimpArgs false
def tale_ReadConf.f (k : Nat) (a0 : ByteArray) : Option (Int × Int × Int × Int × Int × Int) := (strings_Split.f a0 (⟨#[32]⟩ : ByteArray)).bind fun t164 => ((some (([(⟨#[]⟩ : ByteArray), (⟨#[]⟩ : ByteArray), (⟨#[]⟩ : ByteArray)] : List ByteArray) : List ByteArray)).bind fun y167 => (if t164.length + y167.length < 8796093022208 then ((some (t164 ++ y167 : List ByteArray)).bind fun y170 => ((tale_kinds.f).bind fun t173 => (if 0 < (y170.length : Int) then ((slices_Index_string_string.f k t173 (rdOf ByteArray.empty y170 0)).bind fun t177 => (if 1 < (y170.length : Int) then ((tale_small.f (rdOf ByteArray.empty y170 1)).bind fun t179 => (if 2 < (y170.length : Int) then ((tale_small.f (rdOf ByteArray.empty y170 2)).bind fun t181 => (if (mx t177 0) = 2 then ((tale_small.f (rdOf ByteArray.empty y170 2)).bind fun t184 => (if 3 < (y170.length : Int) then ((tale_small.f (rdOf ByteArray.empty y170 3)).bind fun t186 => ((tale_Conf.f (mx t177 0) t179 t184 1 t186).bind fun bt187 => (if bt187.2 = 0 then (if bt187.1.toList = a0.toList then (some (mx t177 0, t179, t184, 1, t186, 0)) else (some (0, 0, 0, 0, 0, 4))) else (some (0, 0, 0, 0, 0, 4))))) else (none))) else (if (mx t177 0) = 3 then ((tale_small.f (rdOf ByteArray.empty y170 2)).bind fun t190 => (if 3 < (y170.length : Int) then ((tale_small.f (rdOf ByteArray.empty y170 3)).bind fun t192 => ((tale_Conf.f (mx t177 0) t179 0 t190 t192).bind fun bt193 => (if bt193.2 = 0 then (if bt193.1.toList = a0.toList then (some (mx t177 0, t179, 0, t190, t192, 0)) else (some (0, 0, 0, 0, 0, 4))) else (some (0, 0, 0, 0, 0, 4))))) else (none))) else ((tale_Conf.f (mx t177 0) t179 0 1 t181).bind fun bt195 => (if bt195.2 = 0 then (if bt195.1.toList = a0.toList then (some (mx t177 0, t179, 0, 1, t181, 0)) else (some (0, 0, 0, 0, 0, 4))) else (some (0, 0, 0, 0, 0, 4))))))) else (none))) else (none))) else (none)))) else (none)))
theorem tale_ReadConf.mono : ∀ a0 k, LeO (tale_ReadConf.f k a0) (tale_ReadConf.f (k + 1) a0) := by
 intro a0 k
 unfold tale_ReadConf.f
 repeat' first
   | (with_reducible exact slices_Index_string_string.mono _ _ _)
   | (with_reducible exact LeO.refl _)
   | (with_reducible exact LeO.none _)
   | (with_reducible refine LeO.ite ?_ ?_)
   | (with_reducible refine LeO.bind ?_ (fun _ => ?_))
   | exact slices_Index_string_string.mono _ _ _
   | exact LeO.none _
   | refine LeO.ite ?_ ?_
   | refine LeO.bind ?_ (fun _ => ?_)
def tale_ReadConf.T2 : Bool × List (List Nat × List Nat) := (true, [([], []), ([], []), ([1], [1]), ([2], [2]), ([0, 3, 0], [0, 3]), ([4], [4]), ([], []), ([6], [6]), ([7], [7]), ([8, 4], [8]), ([], []), ([10], [10]), ([11], [11]), ([12, 9], [12]), ([5, 9, 13], [5, 9, 13]), ([], []), ([15, 14, 13, 0, 1, 2, 3, 4, 5, 6, 7, 8, 9, 10, 11, 12, 13, 14, 15], [14, 15])])
def tale_ReadConf.B2 : List Nat := [0, 0, 2, 6, 15, 31, 0, 64, 192, 479, 0, 1024, 3072, 8159, 16383, 0, 65535]
theorem tale_ReadConf.tab2 : rtab .any (opsOf Tryd.f13 2) = tale_ReadConf.T2 := by kernel_rfl
theorem tale_ReadConf.bits2 : waitsOk tale_ReadConf.T2.2 tale_ReadConf.B2 = true := by kernel_rfl
def tale_ReadConf.T5 : Bool × List (List Nat × List Nat) := (true, [([], []), ([0], [0]), ([1], [1]), ([2], [2]), ([], []), ([4], [4]), ([5], [5]), ([6, 3], [6]), ([0, 1, 2, 3], []), ([8, 3, 7, 0, 1, 2, 3], [3, 8]), ([0, 1, 2, 3, 4, 5, 6, 7, 8, 9], []), ([10, 7, 9, 0, 1, 2, 3, 4, 5, 6, 7, 8, 9], [7, 10])])
def tale_ReadConf.B5 : List Nat := [0, 1, 3, 7, 0, 16, 48, 127, 15, 511, 1023, 2047]
theorem tale_ReadConf.tab5 : rtab .any (opsOf Tryd.f13 5) = tale_ReadConf.T5 := by kernel_rfl
theorem tale_ReadConf.bits5 : waitsOk tale_ReadConf.T5.2 tale_ReadConf.B5 = true := by kernel_rfl
def tale_ReadConf.T7 : Bool × List (List Nat × List Nat) := (true, [([], []), ([0], [0]), ([1], [1]), ([2], [2]), ([], []), ([4], [4]), ([5], [5]), ([6, 3], [6]), ([0, 1, 2, 3], []), ([8, 3, 7, 0, 1, 2, 3], [3, 8]), ([0, 1, 2, 3, 4, 5, 6, 7, 8, 9], []), ([10, 7, 9, 0, 1, 2, 3, 4, 5, 6, 7, 8, 9], [7, 10])])
def tale_ReadConf.B7 : List Nat := [0, 1, 3, 7, 0, 16, 48, 127, 15, 511, 1023, 2047]
theorem tale_ReadConf.tab7 : rtab .any (opsOf Tryd.f13 7) = tale_ReadConf.T7 := by kernel_rfl
theorem tale_ReadConf.bits7 : waitsOk tale_ReadConf.T7.2 tale_ReadConf.B7 = true := by kernel_rfl
set_option maxHeartbeats 8000000 in
set_option maxRecDepth 100000 in
theorem tale_ReadConf.calls (k : Nat) (a0 : ByteArray) (r1 : Int) (r2 : Int) (r3 : Int) (r4 : Int) (r5 : Int) (r6 : Int) (w : World) (h : tale_ReadConf.f k a0 = some (r1, r2, r3, r4, r5, r6)) {w0 : World} (ht0 : WT w0) (hb0 : Below w0.heap.size w0 w) :
  Calls Tryd.prog 13 #[.string a0] w fun e w' => e = .returned (.tuple #[.agg #[.int .i64 r1, .int .i64 r2, .int .i64 r3, .int .i64 r4, .int .i64 r5], .int .i64 r6]) ∧ Below w.heap.size w w' := by
 have hu31 := Tryd.underlying31
 have HTT := Aside0.mk (WT.below ht0 hb0)
 clear ht0 hb0
 have HB := Aside0.mk (Below.refl w.heap.size w)
 have H : ((strings_Split.f a0 (⟨#[32]⟩ : ByteArray)).bind fun t164 => ((some (([(⟨#[]⟩ : ByteArray), (⟨#[]⟩ : ByteArray), (⟨#[]⟩ : ByteArray)] : List ByteArray) : List ByteArray)).bind fun y167 => (if t164.length + y167.length < 8796093022208 then ((some (t164 ++ y167 : List ByteArray)).bind fun y170 => ((tale_kinds.f).bind fun t173 => (if 0 < (y170.length : Int) then ((slices_Index_string_string.f k t173 (rdOf ByteArray.empty y170 0)).bind fun t177 => (if 1 < (y170.length : Int) then ((tale_small.f (rdOf ByteArray.empty y170 1)).bind fun t179 => (if 2 < (y170.length : Int) then ((tale_small.f (rdOf ByteArray.empty y170 2)).bind fun t181 => (if (mx t177 0) = 2 then ((tale_small.f (rdOf ByteArray.empty y170 2)).bind fun t184 => (if 3 < (y170.length : Int) then ((tale_small.f (rdOf ByteArray.empty y170 3)).bind fun t186 => ((tale_Conf.f (mx t177 0) t179 t184 1 t186).bind fun bt187 => (if bt187.2 = 0 then (if bt187.1.toList = a0.toList then (some (mx t177 0, t179, t184, 1, t186, 0)) else (some (0, 0, 0, 0, 0, 4))) else (some (0, 0, 0, 0, 0, 4))))) else (none))) else (if (mx t177 0) = 3 then ((tale_small.f (rdOf ByteArray.empty y170 2)).bind fun t190 => (if 3 < (y170.length : Int) then ((tale_small.f (rdOf ByteArray.empty y170 3)).bind fun t192 => ((tale_Conf.f (mx t177 0) t179 0 t190 t192).bind fun bt193 => (if bt193.2 = 0 then (if bt193.1.toList = a0.toList then (some (mx t177 0, t179, 0, t190, t192, 0)) else (some (0, 0, 0, 0, 0, 4))) else (some (0, 0, 0, 0, 0, 4))))) else (none))) else ((tale_Conf.f (mx t177 0) t179 0 1 t181).bind fun bt195 => (if bt195.2 = 0 then (if bt195.1.toList = a0.toList then (some (mx t177 0, t179, 0, 1, t181, 0)) else (some (0, 0, 0, 0, 0, 4))) else (some (0, 0, 0, 0, 0, 4))))))) else (none))) else (none))) else (none)))) else (none)))) = some (r1, r2, r3, r4, r5, r6) := h
 clear h
 replace H := Option.bind_eq_some_iff.mp H
 obtain ⟨t164, A20, H⟩ := H
 replace H : ((some (([(⟨#[]⟩ : ByteArray), (⟨#[]⟩ : ByteArray), (⟨#[]⟩ : ByteArray)] : List ByteArray) : List ByteArray)).bind fun y167 => (if t164.length + y167.length < 8796093022208 then ((some (t164 ++ y167 : List ByteArray)).bind fun y170 => ((tale_kinds.f).bind fun t173 => (if 0 < (y170.length : Int) then ((slices_Index_string_string.f k t173 (rdOf ByteArray.empty y170 0)).bind fun t177 => (if 1 < (y170.length : Int) then ((tale_small.f (rdOf ByteArray.empty y170 1)).bind fun t179 => (if 2 < (y170.length : Int) then ((tale_small.f (rdOf ByteArray.empty y170 2)).bind fun t181 => (if (mx t177 0) = 2 then ((tale_small.f (rdOf ByteArray.empty y170 2)).bind fun t184 => (if 3 < (y170.length : Int) then ((tale_small.f (rdOf ByteArray.empty y170 3)).bind fun t186 => ((tale_Conf.f (mx t177 0) t179 t184 1 t186).bind fun bt187 => (if bt187.2 = 0 then (if bt187.1.toList = a0.toList then (some (mx t177 0, t179, t184, 1, t186, 0)) else (some (0, 0, 0, 0, 0, 4))) else (some (0, 0, 0, 0, 0, 4))))) else (none))) else (if (mx t177 0) = 3 then ((tale_small.f (rdOf ByteArray.empty y170 2)).bind fun t190 => (if 3 < (y170.length : Int) then ((tale_small.f (rdOf ByteArray.empty y170 3)).bind fun t192 => ((tale_Conf.f (mx t177 0) t179 0 t190 t192).bind fun bt193 => (if bt193.2 = 0 then (if bt193.1.toList = a0.toList then (some (mx t177 0, t179, 0, t190, t192, 0)) else (some (0, 0, 0, 0, 0, 4))) else (some (0, 0, 0, 0, 0, 4))))) else (none))) else ((tale_Conf.f (mx t177 0) t179 0 1 t181).bind fun bt195 => (if bt195.2 = 0 then (if bt195.1.toList = a0.toList then (some (mx t177 0, t179, 0, 1, t181, 0)) else (some (0, 0, 0, 0, 0, 4))) else (some (0, 0, 0, 0, 0, 4))))))) else (none))) else (none))) else (none)))) else (none))) = some (r1, r2, r3, r4, r5, r6) := H
 have A2 := Aside0.mk A20
 clear A20
 obtain ⟨y167, hy167⟩ : ∃ y_ : List ByteArray, y_ = (([(⟨#[]⟩ : ByteArray), (⟨#[]⟩ : ByteArray), (⟨#[]⟩ : ByteArray)] : List ByteArray)) := ⟨_, rfl⟩
 replace H : (if t164.length + y167.length < 8796093022208 then ((some (t164 ++ y167 : List ByteArray)).bind fun y170 => ((tale_kinds.f).bind fun t173 => (if 0 < (y170.length : Int) then ((slices_Index_string_string.f k t173 (rdOf ByteArray.empty y170 0)).bind fun t177 => (if 1 < (y170.length : Int) then ((tale_small.f (rdOf ByteArray.empty y170 1)).bind fun t179 => (if 2 < (y170.length : Int) then ((tale_small.f (rdOf ByteArray.empty y170 2)).bind fun t181 => (if (mx t177 0) = 2 then ((tale_small.f (rdOf ByteArray.empty y170 2)).bind fun t184 => (if 3 < (y170.length : Int) then ((tale_small.f (rdOf ByteArray.empty y170 3)).bind fun t186 => ((tale_Conf.f (mx t177 0) t179 t184 1 t186).bind fun bt187 => (if bt187.2 = 0 then (if bt187.1.toList = a0.toList then (some (mx t177 0, t179, t184, 1, t186, 0)) else (some (0, 0, 0, 0, 0, 4))) else (some (0, 0, 0, 0, 0, 4))))) else (none))) else (if (mx t177 0) = 3 then ((tale_small.f (rdOf ByteArray.empty y170 2)).bind fun t190 => (if 3 < (y170.length : Int) then ((tale_small.f (rdOf ByteArray.empty y170 3)).bind fun t192 => ((tale_Conf.f (mx t177 0) t179 0 t190 t192).bind fun bt193 => (if bt193.2 = 0 then (if bt193.1.toList = a0.toList then (some (mx t177 0, t179, 0, t190, t192, 0)) else (some (0, 0, 0, 0, 0, 4))) else (some (0, 0, 0, 0, 0, 4))))) else (none))) else ((tale_Conf.f (mx t177 0) t179 0 1 t181).bind fun bt195 => (if bt195.2 = 0 then (if bt195.1.toList = a0.toList then (some (mx t177 0, t179, 0, 1, t181, 0)) else (some (0, 0, 0, 0, 0, 4))) else (some (0, 0, 0, 0, 0, 4))))))) else (none))) else (none))) else (none)))) else (none)) = some (r1, r2, r3, r4, r5, r6) := by first | (rw [hy167]; with_reducible exact H) | (have H2_ := (Option.bind_some _ _).symm.trans H; rw [hy167]; with_reducible exact H2_) | (have H2_ := (Option.bind_some _ _).symm.trans H; with_reducible exact H2_) | with_reducible exact H | (rw [hy167]; exact H) | exact H
 have Ny167 := Aside0.mk hy167
 clear hy167
 by_cases c3 : t164.length + y167.length < 8796093022208
 ·rw [if_pos c3] at H
  have LMc3 := Aside0.mk c3
  clear c3
  obtain ⟨y170, hy170⟩ : ∃ y_ : List ByteArray, y_ = (t164 ++ y167) := ⟨_, rfl⟩
  replace H : ((tale_kinds.f).bind fun t173 => (if 0 < (y170.length : Int) then ((slices_Index_string_string.f k t173 (rdOf ByteArray.empty y170 0)).bind fun t177 => (if 1 < (y170.length : Int) then ((tale_small.f (rdOf ByteArray.empty y170 1)).bind fun t179 => (if 2 < (y170.length : Int) then ((tale_small.f (rdOf ByteArray.empty y170 2)).bind fun t181 => (if (mx t177 0) = 2 then ((tale_small.f (rdOf ByteArray.empty y170 2)).bind fun t184 => (if 3 < (y170.length : Int) then ((tale_small.f (rdOf ByteArray.empty y170 3)).bind fun t186 => ((tale_Conf.f (mx t177 0) t179 t184 1 t186).bind fun bt187 => (if bt187.2 = 0 then (if bt187.1.toList = a0.toList then (some (mx t177 0, t179, t184, 1, t186, 0)) else (some (0, 0, 0, 0, 0, 4))) else (some (0, 0, 0, 0, 0, 4))))) else (none))) else (if (mx t177 0) = 3 then ((tale_small.f (rdOf ByteArray.empty y170 2)).bind fun t190 => (if 3 < (y170.length : Int) then ((tale_small.f (rdOf ByteArray.empty y170 3)).bind fun t192 => ((tale_Conf.f (mx t177 0) t179 0 t190 t192).bind fun bt193 => (if bt193.2 = 0 then (if bt193.1.toList = a0.toList then (some (mx t177 0, t179, 0, t190, t192, 0)) else (some (0, 0, 0, 0, 0, 4))) else (some (0, 0, 0, 0, 0, 4))))) else (none))) else ((tale_Conf.f (mx t177 0) t179 0 1 t181).bind fun bt195 => (if bt195.2 = 0 then (if bt195.1.toList = a0.toList then (some (mx t177 0, t179, 0, 1, t181, 0)) else (some (0, 0, 0, 0, 0, 4))) else (some (0, 0, 0, 0, 0, 4))))))) else (none))) else (none))) else (none))) = some (r1, r2, r3, r4, r5, r6) := by first | (rw [hy170]; with_reducible exact H) | (have H2_ := (Option.bind_some _ _).symm.trans H; rw [hy170]; with_reducible exact H2_) | (have H2_ := (Option.bind_some _ _).symm.trans H; with_reducible exact H2_) | with_reducible exact H | (rw [hy170]; exact H) | exact H
  have Ny170 := Aside0.mk hy170
  clear hy170
  replace H := Option.bind_eq_some_iff.mp H
  obtain ⟨t173, A40, H⟩ := H
  replace H : (if 0 < (y170.length : Int) then ((slices_Index_string_string.f k t173 (rdOf ByteArray.empty y170 0)).bind fun t177 => (if 1 < (y170.length : Int) then ((tale_small.f (rdOf ByteArray.empty y170 1)).bind fun t179 => (if 2 < (y170.length : Int) then ((tale_small.f (rdOf ByteArray.empty y170 2)).bind fun t181 => (if (mx t177 0) = 2 then ((tale_small.f (rdOf ByteArray.empty y170 2)).bind fun t184 => (if 3 < (y170.length : Int) then ((tale_small.f (rdOf ByteArray.empty y170 3)).bind fun t186 => ((tale_Conf.f (mx t177 0) t179 t184 1 t186).bind fun bt187 => (if bt187.2 = 0 then (if bt187.1.toList = a0.toList then (some (mx t177 0, t179, t184, 1, t186, 0)) else (some (0, 0, 0, 0, 0, 4))) else (some (0, 0, 0, 0, 0, 4))))) else (none))) else (if (mx t177 0) = 3 then ((tale_small.f (rdOf ByteArray.empty y170 2)).bind fun t190 => (if 3 < (y170.length : Int) then ((tale_small.f (rdOf ByteArray.empty y170 3)).bind fun t192 => ((tale_Conf.f (mx t177 0) t179 0 t190 t192).bind fun bt193 => (if bt193.2 = 0 then (if bt193.1.toList = a0.toList then (some (mx t177 0, t179, 0, t190, t192, 0)) else (some (0, 0, 0, 0, 0, 4))) else (some (0, 0, 0, 0, 0, 4))))) else (none))) else ((tale_Conf.f (mx t177 0) t179 0 1 t181).bind fun bt195 => (if bt195.2 = 0 then (if bt195.1.toList = a0.toList then (some (mx t177 0, t179, 0, 1, t181, 0)) else (some (0, 0, 0, 0, 0, 4))) else (some (0, 0, 0, 0, 0, 4))))))) else (none))) else (none))) else (none)) = some (r1, r2, r3, r4, r5, r6) := H
  have A4 := Aside0.mk A40
  clear A40
  by_cases c5 : 0 < (y170.length : Int)
  ·rw [if_pos c5] at H
   have c5b0 : decide (0 < (y170.length : Int)) = true := decide_eq_true c5
   have c5b1 : decide (0 < y170.length) = true := decide_eq_true (by omega)
   clear c5
   replace H := Option.bind_eq_some_iff.mp H
   obtain ⟨t177, A60, H⟩ := H
   replace H : (if 1 < (y170.length : Int) then ((tale_small.f (rdOf ByteArray.empty y170 1)).bind fun t179 => (if 2 < (y170.length : Int) then ((tale_small.f (rdOf ByteArray.empty y170 2)).bind fun t181 => (if (mx t177 0) = 2 then ((tale_small.f (rdOf ByteArray.empty y170 2)).bind fun t184 => (if 3 < (y170.length : Int) then ((tale_small.f (rdOf ByteArray.empty y170 3)).bind fun t186 => ((tale_Conf.f (mx t177 0) t179 t184 1 t186).bind fun bt187 => (if bt187.2 = 0 then (if bt187.1.toList = a0.toList then (some (mx t177 0, t179, t184, 1, t186, 0)) else (some (0, 0, 0, 0, 0, 4))) else (some (0, 0, 0, 0, 0, 4))))) else (none))) else (if (mx t177 0) = 3 then ((tale_small.f (rdOf ByteArray.empty y170 2)).bind fun t190 => (if 3 < (y170.length : Int) then ((tale_small.f (rdOf ByteArray.empty y170 3)).bind fun t192 => ((tale_Conf.f (mx t177 0) t179 0 t190 t192).bind fun bt193 => (if bt193.2 = 0 then (if bt193.1.toList = a0.toList then (some (mx t177 0, t179, 0, t190, t192, 0)) else (some (0, 0, 0, 0, 0, 4))) else (some (0, 0, 0, 0, 0, 4))))) else (none))) else ((tale_Conf.f (mx t177 0) t179 0 1 t181).bind fun bt195 => (if bt195.2 = 0 then (if bt195.1.toList = a0.toList then (some (mx t177 0, t179, 0, 1, t181, 0)) else (some (0, 0, 0, 0, 0, 4))) else (some (0, 0, 0, 0, 0, 4))))))) else (none))) else (none)) = some (r1, r2, r3, r4, r5, r6) := H
   have A6 := Aside0.mk A60
   clear A60
   obtain ⟨ji7, hji7⟩ : ∃ j_ : Int, (mx t177 0) = j_ := ⟨_, rfl⟩
   replace H : (if 1 < (y170.length : Int) then ((tale_small.f (rdOf ByteArray.empty y170 1)).bind fun t179 => (if 2 < (y170.length : Int) then ((tale_small.f (rdOf ByteArray.empty y170 2)).bind fun t181 => (if (ji7) = 2 then ((tale_small.f (rdOf ByteArray.empty y170 2)).bind fun t184 => (if 3 < (y170.length : Int) then ((tale_small.f (rdOf ByteArray.empty y170 3)).bind fun t186 => ((tale_Conf.f (ji7) t179 t184 1 t186).bind fun bt187 => (if bt187.2 = 0 then (if bt187.1.toList = a0.toList then (some (ji7, t179, t184, 1, t186, 0)) else (some (0, 0, 0, 0, 0, 4))) else (some (0, 0, 0, 0, 0, 4))))) else (none))) else (if (ji7) = 3 then ((tale_small.f (rdOf ByteArray.empty y170 2)).bind fun t190 => (if 3 < (y170.length : Int) then ((tale_small.f (rdOf ByteArray.empty y170 3)).bind fun t192 => ((tale_Conf.f (ji7) t179 0 t190 t192).bind fun bt193 => (if bt193.2 = 0 then (if bt193.1.toList = a0.toList then (some (ji7, t179, 0, t190, t192, 0)) else (some (0, 0, 0, 0, 0, 4))) else (some (0, 0, 0, 0, 0, 4))))) else (none))) else ((tale_Conf.f (ji7) t179 0 1 t181).bind fun bt195 => (if bt195.2 = 0 then (if bt195.1.toList = a0.toList then (some (ji7, t179, 0, 1, t181, 0)) else (some (0, 0, 0, 0, 0, 4))) else (some (0, 0, 0, 0, 0, 4))))))) else (none))) else (none)) = some (r1, r2, r3, r4, r5, r6) := by first | (rw [hji7] at H; exact H) | (simp only [hji7] at H ⊢; exact H)
   (try rw [hji7] at A2)
   (try rw [hji7] at A4)
   (try rw [hji7] at A6)
   (try (have hji7l : 0 ≤ ji7 := by (rw [← hji7]; unfold mx; (repeat' split) <;> omega)))
   (try (have hji7m : 0 ≤ ji7 := by omega))
   have hji7_ : (if t177 < 0 then 0 else t177) = ji7 := hji7
   by_cases c8 : 1 < (y170.length : Int)
   ·rw [if_pos c8] at H
    have c8b0 : decide (1 < (y170.length : Int)) = true := decide_eq_true c8
    have c8b1 : decide (1 < y170.length) = true := decide_eq_true (by omega)
    clear c8
    replace H := Option.bind_eq_some_iff.mp H
    obtain ⟨t179, A90, H⟩ := H
    replace H : (if 2 < (y170.length : Int) then ((tale_small.f (rdOf ByteArray.empty y170 2)).bind fun t181 => (if (ji7) = 2 then ((tale_small.f (rdOf ByteArray.empty y170 2)).bind fun t184 => (if 3 < (y170.length : Int) then ((tale_small.f (rdOf ByteArray.empty y170 3)).bind fun t186 => ((tale_Conf.f (ji7) t179 t184 1 t186).bind fun bt187 => (if bt187.2 = 0 then (if bt187.1.toList = a0.toList then (some (ji7, t179, t184, 1, t186, 0)) else (some (0, 0, 0, 0, 0, 4))) else (some (0, 0, 0, 0, 0, 4))))) else (none))) else (if (ji7) = 3 then ((tale_small.f (rdOf ByteArray.empty y170 2)).bind fun t190 => (if 3 < (y170.length : Int) then ((tale_small.f (rdOf ByteArray.empty y170 3)).bind fun t192 => ((tale_Conf.f (ji7) t179 0 t190 t192).bind fun bt193 => (if bt193.2 = 0 then (if bt193.1.toList = a0.toList then (some (ji7, t179, 0, t190, t192, 0)) else (some (0, 0, 0, 0, 0, 4))) else (some (0, 0, 0, 0, 0, 4))))) else (none))) else ((tale_Conf.f (ji7) t179 0 1 t181).bind fun bt195 => (if bt195.2 = 0 then (if bt195.1.toList = a0.toList then (some (ji7, t179, 0, 1, t181, 0)) else (some (0, 0, 0, 0, 0, 4))) else (some (0, 0, 0, 0, 0, 4))))))) else (none)) = some (r1, r2, r3, r4, r5, r6) := H
    have A9 := Aside0.mk A90
    clear A90
    by_cases c10 : 2 < (y170.length : Int)
    ·rw [if_pos c10] at H
     have c10b0 : decide (2 < (y170.length : Int)) = true := decide_eq_true c10
     have c10b1 : decide (2 < y170.length) = true := decide_eq_true (by omega)
     clear c10
     replace H := Option.bind_eq_some_iff.mp H
     obtain ⟨t181, A110, H⟩ := H
     replace H : (if (ji7) = 2 then ((tale_small.f (rdOf ByteArray.empty y170 2)).bind fun t184 => (if 3 < (y170.length : Int) then ((tale_small.f (rdOf ByteArray.empty y170 3)).bind fun t186 => ((tale_Conf.f (ji7) t179 t184 1 t186).bind fun bt187 => (if bt187.2 = 0 then (if bt187.1.toList = a0.toList then (some (ji7, t179, t184, 1, t186, 0)) else (some (0, 0, 0, 0, 0, 4))) else (some (0, 0, 0, 0, 0, 4))))) else (none))) else (if (ji7) = 3 then ((tale_small.f (rdOf ByteArray.empty y170 2)).bind fun t190 => (if 3 < (y170.length : Int) then ((tale_small.f (rdOf ByteArray.empty y170 3)).bind fun t192 => ((tale_Conf.f (ji7) t179 0 t190 t192).bind fun bt193 => (if bt193.2 = 0 then (if bt193.1.toList = a0.toList then (some (ji7, t179, 0, t190, t192, 0)) else (some (0, 0, 0, 0, 0, 4))) else (some (0, 0, 0, 0, 0, 4))))) else (none))) else ((tale_Conf.f (ji7) t179 0 1 t181).bind fun bt195 => (if bt195.2 = 0 then (if bt195.1.toList = a0.toList then (some (ji7, t179, 0, 1, t181, 0)) else (some (0, 0, 0, 0, 0, 4))) else (some (0, 0, 0, 0, 0, 4)))))) = some (r1, r2, r3, r4, r5, r6) := H
     have A11 := Aside0.mk A110
     clear A110
     have HH_ := Aside0.mk H
     clear H
     go_enter Tryd.func13, Tryd.ntmps13
     try go_wp2_with (first | ((with_reducible refine gate_dst (N := 2) rfl ?_); refine box_event ?hg (N := 2) ?hd (cs := #[.int .i64 0, .int .i64 0, .int .i64 0, .int .i64 0, .int .i64 0]) (t := 31) ?hr ?_; (case hd => rfl); (case hg => rfl); (case hr => first | (go_simp; done) | (go_simp; rfl)); intro gb163 hg wz1 hbox hb; have n0_ := Aside0.mk (below_step (by repeat (first | (with_reducible first | exact HB.out | apply below_alloc | apply pw_below_drewN | apply below_drew1) | exact HB.out)) hb); have n1_ := Aside0.mk (hbox); have n2_ := Aside0.mk ((by rw [hg]; exact (below_size (by repeat (first | (with_reducible first | exact HB.out | apply below_alloc | apply pw_below_drewN | apply below_drew1) | exact HB.out))) : w.heap.size ≤ gb163)); have n3_ := Aside0.mk ((by rw [hg]; exact (below_size (by repeat (first | (with_reducible first | exact HB.out | apply below_alloc | apply pw_below_drewN | apply below_drew1) | exact HB.out))) : w.heap.size ≤ gb163)); clear HB; have HB := n0_; have BK163 := n1_; have GW163 := n2_; have GE163 := n3_; clear n0_ n1_ n2_ n3_; clear hb hbox hg) | ((with_reducible refine gate_callee (f := 26) rfl ?_); refine goesL_ (some 9) rfl rfl Tryd.func26 (by kernel_rfl) rfl #[.string a0, .string (⟨#[32]⟩ : ByteArray)] rfl (by (try simp only [List.map_toArray, List.map_cons, List.map_nil]); first | done | rfl | (simp only [List.length_drop, List.length_take]; rfl)) ?_; (with_reducible refine (strings_Split.calls a0 (⟨#[32]⟩ : ByteArray) t164 _ A2.out HTT.out (by repeat (first | (with_reducible first | exact HB.out | apply below_alloc | apply pw_below_drewN | apply below_drew1 | refine below_set ?_ GE163.out) | exact HB.out))).mono ?_); rintro e wz2 ⟨v165, rfl, hoz1, hb⟩; refine ⟨_, rfl, ?_⟩; have n0_ := Aside0.mk (Kd.R_lower hoz1 (below_size (by repeat (first | (with_reducible first | exact HB.out | apply below_alloc | apply pw_below_drewN | apply below_drew1 | refine below_set ?_ GE163.out) | exact HB.out)))); have n1_ := Aside0.mk (blk_below (g := gb163) (o := .cells #[.int .i64 0, .int .i64 0, .int .i64 0, .int .i64 0, .int .i64 0] 31 (0, 0)) (by (with_reducible repeat (first | refine blk_drewN ?_ _ | refine blk_drew ?_ | refine blk_alloc ?_ _)); exact BK163.out) hb); have n2_ := Aside0.mk (below_step (by repeat (first | (with_reducible first | exact HB.out | apply below_alloc | apply pw_below_drewN | apply below_drew1 | refine below_set ?_ GE163.out) | exact HB.out)) hb); clear BK163; clear HB; have HO166 := n0_; have BK163 := n1_; have HB := n2_; clear n0_ n1_ n2_; (try clear hb); (try clear hb2); (try clear hk); (try clear hi); (try clear hoz1)) | ((with_reducible refine gate_dst (N := 10) rfl ?_); refine Kd.R_lit Kd.string _ 9 ?hg (N := 10) ?hd (xs := ([(⟨#[]⟩ : ByteArray), (⟨#[]⟩ : ByteArray), (⟨#[]⟩ : ByteArray)] : List ByteArray)) (inner := [.string (⟨#[]⟩ : ByteArray), .string (⟨#[]⟩ : ByteArray), .string (⟨#[]⟩ : ByteArray)]) (ok := fun _ => True) (okp := fun _ => True) ?hr ?hp (fun _ hk => hk) trivial (Below.refl _ _) (Nat.le_refl _) (by simp) ?_; (case hd => rfl); (case hg => rfl); (case hr => first | (go_simp; done) | (go_simp; rfl)); (case hp => exact (Reps.one (show Kd.M Kd.string _ _ _ (⟨#[]⟩ : ByteArray) [.string (⟨#[]⟩ : ByteArray)] from rfl) (Reps.one (show Kd.M Kd.string _ _ _ (⟨#[]⟩ : ByteArray) [.string (⟨#[]⟩ : ByteArray)] from rfl) (Reps.one (show Kd.M Kd.string _ _ _ (⟨#[]⟩ : ByteArray) [.string (⟨#[]⟩ : ByteArray)] from rfl) (Reps.none _ _))))); intro v168 wz3 hoz2 hb hg_ hnew_; clear hg_ hnew_; (first | rw [← Ny167.out] at hoz2 | (simp only [Int.reduceToNat] at hoz2; rw [← Ny167.out] at hoz2)); have n0_ := Aside0.mk (Kd.R_elder' (by (with_reducible repeat (first | apply Kd.R_alloc | apply Kd.R_drewN | apply Kd.R_drew)); exact HO166.out) (Kd.R_base hoz2) hb); have n1_ := Aside0.mk (Kd.R_lower (Kd.R_new' hoz2 (Kd.R_lt (by (with_reducible repeat (first | apply Kd.R_alloc | apply Kd.R_drewN | apply Kd.R_drew)); exact HO166.out))) (below_size (by repeat (first | (with_reducible first | exact HB.out | apply below_alloc | apply pw_below_drewN | apply below_drew1 | refine below_set ?_ GE163.out) | exact HB.out)))); have n2_ := Aside0.mk (blk_below (g := gb163) (o := .cells #[.int .i64 0, .int .i64 0, .int .i64 0, .int .i64 0, .int .i64 0] 31 (0, 0)) (by (with_reducible repeat (first | refine blk_drewN ?_ _ | refine blk_drew ?_ | refine blk_alloc ?_ _)); exact BK163.out) hb); have n3_ := Aside0.mk (below_step (by repeat (first | (with_reducible first | exact HB.out | apply below_alloc | apply pw_below_drewN | apply below_drew1 | refine below_set ?_ GE163.out) | exact HB.out)) hb); clear HO166; clear BK163; clear HB; have HO166 := n0_; have HO169 := n1_; have BK163 := n2_; have HB := n3_; clear n0_ n1_ n2_ n3_; clear hb hoz2; obtain ⟨Aoz1, coz1, eoz1⟩ := Kd.R_slice HO169.out; subst eoz1) | ((with_reducible refine gate_builtin (b := .append) (xs := #[.tmp 9, .tmp 10]) rfl ?_); at_builtin; refine Kd.R_append_rows Kd.string (w0 := w) w.heap.size rfl (.tmp 9) (.tmp 10) 55 9 (.string ⟨#[]⟩) 16 rfl Tryd.underlying55 info9 rfl (by decide) (by omega) v165 t164 y167 _ _ _ (fun k_ => some k_ ≠ (.slice Aoz1 y167.length coz1 : Value).ownBlock) (fun _ => False) rfl rfl ?aO ?aR (fun _ _ h => h) (fun _ h => h.elim) ?aF ?aB ?aS ?aL ?_; (case aR => repeat (first | exact (Kd.R_reads' HO169.out).2.2 | (with_reducible refine Kd.C_alloc ?_ _) | (with_reducible refine Kd.C_drewN ?_ _) | (with_reducible refine Kd.C_drew ?_))); (case aB => exact (by repeat (first | (with_reducible first | exact HB.out | apply below_alloc | apply pw_below_drewN | apply below_drew1 | refine below_set ?_ GE163.out) | exact HB.out))); (case aF => exact (fun k_ hk => Kd.fresh' (Kd.R_lt (by (with_reducible repeat (first | apply Kd.R_alloc | apply Kd.R_drewN | apply Kd.R_drew)); exact HO169.out)) k_ hk)); (case aO => exact (by (with_reducible repeat (first | apply Kd.R_alloc | apply Kd.R_drewN | apply Kd.R_drew)); exact Kd.R_mono HO166.out (fun _ hk => hk.2))); (case aS => exact (below_size (by repeat (first | (with_reducible first | exact HB.out | apply below_alloc | apply pw_below_drewN | apply below_drew1 | refine below_set ?_ GE163.out) | exact HB.out)))); (case aL => have := LMc3.out; omega); intro v171 wz4 ho hb hg hat; rw [← Ny170.out] at ho; have n0_ := Aside0.mk (blk_grown (g := gb163) (o := .cells #[.int .i64 0, .int .i64 0, .int .i64 0, .int .i64 0, .int .i64 0] 31 (0, 0)) (by (with_reducible repeat (first | refine blk_drewN ?_ _ | refine blk_drew ?_ | refine blk_alloc ?_ _)); exact BK163.out) hg (Kd.R_ne HO166.out BK163.out (by decide))); have n1_ := Aside0.mk (Kd.R_after (ok := (fun _ => True)) (by (with_reducible repeat (first | apply Kd.R_alloc | apply Kd.R_drewN | apply Kd.R_drew)); exact HO169.out) hg hat); have n2_ := Aside0.mk (hb); have n3_ := Aside0.mk (ho); clear BK163; clear HO169; clear HB; clear HO166; have BK163 := n0_; have HO169 := n1_; have HB := n2_; have HO172 := n3_; clear n0_ n1_ n2_ n3_; clear ho hb hg hat))
     have n0_ := Aside0.mk (Kd.R_drew HO169.out)
     have n1_ := Aside0.mk (Kd.R_drew HO172.out)
     have n2_ := Aside0.mk (blk_drew BK163.out)
     have n3_ := Aside0.mk (below_drew1 HB.out)
     clear HO169
     clear HO172
     clear BK163
     clear HB
     have HO169 := n0_
     have HO172 := n1_
     have BK163 := n2_
     have HB := n3_
     clear n0_ n1_ n2_ n3_
     obtain ⟨Aoz2, coz2, eoz2⟩ := Kd.R_slice HO172.out
     (first | subst eoz2 | (injection eoz2 with f1_ f2_ f3_; have f4_ := f1_.symm; have f5_ := f3_.symm; clear f1_ f2_ f3_; subst f4_; subst f5_))
     have p176 : 0 ≤ (0 : Int) := (by omega)
     have q176 : 0 < (y170.length : Int) := of_decide_eq_true (by first | (with_reducible assumption) | assumption)
     obtain ⟨ad176, e176, hx176_0⟩ := Kd.at_string (Kd.R_reads' HO172.out).2.2 0 p176 q176
     cases e176
     have qi176 : (0 < y170.length) = True := eq_true (by omega)
     (try rw [show ((0 : Int)).toNat = 0 from rfl] at hx176_0)
     (try rw [Addr.add_zero'] at hx176_0)
     replace p176 := eq_true p176
     replace q176 := eq_true q176
     have p178 : 0 ≤ (1 : Int) := (by omega)
     have q178 : 1 < (y170.length : Int) := of_decide_eq_true (by first | (with_reducible assumption) | assumption)
     obtain ⟨ad178, e178, hx178_0⟩ := Kd.at_string (Kd.R_reads' HO172.out).2.2 1 p178 q178
     obtain rfl : ad176 = ad178 := (by injection e178)
     (try simp only [show (1 : Int).toNat = 1 from rfl, Nat.reduceMul, Nat.reduceEqDiff, Go.Addr.add, ↓reduceIte] at hx178_0)
     have qi178 : (1 < y170.length) = True := eq_true (by omega)
     (try rw [show ((1 : Int)).toNat = 1 from rfl] at hx178_0)
     replace p178 := eq_true p178
     replace q178 := eq_true q178
     have p180 : 0 ≤ (2 : Int) := (by omega)
     have q180 : 2 < (y170.length : Int) := of_decide_eq_true (by first | (with_reducible assumption) | assumption)
     obtain ⟨ad180, e180, hx180_0⟩ := Kd.at_string (Kd.R_reads' HO172.out).2.2 2 p180 q180
     obtain rfl : ad176 = ad180 := (by injection e180)
     (try simp only [show (2 : Int).toNat = 2 from rfl, Nat.reduceMul, Nat.reduceEqDiff, Go.Addr.add, ↓reduceIte] at hx180_0)
     have qi180 : (2 < y170.length) = True := eq_true (by omega)
     (try rw [show ((2 : Int)).toNat = 2 from rfl] at hx180_0)
     replace p180 := eq_true p180
     replace q180 := eq_true q180
     refine start_ (n := 17) (S := fun w' => w'.cell? ad176 = some (.string (rdOf ByteArray.empty y170 0)) ∧ w'.cell? ⟨ad176.block, ad176.off + 1, none⟩ = some (.string (rdOf ByteArray.empty y170 1)) ∧ w'.cell? ⟨ad176.block, ad176.off + 2, none⟩ = some (.string (rdOf ByteArray.empty y170 2))) (ds := []) #[false, false, false, false, false, false, false, false, false, false, false, false, false, false, false, false, false] (by kernel_rfl) rfl rfl ⟨hx176_0, hx178_0, hx180_0⟩ (fun hHeld => ?_); refine with_tabW tale_ReadConf.tab2 tale_ReadConf.bits2 (fun HT_ HW_ => ?_)
     generalize wz4.drew = wz5 at HO169 HO172 BK163 HB hx176_0 hx178_0 hx180_0 hHeld ⊢
     refine pure_ (i := 1) (N := some 13) (v := ?_) (a' := ?_) #[false, true, false, false, false, false, false, false, false, false, false, false, false, false, false, false, false] rfl rfl (any_of HT_.out (by kernel_rfl)) (fun _ _ _ h => h) (Or.inl ⟨by rfl, ?_⟩) ?_ ?_
     rotate_left
     ·intro w'
      go_simp
      with_reducible rfl
     rotate_left
     ·simp only [Act.put, List.setIfInBounds_toArray, List.set_cons_zero, List.set_cons_succ, i64_w, i32_w]
      rfl
     refine pure_ (i := 2) (N := some 14) (v := ?_) (a' := ?_) #[false, true, true, false, false, false, false, false, false, false, false, false, false, false, false, false, false] rfl rfl (any_of HT_.out (by kernel_rfl)) (fun _ _ _ h => h) (Or.inl ⟨by rfl, ?_⟩) ?_ ?_
     rotate_left
     ·intro w'
      go_simp
      with_reducible rfl
     rotate_left
     ·simp only [Act.put, List.setIfInBounds_toArray, List.set_cons_zero, List.set_cons_succ, i64_w, i32_w]
      rfl
     refine pure_ (i := 6) (N := some 18) (v := ?_) (a' := ?_) #[false, true, true, false, false, false, true, false, false, false, false, false, false, false, false, false, false] rfl rfl (any_of HT_.out (by kernel_rfl)) (fun _ _ _ h => h) (Or.inl ⟨by rfl, ?_⟩) ?_ ?_
     rotate_left
     ·intro w'
      go_simp
      with_reducible rfl
     rotate_left
     ·simp only [Act.put, List.setIfInBounds_toArray, List.set_cons_zero, List.set_cons_succ, i64_w, i32_w]
      rfl
     refine pure_ (i := 7) (N := some 19) (v := ?_) (a' := ?_) #[false, true, true, false, false, false, true, true, false, false, false, false, false, false, false, false, false] rfl rfl (any_of HT_.out (by kernel_rfl)) (fun _ _ _ h => h) (Or.inl ⟨by rfl, ?_⟩) ?_ ?_
     rotate_left
     ·intro w'
      go_simp
      with_reducible rfl
     rotate_left
     ·simp only [Act.put, List.setIfInBounds_toArray, List.set_cons_zero, List.set_cons_succ, i64_w, i32_w]
      rfl
     refine pure_ (i := 10) (N := some 22) (v := ?_) (a' := ?_) #[false, true, true, false, false, false, true, true, false, false, true, false, false, false, false, false, false] rfl rfl (any_of HT_.out (by kernel_rfl)) (fun _ _ _ h => h) (Or.inl ⟨by rfl, ?_⟩) ?_ ?_
     rotate_left
     ·intro w'
      go_simp
      with_reducible rfl
     rotate_left
     ·simp only [Act.put, List.setIfInBounds_toArray, List.set_cons_zero, List.set_cons_succ, i64_w, i32_w]
      rfl
     refine pure_ (i := 11) (N := some 23) (v := ?_) (a' := ?_) #[false, true, true, false, false, false, true, true, false, false, true, true, false, false, false, false, false] rfl rfl (any_of HT_.out (by kernel_rfl)) (fun _ _ _ h => h) (Or.inl ⟨by rfl, ?_⟩) ?_ ?_
     rotate_left
     ·intro w'
      go_simp
      with_reducible rfl
     rotate_left
     ·simp only [Act.put, List.setIfInBounds_toArray, List.set_cons_zero, List.set_cons_succ, i64_w, i32_w]
      rfl
     refine take_ (i := 3) (N := some 15) (v := ?_) (a' := ?_) #[false, true, true, true, false, false, true, true, false, false, true, true, false, false, false, false, false] rfl rfl (take_ofW HT_.out HW_.out (by kernel_rfl)) (fun _ _ _ h => h) (Or.inl ⟨by rfl, ?_⟩) hHeld ?_ ?_
     rotate_left
     ·rintro w' ⟨s0, s1, s2⟩
      go_simp
      with_reducible rfl
     rotate_left
     ·simp only [Act.put, List.setIfInBounds_toArray, List.set_cons_zero, List.set_cons_succ, i64_w, i32_w]
      rfl
     refine take_ (i := 8) (N := some 20) (v := ?_) (a' := ?_) #[false, true, true, true, false, false, true, true, true, false, true, true, false, false, false, false, false] rfl rfl (take_ofW HT_.out HW_.out (by kernel_rfl)) (fun _ _ _ h => h) (Or.inl ⟨by rfl, ?_⟩) hHeld ?_ ?_
     rotate_left
     ·rintro w' ⟨s0, s1, s2⟩
      go_simp
      with_reducible rfl
     rotate_left
     ·simp only [Act.put, List.setIfInBounds_toArray, List.set_cons_zero, List.set_cons_succ, i64_w, i32_w]
      rfl
     refine take_ (i := 12) (N := some 24) (v := ?_) (a' := ?_) #[false, true, true, true, false, false, true, true, true, false, true, true, true, false, false, false, false] rfl rfl (take_ofW HT_.out HW_.out (by kernel_rfl)) (fun _ _ _ h => h) (Or.inl ⟨by rfl, ?_⟩) hHeld ?_ ?_
     rotate_left
     ·rintro w' ⟨s0, s1, s2⟩
      go_simp
      with_reducible rfl
     rotate_left
     ·simp only [Act.put, List.setIfInBounds_toArray, List.set_cons_zero, List.set_cons_succ, i64_w, i32_w]
      rfl
     refine join_ (σ := Value × Nat) 1 #[true, true, true, true, true, true, true, true, true, true, true, true, true, true, true, true, false] (fun s_ => [(12, s_.1), (16, .int .i64 t177), (21, .int .i64 t179), (25, .int .i64 t181), (5, .pointer (some ⟨s_.2, 0, none⟩)), (17, .int .i64 ji7), (26, .agg #[.int .i64 ji7, .int .i64 t179, .int .i64 0, .int .i64 1, .int .i64 t181])]) (fun s_ w' => (w'.cell? ad176 = some (.string (rdOf ByteArray.empty y170 0)) ∧ w'.cell? ⟨ad176.block, ad176.off + 1, none⟩ = some (.string (rdOf ByteArray.empty y170 1)) ∧ w'.cell? ⟨ad176.block, ad176.off + 2, none⟩ = some (.string (rdOf ByteArray.empty y170 2))) ∧ (Kd.R Kd.string 9 w' w.heap.size (fun k_ => some k_ ≠ (.slice (some ad176) y170.length coz2 : Value).ownBlock ∧ some k_ ≠ (s_.1 : Value).ownBlock) (.slice Aoz1 y167.length coz1) y167) ∧ (Kd.R Kd.string 9 w' w.heap.size (fun k_ => some k_ ≠ (.slice Aoz1 y167.length coz1 : Value).ownBlock ∧ some k_ ≠ (s_.1 : Value).ownBlock) (.slice (some ad176) y170.length coz2) y170) ∧ (Kd.R Kd.string 9 w' w.heap.size (fun k_ => some k_ ≠ (.slice Aoz1 y167.length coz1 : Value).ownBlock ∧ some k_ ≠ (.slice (some ad176) y170.length coz2 : Value).ownBlock) s_.1 t173) ∧ (w'.heap[gb163]? = some (.cells #[.int .i64 0, .int .i64 0, .int .i64 0, .int .i64 0, .int .i64 0] 31 (0, 0))) ∧ (w'.heap[s_.2]? = some (.cells #[.int .i64 0, .int .i64 0, .int .i64 0, .int .i64 0, .int .i64 0] 31 (0, 0))) ∧ (w.heap.size ≤ s_.2) ∧ (w.heap.size ≤ s_.2) ∧ (gb163 ≠ s_.2) ∧ (s_.2 ≠ gb163) ∧ (Below w.heap.size w w')) ?_ ?_
     rotate_left
     ·intro hJ0_4_9_13_15
      refine join_ (σ := Value) 2 #[true, true, true, true, true, true, true, true, true, true, true, true, true, true, true, false, false] (fun s_ => [(12, s_), (16, .int .i64 t177), (21, .int .i64 t179), (25, .int .i64 t181), (17, .int .i64 ji7), (26, .agg #[.int .i64 ji7, .int .i64 t179, .int .i64 0, .int .i64 1, .int .i64 t181])]) (fun s_ w' => (w'.cell? ad176 = some (.string (rdOf ByteArray.empty y170 0)) ∧ w'.cell? ⟨ad176.block, ad176.off + 1, none⟩ = some (.string (rdOf ByteArray.empty y170 1)) ∧ w'.cell? ⟨ad176.block, ad176.off + 2, none⟩ = some (.string (rdOf ByteArray.empty y170 2))) ∧ (Kd.R Kd.string 9 w' w.heap.size (fun k_ => some k_ ≠ (.slice (some ad176) y170.length coz2 : Value).ownBlock ∧ some k_ ≠ (s_ : Value).ownBlock) (.slice Aoz1 y167.length coz1) y167) ∧ (Kd.R Kd.string 9 w' w.heap.size (fun k_ => some k_ ≠ (.slice Aoz1 y167.length coz1 : Value).ownBlock ∧ some k_ ≠ (s_ : Value).ownBlock) (.slice (some ad176) y170.length coz2) y170) ∧ (Kd.R Kd.string 9 w' w.heap.size (fun k_ => some k_ ≠ (.slice Aoz1 y167.length coz1 : Value).ownBlock ∧ some k_ ≠ (.slice (some ad176) y170.length coz2 : Value).ownBlock) s_ t173) ∧ (w'.heap[gb163]? = some (.cells #[.int .i64 0, .int .i64 0, .int .i64 0, .int .i64 0, .int .i64 0] 31 (0, 0))) ∧ (Below w.heap.size w w')) ?_ ?_
      rotate_left
      ·intro hJ0_4_9_13
       refine join_ (σ := Value × Nat) 3 #[true, true, true, true, true, true, true, true, true, true, true, true, true, false, false, true, false] (fun s_ => [(12, s_.1), (16, .int .i64 t177), (21, .int .i64 t179), (5, .pointer (some ⟨s_.2, 0, none⟩)), (17, .int .i64 ji7)]) (fun s_ w' => (w'.cell? ad176 = some (.string (rdOf ByteArray.empty y170 0)) ∧ w'.cell? ⟨ad176.block, ad176.off + 1, none⟩ = some (.string (rdOf ByteArray.empty y170 1)) ∧ w'.cell? ⟨ad176.block, ad176.off + 2, none⟩ = some (.string (rdOf ByteArray.empty y170 2))) ∧ (Kd.R Kd.string 9 w' w.heap.size (fun k_ => some k_ ≠ (.slice (some ad176) y170.length coz2 : Value).ownBlock ∧ some k_ ≠ (s_.1 : Value).ownBlock) (.slice Aoz1 y167.length coz1) y167) ∧ (Kd.R Kd.string 9 w' w.heap.size (fun k_ => some k_ ≠ (.slice Aoz1 y167.length coz1 : Value).ownBlock ∧ some k_ ≠ (s_.1 : Value).ownBlock) (.slice (some ad176) y170.length coz2) y170) ∧ (Kd.R Kd.string 9 w' w.heap.size (fun k_ => some k_ ≠ (.slice Aoz1 y167.length coz1 : Value).ownBlock ∧ some k_ ≠ (.slice (some ad176) y170.length coz2 : Value).ownBlock) s_.1 t173) ∧ (w'.heap[gb163]? = some (.cells #[.int .i64 0, .int .i64 0, .int .i64 0, .int .i64 0, .int .i64 0] 31 (0, 0))) ∧ (w'.heap[s_.2]? = some (.cells #[.int .i64 0, .int .i64 0, .int .i64 0, .int .i64 0, .int .i64 0] 31 (0, 0))) ∧ (w.heap.size ≤ s_.2) ∧ (w.heap.size ≤ s_.2) ∧ (gb163 ≠ s_.2) ∧ (s_.2 ≠ gb163) ∧ (Below w.heap.size w w')) ?_ ?_
       rotate_left
       ·intro hJ0_4_9_15
        refine join_ (σ := Value) 4 #[true, true, true, true, true, true, true, true, true, true, true, true, true, false, false, false, false] (fun s_ => [(12, s_), (16, .int .i64 t177), (21, .int .i64 t179), (17, .int .i64 ji7)]) (fun s_ w' => (w'.cell? ad176 = some (.string (rdOf ByteArray.empty y170 0)) ∧ w'.cell? ⟨ad176.block, ad176.off + 1, none⟩ = some (.string (rdOf ByteArray.empty y170 1)) ∧ w'.cell? ⟨ad176.block, ad176.off + 2, none⟩ = some (.string (rdOf ByteArray.empty y170 2))) ∧ (Kd.R Kd.string 9 w' w.heap.size (fun k_ => some k_ ≠ (.slice (some ad176) y170.length coz2 : Value).ownBlock ∧ some k_ ≠ (s_ : Value).ownBlock) (.slice Aoz1 y167.length coz1) y167) ∧ (Kd.R Kd.string 9 w' w.heap.size (fun k_ => some k_ ≠ (.slice Aoz1 y167.length coz1 : Value).ownBlock ∧ some k_ ≠ (s_ : Value).ownBlock) (.slice (some ad176) y170.length coz2) y170) ∧ (Kd.R Kd.string 9 w' w.heap.size (fun k_ => some k_ ≠ (.slice Aoz1 y167.length coz1 : Value).ownBlock ∧ some k_ ≠ (.slice (some ad176) y170.length coz2 : Value).ownBlock) s_ t173) ∧ (w'.heap[gb163]? = some (.cells #[.int .i64 0, .int .i64 0, .int .i64 0, .int .i64 0, .int .i64 0] 31 (0, 0))) ∧ (Below w.heap.size w w')) ?_ ?_
        rotate_left
        ·intro hJ0_4_9
         refine join_ (σ := Value × Nat) 4 #[true, true, true, true, true, true, true, true, true, false, true, true, true, false, false, true, false] (fun s_ => [(12, s_.1), (16, .int .i64 t177), (5, .pointer (some ⟨s_.2, 0, none⟩)), (17, .int .i64 ji7)]) (fun s_ w' => (w'.cell? ad176 = some (.string (rdOf ByteArray.empty y170 0)) ∧ w'.cell? ⟨ad176.block, ad176.off + 1, none⟩ = some (.string (rdOf ByteArray.empty y170 1)) ∧ w'.cell? ⟨ad176.block, ad176.off + 2, none⟩ = some (.string (rdOf ByteArray.empty y170 2))) ∧ (Kd.R Kd.string 9 w' w.heap.size (fun k_ => some k_ ≠ (.slice (some ad176) y170.length coz2 : Value).ownBlock ∧ some k_ ≠ (s_.1 : Value).ownBlock) (.slice Aoz1 y167.length coz1) y167) ∧ (Kd.R Kd.string 9 w' w.heap.size (fun k_ => some k_ ≠ (.slice Aoz1 y167.length coz1 : Value).ownBlock ∧ some k_ ≠ (s_.1 : Value).ownBlock) (.slice (some ad176) y170.length coz2) y170) ∧ (Kd.R Kd.string 9 w' w.heap.size (fun k_ => some k_ ≠ (.slice Aoz1 y167.length coz1 : Value).ownBlock ∧ some k_ ≠ (.slice (some ad176) y170.length coz2 : Value).ownBlock) s_.1 t173) ∧ (w'.heap[gb163]? = some (.cells #[.int .i64 0, .int .i64 0, .int .i64 0, .int .i64 0, .int .i64 0] 31 (0, 0))) ∧ (w'.heap[s_.2]? = some (.cells #[.int .i64 0, .int .i64 0, .int .i64 0, .int .i64 0, .int .i64 0] 31 (0, 0))) ∧ (w.heap.size ≤ s_.2) ∧ (w.heap.size ≤ s_.2) ∧ (gb163 ≠ s_.2) ∧ (s_.2 ≠ gb163) ∧ (Below w.heap.size w w')) ?_ ?_
         rotate_left
         ·intro hJ0_4_15
          refine join_ (σ := Value) 5 #[true, true, true, true, true, true, true, true, true, false, true, true, true, false, false, false, false] (fun s_ => [(12, s_), (16, .int .i64 t177), (17, .int .i64 ji7)]) (fun s_ w' => (w'.cell? ad176 = some (.string (rdOf ByteArray.empty y170 0)) ∧ w'.cell? ⟨ad176.block, ad176.off + 1, none⟩ = some (.string (rdOf ByteArray.empty y170 1)) ∧ w'.cell? ⟨ad176.block, ad176.off + 2, none⟩ = some (.string (rdOf ByteArray.empty y170 2))) ∧ (Kd.R Kd.string 9 w' w.heap.size (fun k_ => some k_ ≠ (.slice (some ad176) y170.length coz2 : Value).ownBlock ∧ some k_ ≠ (s_ : Value).ownBlock) (.slice Aoz1 y167.length coz1) y167) ∧ (Kd.R Kd.string 9 w' w.heap.size (fun k_ => some k_ ≠ (.slice Aoz1 y167.length coz1 : Value).ownBlock ∧ some k_ ≠ (s_ : Value).ownBlock) (.slice (some ad176) y170.length coz2) y170) ∧ (Kd.R Kd.string 9 w' w.heap.size (fun k_ => some k_ ≠ (.slice Aoz1 y167.length coz1 : Value).ownBlock ∧ some k_ ≠ (.slice (some ad176) y170.length coz2 : Value).ownBlock) s_ t173) ∧ (w'.heap[gb163]? = some (.cells #[.int .i64 0, .int .i64 0, .int .i64 0, .int .i64 0, .int .i64 0] 31 (0, 0))) ∧ (Below w.heap.size w w')) ?_ ?_
          rotate_left
          ·intro hJ0_4
           refine join_ (σ := Value × Nat) 6 #[true, true, true, true, false, false, true, true, true, false, true, true, true, false, false, true, false] (fun s_ => [(12, s_.1), (5, .pointer (some ⟨s_.2, 0, none⟩))]) (fun s_ w' => (w'.cell? ad176 = some (.string (rdOf ByteArray.empty y170 0)) ∧ w'.cell? ⟨ad176.block, ad176.off + 1, none⟩ = some (.string (rdOf ByteArray.empty y170 1)) ∧ w'.cell? ⟨ad176.block, ad176.off + 2, none⟩ = some (.string (rdOf ByteArray.empty y170 2))) ∧ (Kd.R Kd.string 9 w' w.heap.size (fun k_ => some k_ ≠ (.slice (some ad176) y170.length coz2 : Value).ownBlock ∧ some k_ ≠ (s_.1 : Value).ownBlock) (.slice Aoz1 y167.length coz1) y167) ∧ (Kd.R Kd.string 9 w' w.heap.size (fun k_ => some k_ ≠ (.slice Aoz1 y167.length coz1 : Value).ownBlock ∧ some k_ ≠ (s_.1 : Value).ownBlock) (.slice (some ad176) y170.length coz2) y170) ∧ (Kd.R Kd.string 9 w' w.heap.size (fun k_ => some k_ ≠ (.slice Aoz1 y167.length coz1 : Value).ownBlock ∧ some k_ ≠ (.slice (some ad176) y170.length coz2 : Value).ownBlock) s_.1 t173) ∧ (w'.heap[gb163]? = some (.cells #[.int .i64 0, .int .i64 0, .int .i64 0, .int .i64 0, .int .i64 0] 31 (0, 0))) ∧ (w'.heap[s_.2]? = some (.cells #[.int .i64 0, .int .i64 0, .int .i64 0, .int .i64 0, .int .i64 0] 31 (0, 0))) ∧ (w.heap.size ≤ s_.2) ∧ (w.heap.size ≤ s_.2) ∧ (gb163 ≠ s_.2) ∧ (s_.2 ≠ gb163) ∧ (Below w.heap.size w w')) ?_ ?_
           rotate_left
           ·intro hJ0_15
            refine join_ (σ := Value) 7 #[true, true, true, true, false, false, true, true, true, false, true, true, true, false, false, false, false] (fun s_ => [(12, s_)]) (fun s_ w' => (w'.cell? ad176 = some (.string (rdOf ByteArray.empty y170 0)) ∧ w'.cell? ⟨ad176.block, ad176.off + 1, none⟩ = some (.string (rdOf ByteArray.empty y170 1)) ∧ w'.cell? ⟨ad176.block, ad176.off + 2, none⟩ = some (.string (rdOf ByteArray.empty y170 2))) ∧ (Kd.R Kd.string 9 w' w.heap.size (fun k_ => some k_ ≠ (.slice (some ad176) y170.length coz2 : Value).ownBlock ∧ some k_ ≠ (s_ : Value).ownBlock) (.slice Aoz1 y167.length coz1) y167) ∧ (Kd.R Kd.string 9 w' w.heap.size (fun k_ => some k_ ≠ (.slice Aoz1 y167.length coz1 : Value).ownBlock ∧ some k_ ≠ (s_ : Value).ownBlock) (.slice (some ad176) y170.length coz2) y170) ∧ (Kd.R Kd.string 9 w' w.heap.size (fun k_ => some k_ ≠ (.slice Aoz1 y167.length coz1 : Value).ownBlock ∧ some k_ ≠ (.slice (some ad176) y170.length coz2 : Value).ownBlock) s_ t173) ∧ (w'.heap[gb163]? = some (.cells #[.int .i64 0, .int .i64 0, .int .i64 0, .int .i64 0, .int .i64 0] 31 (0, 0))) ∧ (Below w.heap.size w w')) ?_ ?_
            rotate_left
            ·intro hJ0
             refine join_ (σ := Nat) 7 #[false, true, true, true, false, false, true, true, true, false, true, true, true, false, false, true, false] (fun s_ => [(5, .pointer (some ⟨s_, 0, none⟩))]) (fun s_ w' => (w'.cell? ad176 = some (.string (rdOf ByteArray.empty y170 0)) ∧ w'.cell? ⟨ad176.block, ad176.off + 1, none⟩ = some (.string (rdOf ByteArray.empty y170 1)) ∧ w'.cell? ⟨ad176.block, ad176.off + 2, none⟩ = some (.string (rdOf ByteArray.empty y170 2))) ∧ (Kd.R Kd.string 9 w' w.heap.size (fun k_ => some k_ ≠ (.slice (some ad176) y170.length coz2 : Value).ownBlock) (.slice Aoz1 y167.length coz1) y167) ∧ (Kd.R Kd.string 9 w' w.heap.size (fun k_ => some k_ ≠ (.slice Aoz1 y167.length coz1 : Value).ownBlock) (.slice (some ad176) y170.length coz2) y170) ∧ (w'.heap[gb163]? = some (.cells #[.int .i64 0, .int .i64 0, .int .i64 0, .int .i64 0, .int .i64 0] 31 (0, 0))) ∧ (w'.heap[s_]? = some (.cells #[.int .i64 0, .int .i64 0, .int .i64 0, .int .i64 0, .int .i64 0] 31 (0, 0))) ∧ (w.heap.size ≤ s_) ∧ (w.heap.size ≤ s_) ∧ (gb163 ≠ s_) ∧ (s_ ≠ gb163) ∧ (Below w.heap.size w w')) ?_ ?_
             rotate_left
             ·intro hJ15
              refine two_ (i := 0) (j := 15) (Ni := some 12) (Nj := some 5) #[true, true, true, true, false, false, true, true, true, false, true, true, true, false, false, false, false] #[false, true, true, true, false, false, true, true, true, false, true, true, true, false, false, true, false] rfl rfl rfl rfl (two_of HT_.out (by kernel_rfl)) (by decide) (by decide) (fun K hK => ?_) (fun K hK => ?_)
              ·skip
               refine goes_ Tryd.func20 (by kernel_rfl) rfl #[] (by rfl) rfl rfl (by (try simp only [List.map_toArray, List.map_cons, List.map_nil]); first | done | rfl | (simp only [List.length_drop, List.length_take]; rfl)) ?_
               with_reducible refine (tale_kinds.calls  t173 _ A4.out).mono ?_
               rintro e wz6 ⟨v174, rfl, hoz1, hb⟩
               have HS0_ := (hb.cell (World.block_lt_of_cell? _ _ (hHeld.1))).trans (hHeld.1)
               have HS1_ := (hb.cell (World.block_lt_of_cell? _ _ (hHeld.2.1))).trans (hHeld.2.1)
               have HS2_ := (hb.cell (World.block_lt_of_cell? _ _ (hHeld.2.2))).trans (hHeld.2.2)
               refine ⟨_, rfl, ?_⟩
               have n0_ := Aside0.mk (Kd.R_elder' (by (with_reducible repeat (first | apply Kd.R_alloc | apply Kd.R_drewN | apply Kd.R_drew)); exact HO169.out) (Kd.R_base hoz1) hb)
               have n1_ := Aside0.mk (Kd.R_elder' (by (with_reducible repeat (first | apply Kd.R_alloc | apply Kd.R_drewN | apply Kd.R_drew)); exact HO172.out) (Kd.R_base hoz1) hb)
               have n2_ := Aside0.mk (Kd.R_lower (Kd.R_new' (Kd.R_new' hoz1 (Kd.R_lt (by (with_reducible repeat (first | apply Kd.R_alloc | apply Kd.R_drewN | apply Kd.R_drew)); exact HO169.out))) (Kd.R_lt (by (with_reducible repeat (first | apply Kd.R_alloc | apply Kd.R_drewN | apply Kd.R_drew)); exact HO172.out))) (below_size (by repeat (first | (with_reducible first | exact HB.out | apply below_alloc | apply pw_below_drewN | apply below_drew1 | refine below_set ?_ GE163.out) | exact HB.out))))
               have n3_ := Aside0.mk (blk_below (g := gb163) (o := .cells #[.int .i64 0, .int .i64 0, .int .i64 0, .int .i64 0, .int .i64 0] 31 (0, 0)) (by (with_reducible repeat (first | refine blk_drewN ?_ _ | refine blk_drew ?_ | refine blk_alloc ?_ _)); exact BK163.out) hb)
               have n4_ := Aside0.mk (below_step (by repeat (first | (with_reducible first | exact HB.out | apply below_alloc | apply pw_below_drewN | apply below_drew1 | refine below_set ?_ GE163.out) | exact HB.out)) hb)
               clear HO169
               clear HO172
               clear BK163
               clear HB
               have HO169 := n0_
               have HO172 := n1_
               have HO175 := n2_
               have BK163 := n3_
               have HB := n4_
               clear n0_ n1_ n2_ n3_ n4_
               (try clear hb)
               (try clear hb2)
               (try clear hk)
               (try clear hi)
               (try clear hoz1)
               refine hK.out _ _ ⟨HS0_, HS1_, HS2_⟩ (fun hHeld => ?_)
               clear hK K
               refine norm_ (a' := ?_) ?_ ?_
               rotate_left
               ·show Act.put _ (some 12) _ = _
                simp only [Act.put, List.setIfInBounds_toArray, List.set_cons_zero, List.set_cons_succ, i64_w, i32_w]
                rfl
               exact norm_ (by first | (simp only [putAll, Act.put, List.setIfInBounds_toArray, List.set_cons_zero, List.set_cons_succ]; done) | (simp only [putAll, Act.put, List.setIfInBounds_toArray, List.set_cons_zero, List.set_cons_succ]; rfl)) (hJ0 (v174) _ ⟨hHeld, (by (with_reducible repeat (first | apply Kd.R_alloc | apply Kd.R_drewN | apply Kd.R_drew)); exact Kd.R_mono HO169.out (fun _ hk => ⟨hk.1.2, hk.2⟩)), (by (with_reducible repeat (first | apply Kd.R_alloc | apply Kd.R_drewN | apply Kd.R_drew)); exact HO172.out), (by (with_reducible repeat (first | apply Kd.R_alloc | apply Kd.R_drewN | apply Kd.R_drew)); exact Kd.R_mono HO175.out (fun _ hk => ⟨hk.1.2, hk.2⟩)), (by (with_reducible repeat (first | refine blk_drewN ?_ _ | refine blk_drew ?_ | refine blk_alloc ?_ _)); exact BK163.out), (by repeat (first | (with_reducible first | exact HB.out | apply below_alloc | apply pw_below_drewN | apply below_drew1 | refine below_set ?_ GE163.out) | exact HB.out))⟩)
              ·skip
               refine box_step ?hg (N := 5) ?hd (cs := #[.int .i64 0, .int .i64 0, .int .i64 0, .int .i64 0, .int .i64 0]) (t := 31) ?hr ?_; (case hd => rfl); (case hg => rfl); (case hr => first | (go_simp; done) | (go_simp; rfl))
               intro gb182 hg wz6 hbox hb
               have HS0_ := (hb.cell (World.block_lt_of_cell? _ _ (hHeld.1))).trans (hHeld.1)
               have HS1_ := (hb.cell (World.block_lt_of_cell? _ _ (hHeld.2.1))).trans (hHeld.2.1)
               have HS2_ := (hb.cell (World.block_lt_of_cell? _ _ (hHeld.2.2))).trans (hHeld.2.2)
               have n0_ := Aside0.mk (Kd.R_below (by (with_reducible repeat (first | apply Kd.R_alloc | apply Kd.R_drewN | apply Kd.R_drew)); exact HO169.out) hb)
               have n1_ := Aside0.mk (Kd.R_below (by (with_reducible repeat (first | apply Kd.R_alloc | apply Kd.R_drewN | apply Kd.R_drew)); exact HO172.out) hb)
               have n2_ := Aside0.mk (blk_below (g := gb163) (o := .cells #[.int .i64 0, .int .i64 0, .int .i64 0, .int .i64 0, .int .i64 0] 31 (0, 0)) (by (with_reducible repeat (first | refine blk_drewN ?_ _ | refine blk_drew ?_ | refine blk_alloc ?_ _)); exact BK163.out) hb)
               have n3_ := Aside0.mk (below_step (by repeat (first | (with_reducible first | exact HB.out | apply below_alloc | apply pw_below_drewN | apply below_drew1 | refine below_set ?_ GE163.out) | exact HB.out)) hb)
               have n4_ := Aside0.mk (hbox)
               have n5_ := Aside0.mk ((by rw [hg]; exact (below_size (by repeat (first | (with_reducible first | exact HB.out | apply below_alloc | apply pw_below_drewN | apply below_drew1 | refine below_set ?_ GE163.out) | exact HB.out))) : w.heap.size ≤ gb182))
               have n6_ := Aside0.mk ((by rw [hg]; exact (below_size (by repeat (first | (with_reducible first | exact HB.out | apply below_alloc | apply pw_below_drewN | apply below_drew1 | refine below_set ?_ GE163.out) | exact HB.out))) : w.heap.size ≤ gb182))
               have n7_ := Aside0.mk ((by rw [hg]; exact Nat.ne_of_lt (blk_lt (g := gb163) (o := .cells #[.int .i64 0, .int .i64 0, .int .i64 0, .int .i64 0, .int .i64 0] 31 (0, 0)) (by (with_reducible repeat (first | refine blk_drewN ?_ _ | refine blk_drew ?_ | refine blk_alloc ?_ _)); exact BK163.out)) : gb163 ≠ gb182))
               have n8_ := Aside0.mk ((by rw [hg]; exact Nat.ne_of_gt (blk_lt (g := gb163) (o := .cells #[.int .i64 0, .int .i64 0, .int .i64 0, .int .i64 0, .int .i64 0] 31 (0, 0)) (by (with_reducible repeat (first | refine blk_drewN ?_ _ | refine blk_drew ?_ | refine blk_alloc ?_ _)); exact BK163.out)) : gb182 ≠ gb163))
               clear HO169
               clear HO172
               clear BK163
               clear HB
               have HO169 := n0_
               have HO172 := n1_
               have BK163 := n2_
               have HB := n3_
               have BK182 := n4_
               have GW182 := n5_
               have GE182 := n6_
               have NB163_182 := n7_
               have NB182_163 := n8_
               clear n0_ n1_ n2_ n3_ n4_ n5_ n6_ n7_ n8_
               clear hb hbox hg
               refine hK.out _ _ ⟨HS0_, HS1_, HS2_⟩ (fun hHeld => ?_)
               clear hK K
               refine norm_ (a' := ?_) ?_ ?_
               rotate_left
               ·show Act.put _ (some 5) _ = _
                simp only [Act.put, List.setIfInBounds_toArray, List.set_cons_zero, List.set_cons_succ, i64_w, i32_w]
                rfl
               exact norm_ (by first | (simp only [putAll, Act.put, List.setIfInBounds_toArray, List.set_cons_zero, List.set_cons_succ]; done) | (simp only [putAll, Act.put, List.setIfInBounds_toArray, List.set_cons_zero, List.set_cons_succ]; rfl)) (hJ15 (gb182) _ ⟨hHeld, (by (with_reducible repeat (first | apply Kd.R_alloc | apply Kd.R_drewN | apply Kd.R_drew)); exact Kd.R_mono HO169.out (fun _ hk => hk.2)), (by (with_reducible repeat (first | apply Kd.R_alloc | apply Kd.R_drewN | apply Kd.R_drew)); exact HO172.out), (by (with_reducible repeat (first | refine blk_drewN ?_ _ | refine blk_drew ?_ | refine blk_alloc ?_ _)); exact BK163.out), (by (with_reducible repeat (first | refine blk_drewN ?_ _ | refine blk_drew ?_ | refine blk_alloc ?_ _)); exact BK182.out), GW182.out, GE182.out, NB163_182.out, NB182_163.out, (by repeat (first | (with_reducible first | exact HB.out | apply below_alloc | apply pw_below_drewN | apply below_drew1 | refine below_set ?_ GE163.out | refine below_set ?_ GE182.out) | exact HB.out))⟩)
             ·skip
              rintro gb182 wz7 ⟨hS_, h0_, h1_, h2_, h3_, h4_, h5_, h6_, h7_, h8_⟩
              have n0_ : Aside0 (Kd.R Kd.string 9 wz7 w.heap.size (fun k_ => some k_ ≠ (.slice (some ad176) y170.length coz2 : Value).ownBlock) (.slice Aoz1 y167.length coz1) y167) := ⟨h0_⟩
              have n1_ : Aside0 (Kd.R Kd.string 9 wz7 w.heap.size (fun k_ => some k_ ≠ (.slice Aoz1 y167.length coz1 : Value).ownBlock) (.slice (some ad176) y170.length coz2) y170) := ⟨h1_⟩
              have n2_ : Aside0 (wz7.heap[gb163]? = some (.cells #[.int .i64 0, .int .i64 0, .int .i64 0, .int .i64 0, .int .i64 0] 31 (0, 0))) := ⟨h2_⟩
              have n3_ : Aside0 (wz7.heap[gb182]? = some (.cells #[.int .i64 0, .int .i64 0, .int .i64 0, .int .i64 0, .int .i64 0] 31 (0, 0))) := ⟨h3_⟩
              have n4_ : Aside0 (w.heap.size ≤ gb182) := ⟨h4_⟩
              have n5_ : Aside0 (w.heap.size ≤ gb182) := ⟨h5_⟩
              have n6_ : Aside0 (gb163 ≠ gb182) := ⟨h6_⟩
              have n7_ : Aside0 (gb182 ≠ gb163) := ⟨h7_⟩
              have n8_ : Aside0 (Below w.heap.size w wz7) := ⟨h8_⟩
              clear HO169
              clear HO172
              clear BK163
              clear HB
              clear h0_ h1_ h2_ h3_ h4_ h5_ h6_ h7_ h8_
              have HO169 := n0_
              have HO172 := n1_
              have BK163 := n2_
              have BK182 := n3_
              have GW182 := n4_
              have GE182 := n5_
              have NB163_182 := n6_
              have NB182_163 := n7_
              have HB := n8_
              clear n0_ n1_ n2_ n3_ n4_ n5_ n6_ n7_ n8_
              have hHeld : wz7.cell? ad176 = some (.string (rdOf ByteArray.empty y170 0)) ∧ wz7.cell? ⟨ad176.block, ad176.off + 1, none⟩ = some (.string (rdOf ByteArray.empty y170 1)) ∧ wz7.cell? ⟨ad176.block, ad176.off + 2, none⟩ = some (.string (rdOf ByteArray.empty y170 2)) := hS_
              refine norm_ (a' := ?_) ?_ ?_
              rotate_left
              ·simp only [putAll, Act.put, List.setIfInBounds_toArray, List.set_cons_zero, List.set_cons_succ]
               rfl
              refine one_ (i := 0) (N := some 12) #[true, true, true, true, false, false, true, true, true, false, true, true, true, false, false, true, false] rfl rfl (one_of HT_.out (by kernel_rfl)) (by decide) (fun K hK => ?_)
              refine goes_ Tryd.func20 (by kernel_rfl) rfl #[] (by rfl) rfl rfl (by (try simp only [List.map_toArray, List.map_cons, List.map_nil]); first | done | rfl | (simp only [List.length_drop, List.length_take]; rfl)) ?_
              with_reducible refine (tale_kinds.calls  t173 _ A4.out).mono ?_
              rintro e wz8 ⟨v174, rfl, hoz1, hb⟩
              have HS0_ := (hb.cell (World.block_lt_of_cell? _ _ (hHeld.1))).trans (hHeld.1)
              have HS1_ := (hb.cell (World.block_lt_of_cell? _ _ (hHeld.2.1))).trans (hHeld.2.1)
              have HS2_ := (hb.cell (World.block_lt_of_cell? _ _ (hHeld.2.2))).trans (hHeld.2.2)
              refine ⟨_, rfl, ?_⟩
              have n0_ := Aside0.mk (Kd.R_elder' (by (with_reducible repeat (first | apply Kd.R_alloc | apply Kd.R_drewN | apply Kd.R_drew)); exact HO169.out) (Kd.R_base hoz1) hb)
              have n1_ := Aside0.mk (Kd.R_elder' (by (with_reducible repeat (first | apply Kd.R_alloc | apply Kd.R_drewN | apply Kd.R_drew)); exact HO172.out) (Kd.R_base hoz1) hb)
              have n2_ := Aside0.mk (Kd.R_lower (Kd.R_new' (Kd.R_new' hoz1 (Kd.R_lt (by (with_reducible repeat (first | apply Kd.R_alloc | apply Kd.R_drewN | apply Kd.R_drew)); exact HO169.out))) (Kd.R_lt (by (with_reducible repeat (first | apply Kd.R_alloc | apply Kd.R_drewN | apply Kd.R_drew)); exact HO172.out))) (below_size (by repeat (first | (with_reducible first | exact HB.out | apply below_alloc | apply pw_below_drewN | apply below_drew1 | refine below_set ?_ GE163.out | refine below_set ?_ GE182.out) | exact HB.out))))
              have n3_ := Aside0.mk (blk_below (g := gb163) (o := .cells #[.int .i64 0, .int .i64 0, .int .i64 0, .int .i64 0, .int .i64 0] 31 (0, 0)) (by (with_reducible repeat (first | refine blk_drewN ?_ _ | refine blk_drew ?_ | refine blk_alloc ?_ _)); exact BK163.out) hb)
              have n4_ := Aside0.mk (blk_below (g := gb182) (o := .cells #[.int .i64 0, .int .i64 0, .int .i64 0, .int .i64 0, .int .i64 0] 31 (0, 0)) (by (with_reducible repeat (first | refine blk_drewN ?_ _ | refine blk_drew ?_ | refine blk_alloc ?_ _)); exact BK182.out) hb)
              have n5_ := Aside0.mk (below_step (by repeat (first | (with_reducible first | exact HB.out | apply below_alloc | apply pw_below_drewN | apply below_drew1 | refine below_set ?_ GE163.out | refine below_set ?_ GE182.out) | exact HB.out)) hb)
              clear HO169
              clear HO172
              clear BK163
              clear BK182
              clear HB
              have HO169 := n0_
              have HO172 := n1_
              have HO175 := n2_
              have BK163 := n3_
              have BK182 := n4_
              have HB := n5_
              clear n0_ n1_ n2_ n3_ n4_ n5_
              (try clear hb)
              (try clear hb2)
              (try clear hk)
              (try clear hi)
              (try clear hoz1)
              refine hK.out _ _ ⟨HS0_, HS1_, HS2_⟩ (fun hHeld => ?_)
              clear hK K
              refine norm_ (a' := ?_) ?_ ?_
              rotate_left
              ·show Act.put _ (some 12) _ = _
               simp only [Act.put, List.setIfInBounds_toArray, List.set_cons_zero, List.set_cons_succ, i64_w, i32_w]
               rfl
              exact norm_ (by first | (simp only [putAll, Act.put, List.setIfInBounds_toArray, List.set_cons_zero, List.set_cons_succ]; done) | (simp only [putAll, Act.put, List.setIfInBounds_toArray, List.set_cons_zero, List.set_cons_succ]; rfl)) (hJ0_15 (v174, gb182) _ ⟨hHeld, (by (with_reducible repeat (first | apply Kd.R_alloc | apply Kd.R_drewN | apply Kd.R_drew)); exact HO169.out), (by (with_reducible repeat (first | apply Kd.R_alloc | apply Kd.R_drewN | apply Kd.R_drew)); exact HO172.out), (by (with_reducible repeat (first | apply Kd.R_alloc | apply Kd.R_drewN | apply Kd.R_drew)); exact Kd.R_mono HO175.out (fun _ hk => ⟨hk.1.2, hk.2⟩)), (by (with_reducible repeat (first | refine blk_drewN ?_ _ | refine blk_drew ?_ | refine blk_alloc ?_ _)); exact BK163.out), (by (with_reducible repeat (first | refine blk_drewN ?_ _ | refine blk_drew ?_ | refine blk_alloc ?_ _)); exact BK182.out), GW182.out, GE182.out, NB163_182.out, NB182_163.out, (by repeat (first | (with_reducible first | exact HB.out | apply below_alloc | apply pw_below_drewN | apply below_drew1 | refine below_set ?_ GE163.out | refine below_set ?_ GE182.out) | exact HB.out))⟩)
            ·skip
             rintro v174 wz7 ⟨hS_, h0_, h1_, h2_, h3_, h4_⟩
             have n0_ : Aside0 (Kd.R Kd.string 9 wz7 w.heap.size (fun k_ => some k_ ≠ (.slice (some ad176) y170.length coz2 : Value).ownBlock ∧ some k_ ≠ (v174 : Value).ownBlock) (.slice Aoz1 y167.length coz1) y167) := ⟨h0_⟩
             have n1_ : Aside0 (Kd.R Kd.string 9 wz7 w.heap.size (fun k_ => some k_ ≠ (.slice Aoz1 y167.length coz1 : Value).ownBlock ∧ some k_ ≠ (v174 : Value).ownBlock) (.slice (some ad176) y170.length coz2) y170) := ⟨h1_⟩
             have n2_ : Aside0 (Kd.R Kd.string 9 wz7 w.heap.size (fun k_ => some k_ ≠ (.slice Aoz1 y167.length coz1 : Value).ownBlock ∧ some k_ ≠ (.slice (some ad176) y170.length coz2 : Value).ownBlock) v174 t173) := ⟨h2_⟩
             have n3_ : Aside0 (wz7.heap[gb163]? = some (.cells #[.int .i64 0, .int .i64 0, .int .i64 0, .int .i64 0, .int .i64 0] 31 (0, 0))) := ⟨h3_⟩
             have n4_ : Aside0 (Below w.heap.size w wz7) := ⟨h4_⟩
             clear HO169
             clear HO172
             clear BK163
             clear HB
             clear h0_ h1_ h2_ h3_ h4_
             have HO169 := n0_
             have HO172 := n1_
             have HO175 := n2_
             have BK163 := n3_
             have HB := n4_
             clear n0_ n1_ n2_ n3_ n4_
             have hHeld : wz7.cell? ad176 = some (.string (rdOf ByteArray.empty y170 0)) ∧ wz7.cell? ⟨ad176.block, ad176.off + 1, none⟩ = some (.string (rdOf ByteArray.empty y170 1)) ∧ wz7.cell? ⟨ad176.block, ad176.off + 2, none⟩ = some (.string (rdOf ByteArray.empty y170 2)) := hS_
             obtain ⟨Aoz3, coz3, eoz3⟩ := Kd.R_slice HO175.out
             (first | subst eoz3 | (injection eoz3 with f1_ f2_ f3_; have f4_ := f1_.symm; have f5_ := f3_.symm; clear f1_ f2_ f3_; subst f4_; subst f5_))
             refine norm_ (a' := ?_) ?_ ?_
             rotate_left
             ·simp only [putAll, Act.put, List.setIfInBounds_toArray, List.set_cons_zero, List.set_cons_succ]
              rfl
             refine two_ (i := 4) (j := 15) (Ni := some 16) (Nj := some 5) #[true, true, true, true, true, false, true, true, true, false, true, true, true, false, false, false, false] #[true, true, true, true, false, false, true, true, true, false, true, true, true, false, false, true, false] rfl rfl rfl rfl (two_of HT_.out (by kernel_rfl)) (by decide) (by decide) (fun K hK => ?_) (fun K hK => ?_)
             ·skip
              refine goes_ Tryd.func27 (by kernel_rfl) rfl #[.slice Aoz3 t173.length coz3, .string (rdOf ByteArray.empty y170 0)] (by rfl) rfl rfl (by (try simp only [List.map_toArray, List.map_cons, List.map_nil]); first | done | rfl | (simp only [List.length_drop, List.length_take]; rfl)) ?_
              with_reducible refine (slices_Index_string_string.calls k _ _ t173 (rdOf ByteArray.empty y170 0) t177 _ ?side1 ?side2 A6.out).mono ?_
              (case side1 => repeat (first | exact (Kd.R_reads' HO175.out).2.2 | (with_reducible refine Kd.C_alloc ?_ _) | (with_reducible refine Kd.C_drewN ?_ _) | (with_reducible refine Kd.C_drew ?_)))
              (case side2 => exact (Kd.R_reads' HO175.out).2.1)
              rintro e w' ⟨rfl, ⟨nd, rfl⟩⟩
              refine ⟨_, rfl, ?_⟩
              refine hK.out _ _ ⟨hHeld.1, hHeld.2.1, hHeld.2.2⟩ (fun hHeld => ?_)
              clear hK K
              refine norm_ (a' := ?_) ?_ ?_
              rotate_left
              ·show Act.put _ (some 16) _ = _
               simp only [Act.put, List.setIfInBounds_toArray, List.set_cons_zero, List.set_cons_succ, i64_w, i32_w]
               rfl
              refine pure_ (i := 5) (N := some 17) (v := ?_) (a' := ?_) #[true, true, true, true, true, true, true, true, true, false, true, true, true, false, false, false, false] rfl rfl (any_of HT_.out (by kernel_rfl)) (fun _ _ _ h => h) (Or.inl ⟨by rfl, ?_⟩) ?_ ?_
              rotate_left
              ·intro w'
               go_simp
               with_reducible rfl
              rotate_left
              ·simp only [Act.put, List.setIfInBounds_toArray, List.set_cons_zero, List.set_cons_succ, i64_w, i32_w]
               rfl
              exact norm_ (by first | (simp only [putAll, Act.put, List.setIfInBounds_toArray, List.set_cons_zero, List.set_cons_succ]; done) | (simp only [putAll, Act.put, List.setIfInBounds_toArray, List.set_cons_zero, List.set_cons_succ]; rfl)) (hJ0_4 (.slice Aoz3 t173.length coz3) _ ⟨hHeld, (by (with_reducible repeat (first | apply Kd.R_alloc | apply Kd.R_drewN | apply Kd.R_drew)); exact HO169.out), (by (with_reducible repeat (first | apply Kd.R_alloc | apply Kd.R_drewN | apply Kd.R_drew)); exact HO172.out), (by (with_reducible repeat (first | apply Kd.R_alloc | apply Kd.R_drewN | apply Kd.R_drew)); exact HO175.out), (by (with_reducible repeat (first | refine blk_drewN ?_ _ | refine blk_drew ?_ | refine blk_alloc ?_ _)); exact BK163.out), (by repeat (first | (with_reducible first | exact HB.out | apply below_alloc | apply pw_below_drewN | apply below_drew1 | refine below_set ?_ GE163.out) | exact HB.out))⟩)
             ·skip
              refine box_step ?hg (N := 5) ?hd (cs := #[.int .i64 0, .int .i64 0, .int .i64 0, .int .i64 0, .int .i64 0]) (t := 31) ?hr ?_; (case hd => rfl); (case hg => rfl); (case hr => first | (go_simp; done) | (go_simp; rfl))
              intro gb182 hg wz8 hbox hb
              have HS0_ := (hb.cell (World.block_lt_of_cell? _ _ (hHeld.1))).trans (hHeld.1)
              have HS1_ := (hb.cell (World.block_lt_of_cell? _ _ (hHeld.2.1))).trans (hHeld.2.1)
              have HS2_ := (hb.cell (World.block_lt_of_cell? _ _ (hHeld.2.2))).trans (hHeld.2.2)
              have n0_ := Aside0.mk (Kd.R_below (by (with_reducible repeat (first | apply Kd.R_alloc | apply Kd.R_drewN | apply Kd.R_drew)); exact HO169.out) hb)
              have n1_ := Aside0.mk (Kd.R_below (by (with_reducible repeat (first | apply Kd.R_alloc | apply Kd.R_drewN | apply Kd.R_drew)); exact HO172.out) hb)
              have n2_ := Aside0.mk (Kd.R_below (by (with_reducible repeat (first | apply Kd.R_alloc | apply Kd.R_drewN | apply Kd.R_drew)); exact HO175.out) hb)
              have n3_ := Aside0.mk (blk_below (g := gb163) (o := .cells #[.int .i64 0, .int .i64 0, .int .i64 0, .int .i64 0, .int .i64 0] 31 (0, 0)) (by (with_reducible repeat (first | refine blk_drewN ?_ _ | refine blk_drew ?_ | refine blk_alloc ?_ _)); exact BK163.out) hb)
              have n4_ := Aside0.mk (below_step (by repeat (first | (with_reducible first | exact HB.out | apply below_alloc | apply pw_below_drewN | apply below_drew1 | refine below_set ?_ GE163.out) | exact HB.out)) hb)
              have n5_ := Aside0.mk (hbox)
              have n6_ := Aside0.mk ((by rw [hg]; exact (below_size (by repeat (first | (with_reducible first | exact HB.out | apply below_alloc | apply pw_below_drewN | apply below_drew1 | refine below_set ?_ GE163.out) | exact HB.out))) : w.heap.size ≤ gb182))
              have n7_ := Aside0.mk ((by rw [hg]; exact (below_size (by repeat (first | (with_reducible first | exact HB.out | apply below_alloc | apply pw_below_drewN | apply below_drew1 | refine below_set ?_ GE163.out) | exact HB.out))) : w.heap.size ≤ gb182))
              have n8_ := Aside0.mk ((by rw [hg]; exact Nat.ne_of_lt (blk_lt (g := gb163) (o := .cells #[.int .i64 0, .int .i64 0, .int .i64 0, .int .i64 0, .int .i64 0] 31 (0, 0)) (by (with_reducible repeat (first | refine blk_drewN ?_ _ | refine blk_drew ?_ | refine blk_alloc ?_ _)); exact BK163.out)) : gb163 ≠ gb182))
              have n9_ := Aside0.mk ((by rw [hg]; exact Nat.ne_of_gt (blk_lt (g := gb163) (o := .cells #[.int .i64 0, .int .i64 0, .int .i64 0, .int .i64 0, .int .i64 0] 31 (0, 0)) (by (with_reducible repeat (first | refine blk_drewN ?_ _ | refine blk_drew ?_ | refine blk_alloc ?_ _)); exact BK163.out)) : gb182 ≠ gb163))
              clear HO169
              clear HO172
              clear HO175
              clear BK163
              clear HB
              have HO169 := n0_
              have HO172 := n1_
              have HO175 := n2_
              have BK163 := n3_
              have HB := n4_
              have BK182 := n5_
              have GW182 := n6_
              have GE182 := n7_
              have NB163_182 := n8_
              have NB182_163 := n9_
              clear n0_ n1_ n2_ n3_ n4_ n5_ n6_ n7_ n8_ n9_
              clear hb hbox hg
              refine hK.out _ _ ⟨HS0_, HS1_, HS2_⟩ (fun hHeld => ?_)
              clear hK K
              refine norm_ (a' := ?_) ?_ ?_
              rotate_left
              ·show Act.put _ (some 5) _ = _
               simp only [Act.put, List.setIfInBounds_toArray, List.set_cons_zero, List.set_cons_succ, i64_w, i32_w]
               rfl
              exact norm_ (by first | (simp only [putAll, Act.put, List.setIfInBounds_toArray, List.set_cons_zero, List.set_cons_succ]; done) | (simp only [putAll, Act.put, List.setIfInBounds_toArray, List.set_cons_zero, List.set_cons_succ]; rfl)) (hJ0_15 ((.slice Aoz3 t173.length coz3 : Value), gb182) _ ⟨hHeld, (by (with_reducible repeat (first | apply Kd.R_alloc | apply Kd.R_drewN | apply Kd.R_drew)); exact HO169.out), (by (with_reducible repeat (first | apply Kd.R_alloc | apply Kd.R_drewN | apply Kd.R_drew)); exact HO172.out), (by (with_reducible repeat (first | apply Kd.R_alloc | apply Kd.R_drewN | apply Kd.R_drew)); exact HO175.out), (by (with_reducible repeat (first | refine blk_drewN ?_ _ | refine blk_drew ?_ | refine blk_alloc ?_ _)); exact BK163.out), (by (with_reducible repeat (first | refine blk_drewN ?_ _ | refine blk_drew ?_ | refine blk_alloc ?_ _)); exact BK182.out), GW182.out, GE182.out, NB163_182.out, NB182_163.out, (by repeat (first | (with_reducible first | exact HB.out | apply below_alloc | apply pw_below_drewN | apply below_drew1 | refine below_set ?_ GE163.out | refine below_set ?_ GE182.out) | exact HB.out))⟩)
           ·skip
            rintro ⟨v174, gb182⟩ wz8 ⟨hS_, h0_, h1_, h2_, h3_, h4_, h5_, h6_, h7_, h8_, h9_⟩
            have n0_ : Aside0 (Kd.R Kd.string 9 wz8 w.heap.size (fun k_ => some k_ ≠ (.slice (some ad176) y170.length coz2 : Value).ownBlock ∧ some k_ ≠ (v174 : Value).ownBlock) (.slice Aoz1 y167.length coz1) y167) := ⟨h0_⟩
            have n1_ : Aside0 (Kd.R Kd.string 9 wz8 w.heap.size (fun k_ => some k_ ≠ (.slice Aoz1 y167.length coz1 : Value).ownBlock ∧ some k_ ≠ (v174 : Value).ownBlock) (.slice (some ad176) y170.length coz2) y170) := ⟨h1_⟩
            have n2_ : Aside0 (Kd.R Kd.string 9 wz8 w.heap.size (fun k_ => some k_ ≠ (.slice Aoz1 y167.length coz1 : Value).ownBlock ∧ some k_ ≠ (.slice (some ad176) y170.length coz2 : Value).ownBlock) v174 t173) := ⟨h2_⟩
            have n3_ : Aside0 (wz8.heap[gb163]? = some (.cells #[.int .i64 0, .int .i64 0, .int .i64 0, .int .i64 0, .int .i64 0] 31 (0, 0))) := ⟨h3_⟩
            have n4_ : Aside0 (wz8.heap[gb182]? = some (.cells #[.int .i64 0, .int .i64 0, .int .i64 0, .int .i64 0, .int .i64 0] 31 (0, 0))) := ⟨h4_⟩
            have n5_ : Aside0 (w.heap.size ≤ gb182) := ⟨h5_⟩
            have n6_ : Aside0 (w.heap.size ≤ gb182) := ⟨h6_⟩
            have n7_ : Aside0 (gb163 ≠ gb182) := ⟨h7_⟩
            have n8_ : Aside0 (gb182 ≠ gb163) := ⟨h8_⟩
            have n9_ : Aside0 (Below w.heap.size w wz8) := ⟨h9_⟩
            clear HO169
            clear HO172
            clear BK163
            clear HB
            clear h0_ h1_ h2_ h3_ h4_ h5_ h6_ h7_ h8_ h9_
            have HO169 := n0_
            have HO172 := n1_
            have HO175 := n2_
            have BK163 := n3_
            have BK182 := n4_
            have GW182 := n5_
            have GE182 := n6_
            have NB163_182 := n7_
            have NB182_163 := n8_
            have HB := n9_
            clear n0_ n1_ n2_ n3_ n4_ n5_ n6_ n7_ n8_ n9_
            have hHeld : wz8.cell? ad176 = some (.string (rdOf ByteArray.empty y170 0)) ∧ wz8.cell? ⟨ad176.block, ad176.off + 1, none⟩ = some (.string (rdOf ByteArray.empty y170 1)) ∧ wz8.cell? ⟨ad176.block, ad176.off + 2, none⟩ = some (.string (rdOf ByteArray.empty y170 2)) := hS_
            obtain ⟨Aoz4, coz4, eoz4⟩ := Kd.R_slice HO175.out
            (first | subst eoz4 | (injection eoz4 with f1_ f2_ f3_; have f4_ := f1_.symm; have f5_ := f3_.symm; clear f1_ f2_ f3_; subst f4_; subst f5_))
            refine norm_ (a' := ?_) ?_ ?_
            rotate_left
            ·simp only [putAll, Act.put, List.setIfInBounds_toArray, List.set_cons_zero, List.set_cons_succ]
             rfl
            refine one_ (i := 4) (N := some 16) #[true, true, true, true, true, false, true, true, true, false, true, true, true, false, false, true, false] rfl rfl (one_of HT_.out (by kernel_rfl)) (by decide) (fun K hK => ?_)
            refine goes_ Tryd.func27 (by kernel_rfl) rfl #[.slice Aoz4 t173.length coz4, .string (rdOf ByteArray.empty y170 0)] (by rfl) rfl rfl (by (try simp only [List.map_toArray, List.map_cons, List.map_nil]); first | done | rfl | (simp only [List.length_drop, List.length_take]; rfl)) ?_
            with_reducible refine (slices_Index_string_string.calls k _ _ t173 (rdOf ByteArray.empty y170 0) t177 _ ?side1 ?side2 A6.out).mono ?_
            (case side1 => repeat (first | exact (Kd.R_reads' HO175.out).2.2 | (with_reducible refine Kd.C_alloc ?_ _) | (with_reducible refine Kd.C_drewN ?_ _) | (with_reducible refine Kd.C_drew ?_)))
            (case side2 => exact (Kd.R_reads' HO175.out).2.1)
            rintro e w' ⟨rfl, ⟨nd, rfl⟩⟩
            refine ⟨_, rfl, ?_⟩
            refine hK.out _ _ ⟨hHeld.1, hHeld.2.1, hHeld.2.2⟩ (fun hHeld => ?_)
            clear hK K
            refine norm_ (a' := ?_) ?_ ?_
            rotate_left
            ·show Act.put _ (some 16) _ = _
             simp only [Act.put, List.setIfInBounds_toArray, List.set_cons_zero, List.set_cons_succ, i64_w, i32_w]
             rfl
            refine pure_ (i := 5) (N := some 17) (v := ?_) (a' := ?_) #[true, true, true, true, true, true, true, true, true, false, true, true, true, false, false, true, false] rfl rfl (any_of HT_.out (by kernel_rfl)) (fun _ _ _ h => h) (Or.inl ⟨by rfl, ?_⟩) ?_ ?_
            rotate_left
            ·intro w'
             go_simp
             with_reducible rfl
            rotate_left
            ·simp only [Act.put, List.setIfInBounds_toArray, List.set_cons_zero, List.set_cons_succ, i64_w, i32_w]
             rfl
            exact norm_ (by first | (simp only [putAll, Act.put, List.setIfInBounds_toArray, List.set_cons_zero, List.set_cons_succ]; done) | (simp only [putAll, Act.put, List.setIfInBounds_toArray, List.set_cons_zero, List.set_cons_succ]; rfl)) (hJ0_4_15 (.slice Aoz4 t173.length coz4, gb182) _ ⟨hHeld, (by (with_reducible repeat (first | apply Kd.R_alloc | apply Kd.R_drewN | apply Kd.R_drew)); exact HO169.out), (by (with_reducible repeat (first | apply Kd.R_alloc | apply Kd.R_drewN | apply Kd.R_drew)); exact HO172.out), (by (with_reducible repeat (first | apply Kd.R_alloc | apply Kd.R_drewN | apply Kd.R_drew)); exact HO175.out), (by (with_reducible repeat (first | refine blk_drewN ?_ _ | refine blk_drew ?_ | refine blk_alloc ?_ _)); exact BK163.out), (by (with_reducible repeat (first | refine blk_drewN ?_ _ | refine blk_drew ?_ | refine blk_alloc ?_ _)); exact BK182.out), GW182.out, GE182.out, NB163_182.out, NB182_163.out, (by repeat (first | (with_reducible first | exact HB.out | apply below_alloc | apply pw_below_drewN | apply below_drew1 | refine below_set ?_ GE163.out | refine below_set ?_ GE182.out) | exact HB.out))⟩)
          ·skip
           rintro v174 wz8 ⟨hS_, h0_, h1_, h2_, h3_, h4_⟩
           have n0_ : Aside0 (Kd.R Kd.string 9 wz8 w.heap.size (fun k_ => some k_ ≠ (.slice (some ad176) y170.length coz2 : Value).ownBlock ∧ some k_ ≠ (v174 : Value).ownBlock) (.slice Aoz1 y167.length coz1) y167) := ⟨h0_⟩
           have n1_ : Aside0 (Kd.R Kd.string 9 wz8 w.heap.size (fun k_ => some k_ ≠ (.slice Aoz1 y167.length coz1 : Value).ownBlock ∧ some k_ ≠ (v174 : Value).ownBlock) (.slice (some ad176) y170.length coz2) y170) := ⟨h1_⟩
           have n2_ : Aside0 (Kd.R Kd.string 9 wz8 w.heap.size (fun k_ => some k_ ≠ (.slice Aoz1 y167.length coz1 : Value).ownBlock ∧ some k_ ≠ (.slice (some ad176) y170.length coz2 : Value).ownBlock) v174 t173) := ⟨h2_⟩
           have n3_ : Aside0 (wz8.heap[gb163]? = some (.cells #[.int .i64 0, .int .i64 0, .int .i64 0, .int .i64 0, .int .i64 0] 31 (0, 0))) := ⟨h3_⟩
           have n4_ : Aside0 (Below w.heap.size w wz8) := ⟨h4_⟩
           clear HO169
           clear HO172
           clear BK163
           clear HB
           clear h0_ h1_ h2_ h3_ h4_
           have HO169 := n0_
           have HO172 := n1_
           have HO175 := n2_
           have BK163 := n3_
           have HB := n4_
           clear n0_ n1_ n2_ n3_ n4_
           have hHeld : wz8.cell? ad176 = some (.string (rdOf ByteArray.empty y170 0)) ∧ wz8.cell? ⟨ad176.block, ad176.off + 1, none⟩ = some (.string (rdOf ByteArray.empty y170 1)) ∧ wz8.cell? ⟨ad176.block, ad176.off + 2, none⟩ = some (.string (rdOf ByteArray.empty y170 2)) := hS_
           refine norm_ (a' := ?_) ?_ ?_
           rotate_left
           ·simp only [putAll, Act.put, List.setIfInBounds_toArray, List.set_cons_zero, List.set_cons_succ]
            rfl
           refine two_ (i := 9) (j := 15) (Ni := some 21) (Nj := some 5) #[true, true, true, true, true, true, true, true, true, true, true, true, true, false, false, false, false] #[true, true, true, true, true, true, true, true, true, false, true, true, true, false, false, true, false] rfl rfl rfl rfl (two_of HT_.out (by kernel_rfl)) (by decide) (by decide) (fun K hK => ?_) (fun K hK => ?_)
           ·skip
            refine goes_ Tryd.func29 (by kernel_rfl) rfl #[.string (rdOf ByteArray.empty y170 1)] (by rfl) rfl rfl (by (try simp only [List.map_toArray, List.map_cons, List.map_nil]); first | done | rfl | (simp only [List.length_drop, List.length_take]; rfl)) ?_
            with_reducible refine (tale_small.calls (rdOf ByteArray.empty y170 1) t179 _ A9.out HTT.out (by repeat (first | (with_reducible first | exact HB.out | apply below_alloc | apply pw_below_drewN | apply below_drew1 | refine below_set ?_ GE163.out) | exact HB.out))).mono ?_
            rintro e wz9 ⟨rfl, hb⟩
            have HS0_ := (hb.cell (World.block_lt_of_cell? _ _ (hHeld.1))).trans (hHeld.1)
            have HS1_ := (hb.cell (World.block_lt_of_cell? _ _ (hHeld.2.1))).trans (hHeld.2.1)
            have HS2_ := (hb.cell (World.block_lt_of_cell? _ _ (hHeld.2.2))).trans (hHeld.2.2)
            refine ⟨_, rfl, ?_⟩
            have n0_ := Aside0.mk (Kd.R_below (by (with_reducible repeat (first | apply Kd.R_alloc | apply Kd.R_drewN | apply Kd.R_drew)); exact HO169.out) hb)
            have n1_ := Aside0.mk (Kd.R_below (by (with_reducible repeat (first | apply Kd.R_alloc | apply Kd.R_drewN | apply Kd.R_drew)); exact HO172.out) hb)
            have n2_ := Aside0.mk (Kd.R_below (by (with_reducible repeat (first | apply Kd.R_alloc | apply Kd.R_drewN | apply Kd.R_drew)); exact HO175.out) hb)
            have n3_ := Aside0.mk (blk_below (g := gb163) (o := .cells #[.int .i64 0, .int .i64 0, .int .i64 0, .int .i64 0, .int .i64 0] 31 (0, 0)) (by (with_reducible repeat (first | refine blk_drewN ?_ _ | refine blk_drew ?_ | refine blk_alloc ?_ _)); exact BK163.out) hb)
            have n4_ := Aside0.mk (below_step (by repeat (first | (with_reducible first | exact HB.out | apply below_alloc | apply pw_below_drewN | apply below_drew1 | refine below_set ?_ GE163.out) | exact HB.out)) hb)
            clear HO169
            clear HO172
            clear HO175
            clear BK163
            clear HB
            have HO169 := n0_
            have HO172 := n1_
            have HO175 := n2_
            have BK163 := n3_
            have HB := n4_
            clear n0_ n1_ n2_ n3_ n4_
            (try clear hb)
            (try clear hb2)
            (try clear hk)
            (try clear hi)
            refine hK.out _ _ ⟨HS0_, HS1_, HS2_⟩ (fun hHeld => ?_)
            clear hK K
            refine norm_ (a' := ?_) ?_ ?_
            rotate_left
            ·show Act.put _ (some 21) _ = _
             simp only [Act.put, List.setIfInBounds_toArray, List.set_cons_zero, List.set_cons_succ, i64_w, i32_w]
             rfl
            exact norm_ (by first | (simp only [putAll, Act.put, List.setIfInBounds_toArray, List.set_cons_zero, List.set_cons_succ]; done) | (simp only [putAll, Act.put, List.setIfInBounds_toArray, List.set_cons_zero, List.set_cons_succ]; rfl)) (hJ0_4_9 (v174) _ ⟨hHeld, (by (with_reducible repeat (first | apply Kd.R_alloc | apply Kd.R_drewN | apply Kd.R_drew)); exact HO169.out), (by (with_reducible repeat (first | apply Kd.R_alloc | apply Kd.R_drewN | apply Kd.R_drew)); exact HO172.out), (by (with_reducible repeat (first | apply Kd.R_alloc | apply Kd.R_drewN | apply Kd.R_drew)); exact HO175.out), (by (with_reducible repeat (first | refine blk_drewN ?_ _ | refine blk_drew ?_ | refine blk_alloc ?_ _)); exact BK163.out), (by repeat (first | (with_reducible first | exact HB.out | apply below_alloc | apply pw_below_drewN | apply below_drew1 | refine below_set ?_ GE163.out) | exact HB.out))⟩)
           ·skip
            refine box_step ?hg (N := 5) ?hd (cs := #[.int .i64 0, .int .i64 0, .int .i64 0, .int .i64 0, .int .i64 0]) (t := 31) ?hr ?_; (case hd => rfl); (case hg => rfl); (case hr => first | (go_simp; done) | (go_simp; rfl))
            intro gb182 hg wz9 hbox hb
            have HS0_ := (hb.cell (World.block_lt_of_cell? _ _ (hHeld.1))).trans (hHeld.1)
            have HS1_ := (hb.cell (World.block_lt_of_cell? _ _ (hHeld.2.1))).trans (hHeld.2.1)
            have HS2_ := (hb.cell (World.block_lt_of_cell? _ _ (hHeld.2.2))).trans (hHeld.2.2)
            have n0_ := Aside0.mk (Kd.R_below (by (with_reducible repeat (first | apply Kd.R_alloc | apply Kd.R_drewN | apply Kd.R_drew)); exact HO169.out) hb)
            have n1_ := Aside0.mk (Kd.R_below (by (with_reducible repeat (first | apply Kd.R_alloc | apply Kd.R_drewN | apply Kd.R_drew)); exact HO172.out) hb)
            have n2_ := Aside0.mk (Kd.R_below (by (with_reducible repeat (first | apply Kd.R_alloc | apply Kd.R_drewN | apply Kd.R_drew)); exact HO175.out) hb)
            have n3_ := Aside0.mk (blk_below (g := gb163) (o := .cells #[.int .i64 0, .int .i64 0, .int .i64 0, .int .i64 0, .int .i64 0] 31 (0, 0)) (by (with_reducible repeat (first | refine blk_drewN ?_ _ | refine blk_drew ?_ | refine blk_alloc ?_ _)); exact BK163.out) hb)
            have n4_ := Aside0.mk (below_step (by repeat (first | (with_reducible first | exact HB.out | apply below_alloc | apply pw_below_drewN | apply below_drew1 | refine below_set ?_ GE163.out) | exact HB.out)) hb)
            have n5_ := Aside0.mk (hbox)
            have n6_ := Aside0.mk ((by rw [hg]; exact (below_size (by repeat (first | (with_reducible first | exact HB.out | apply below_alloc | apply pw_below_drewN | apply below_drew1 | refine below_set ?_ GE163.out) | exact HB.out))) : w.heap.size ≤ gb182))
            have n7_ := Aside0.mk ((by rw [hg]; exact (below_size (by repeat (first | (with_reducible first | exact HB.out | apply below_alloc | apply pw_below_drewN | apply below_drew1 | refine below_set ?_ GE163.out) | exact HB.out))) : w.heap.size ≤ gb182))
            have n8_ := Aside0.mk ((by rw [hg]; exact Nat.ne_of_lt (blk_lt (g := gb163) (o := .cells #[.int .i64 0, .int .i64 0, .int .i64 0, .int .i64 0, .int .i64 0] 31 (0, 0)) (by (with_reducible repeat (first | refine blk_drewN ?_ _ | refine blk_drew ?_ | refine blk_alloc ?_ _)); exact BK163.out)) : gb163 ≠ gb182))
            have n9_ := Aside0.mk ((by rw [hg]; exact Nat.ne_of_gt (blk_lt (g := gb163) (o := .cells #[.int .i64 0, .int .i64 0, .int .i64 0, .int .i64 0, .int .i64 0] 31 (0, 0)) (by (with_reducible repeat (first | refine blk_drewN ?_ _ | refine blk_drew ?_ | refine blk_alloc ?_ _)); exact BK163.out)) : gb182 ≠ gb163))
            clear HO169
            clear HO172
            clear HO175
            clear BK163
            clear HB
            have HO169 := n0_
            have HO172 := n1_
            have HO175 := n2_
            have BK163 := n3_
            have HB := n4_
            have BK182 := n5_
            have GW182 := n6_
            have GE182 := n7_
            have NB163_182 := n8_
            have NB182_163 := n9_
            clear n0_ n1_ n2_ n3_ n4_ n5_ n6_ n7_ n8_ n9_
            clear hb hbox hg
            refine hK.out _ _ ⟨HS0_, HS1_, HS2_⟩ (fun hHeld => ?_)
            clear hK K
            refine norm_ (a' := ?_) ?_ ?_
            rotate_left
            ·show Act.put _ (some 5) _ = _
             simp only [Act.put, List.setIfInBounds_toArray, List.set_cons_zero, List.set_cons_succ, i64_w, i32_w]
             rfl
            exact norm_ (by first | (simp only [putAll, Act.put, List.setIfInBounds_toArray, List.set_cons_zero, List.set_cons_succ]; done) | (simp only [putAll, Act.put, List.setIfInBounds_toArray, List.set_cons_zero, List.set_cons_succ]; rfl)) (hJ0_4_15 (v174, gb182) _ ⟨hHeld, (by (with_reducible repeat (first | apply Kd.R_alloc | apply Kd.R_drewN | apply Kd.R_drew)); exact HO169.out), (by (with_reducible repeat (first | apply Kd.R_alloc | apply Kd.R_drewN | apply Kd.R_drew)); exact HO172.out), (by (with_reducible repeat (first | apply Kd.R_alloc | apply Kd.R_drewN | apply Kd.R_drew)); exact HO175.out), (by (with_reducible repeat (first | refine blk_drewN ?_ _ | refine blk_drew ?_ | refine blk_alloc ?_ _)); exact BK163.out), (by (with_reducible repeat (first | refine blk_drewN ?_ _ | refine blk_drew ?_ | refine blk_alloc ?_ _)); exact BK182.out), GW182.out, GE182.out, NB163_182.out, NB182_163.out, (by repeat (first | (with_reducible first | exact HB.out | apply below_alloc | apply pw_below_drewN | apply below_drew1 | refine below_set ?_ GE163.out | refine below_set ?_ GE182.out) | exact HB.out))⟩)
         ·skip
          rintro ⟨v174, gb182⟩ wz9 ⟨hS_, h0_, h1_, h2_, h3_, h4_, h5_, h6_, h7_, h8_, h9_⟩
          have n0_ : Aside0 (Kd.R Kd.string 9 wz9 w.heap.size (fun k_ => some k_ ≠ (.slice (some ad176) y170.length coz2 : Value).ownBlock ∧ some k_ ≠ (v174 : Value).ownBlock) (.slice Aoz1 y167.length coz1) y167) := ⟨h0_⟩
          have n1_ : Aside0 (Kd.R Kd.string 9 wz9 w.heap.size (fun k_ => some k_ ≠ (.slice Aoz1 y167.length coz1 : Value).ownBlock ∧ some k_ ≠ (v174 : Value).ownBlock) (.slice (some ad176) y170.length coz2) y170) := ⟨h1_⟩
          have n2_ : Aside0 (Kd.R Kd.string 9 wz9 w.heap.size (fun k_ => some k_ ≠ (.slice Aoz1 y167.length coz1 : Value).ownBlock ∧ some k_ ≠ (.slice (some ad176) y170.length coz2 : Value).ownBlock) v174 t173) := ⟨h2_⟩
          have n3_ : Aside0 (wz9.heap[gb163]? = some (.cells #[.int .i64 0, .int .i64 0, .int .i64 0, .int .i64 0, .int .i64 0] 31 (0, 0))) := ⟨h3_⟩
          have n4_ : Aside0 (wz9.heap[gb182]? = some (.cells #[.int .i64 0, .int .i64 0, .int .i64 0, .int .i64 0, .int .i64 0] 31 (0, 0))) := ⟨h4_⟩
          have n5_ : Aside0 (w.heap.size ≤ gb182) := ⟨h5_⟩
          have n6_ : Aside0 (w.heap.size ≤ gb182) := ⟨h6_⟩
          have n7_ : Aside0 (gb163 ≠ gb182) := ⟨h7_⟩
          have n8_ : Aside0 (gb182 ≠ gb163) := ⟨h8_⟩
          have n9_ : Aside0 (Below w.heap.size w wz9) := ⟨h9_⟩
          clear HO169
          clear HO172
          clear BK163
          clear HB
          clear h0_ h1_ h2_ h3_ h4_ h5_ h6_ h7_ h8_ h9_
          have HO169 := n0_
          have HO172 := n1_
          have HO175 := n2_
          have BK163 := n3_
          have BK182 := n4_
          have GW182 := n5_
          have GE182 := n6_
          have NB163_182 := n7_
          have NB182_163 := n8_
          have HB := n9_
          clear n0_ n1_ n2_ n3_ n4_ n5_ n6_ n7_ n8_ n9_
          have hHeld : wz9.cell? ad176 = some (.string (rdOf ByteArray.empty y170 0)) ∧ wz9.cell? ⟨ad176.block, ad176.off + 1, none⟩ = some (.string (rdOf ByteArray.empty y170 1)) ∧ wz9.cell? ⟨ad176.block, ad176.off + 2, none⟩ = some (.string (rdOf ByteArray.empty y170 2)) := hS_
          refine norm_ (a' := ?_) ?_ ?_
          rotate_left
          ·simp only [putAll, Act.put, List.setIfInBounds_toArray, List.set_cons_zero, List.set_cons_succ]
           rfl
          refine one_ (i := 9) (N := some 21) #[true, true, true, true, true, true, true, true, true, true, true, true, true, false, false, true, false] rfl rfl (one_of HT_.out (by kernel_rfl)) (by decide) (fun K hK => ?_)
          refine goes_ Tryd.func29 (by kernel_rfl) rfl #[.string (rdOf ByteArray.empty y170 1)] (by rfl) rfl rfl (by (try simp only [List.map_toArray, List.map_cons, List.map_nil]); first | done | rfl | (simp only [List.length_drop, List.length_take]; rfl)) ?_
          with_reducible refine (tale_small.calls (rdOf ByteArray.empty y170 1) t179 _ A9.out HTT.out (by repeat (first | (with_reducible first | exact HB.out | apply below_alloc | apply pw_below_drewN | apply below_drew1 | refine below_set ?_ GE163.out | refine below_set ?_ GE182.out) | exact HB.out))).mono ?_
          rintro e wz10 ⟨rfl, hb⟩
          have HS0_ := (hb.cell (World.block_lt_of_cell? _ _ (hHeld.1))).trans (hHeld.1)
          have HS1_ := (hb.cell (World.block_lt_of_cell? _ _ (hHeld.2.1))).trans (hHeld.2.1)
          have HS2_ := (hb.cell (World.block_lt_of_cell? _ _ (hHeld.2.2))).trans (hHeld.2.2)
          refine ⟨_, rfl, ?_⟩
          have n0_ := Aside0.mk (Kd.R_below (by (with_reducible repeat (first | apply Kd.R_alloc | apply Kd.R_drewN | apply Kd.R_drew)); exact HO169.out) hb)
          have n1_ := Aside0.mk (Kd.R_below (by (with_reducible repeat (first | apply Kd.R_alloc | apply Kd.R_drewN | apply Kd.R_drew)); exact HO172.out) hb)
          have n2_ := Aside0.mk (Kd.R_below (by (with_reducible repeat (first | apply Kd.R_alloc | apply Kd.R_drewN | apply Kd.R_drew)); exact HO175.out) hb)
          have n3_ := Aside0.mk (blk_below (g := gb163) (o := .cells #[.int .i64 0, .int .i64 0, .int .i64 0, .int .i64 0, .int .i64 0] 31 (0, 0)) (by (with_reducible repeat (first | refine blk_drewN ?_ _ | refine blk_drew ?_ | refine blk_alloc ?_ _)); exact BK163.out) hb)
          have n4_ := Aside0.mk (blk_below (g := gb182) (o := .cells #[.int .i64 0, .int .i64 0, .int .i64 0, .int .i64 0, .int .i64 0] 31 (0, 0)) (by (with_reducible repeat (first | refine blk_drewN ?_ _ | refine blk_drew ?_ | refine blk_alloc ?_ _)); exact BK182.out) hb)
          have n5_ := Aside0.mk (below_step (by repeat (first | (with_reducible first | exact HB.out | apply below_alloc | apply pw_below_drewN | apply below_drew1 | refine below_set ?_ GE163.out | refine below_set ?_ GE182.out) | exact HB.out)) hb)
          clear HO169
          clear HO172
          clear HO175
          clear BK163
          clear BK182
          clear HB
          have HO169 := n0_
          have HO172 := n1_
          have HO175 := n2_
          have BK163 := n3_
          have BK182 := n4_
          have HB := n5_
          clear n0_ n1_ n2_ n3_ n4_ n5_
          (try clear hb)
          (try clear hb2)
          (try clear hk)
          (try clear hi)
          refine hK.out _ _ ⟨HS0_, HS1_, HS2_⟩ (fun hHeld => ?_)
          clear hK K
          refine norm_ (a' := ?_) ?_ ?_
          rotate_left
          ·show Act.put _ (some 21) _ = _
           simp only [Act.put, List.setIfInBounds_toArray, List.set_cons_zero, List.set_cons_succ, i64_w, i32_w]
           rfl
          exact norm_ (by first | (simp only [putAll, Act.put, List.setIfInBounds_toArray, List.set_cons_zero, List.set_cons_succ]; done) | (simp only [putAll, Act.put, List.setIfInBounds_toArray, List.set_cons_zero, List.set_cons_succ]; rfl)) (hJ0_4_9_15 (v174, gb182) _ ⟨hHeld, (by (with_reducible repeat (first | apply Kd.R_alloc | apply Kd.R_drewN | apply Kd.R_drew)); exact HO169.out), (by (with_reducible repeat (first | apply Kd.R_alloc | apply Kd.R_drewN | apply Kd.R_drew)); exact HO172.out), (by (with_reducible repeat (first | apply Kd.R_alloc | apply Kd.R_drewN | apply Kd.R_drew)); exact HO175.out), (by (with_reducible repeat (first | refine blk_drewN ?_ _ | refine blk_drew ?_ | refine blk_alloc ?_ _)); exact BK163.out), (by (with_reducible repeat (first | refine blk_drewN ?_ _ | refine blk_drew ?_ | refine blk_alloc ?_ _)); exact BK182.out), GW182.out, GE182.out, NB163_182.out, NB182_163.out, (by repeat (first | (with_reducible first | exact HB.out | apply below_alloc | apply pw_below_drewN | apply below_drew1 | refine below_set ?_ GE163.out | refine below_set ?_ GE182.out) | exact HB.out))⟩)
        ·skip
         rintro v174 wz9 ⟨hS_, h0_, h1_, h2_, h3_, h4_⟩
         have n0_ : Aside0 (Kd.R Kd.string 9 wz9 w.heap.size (fun k_ => some k_ ≠ (.slice (some ad176) y170.length coz2 : Value).ownBlock ∧ some k_ ≠ (v174 : Value).ownBlock) (.slice Aoz1 y167.length coz1) y167) := ⟨h0_⟩
         have n1_ : Aside0 (Kd.R Kd.string 9 wz9 w.heap.size (fun k_ => some k_ ≠ (.slice Aoz1 y167.length coz1 : Value).ownBlock ∧ some k_ ≠ (v174 : Value).ownBlock) (.slice (some ad176) y170.length coz2) y170) := ⟨h1_⟩
         have n2_ : Aside0 (Kd.R Kd.string 9 wz9 w.heap.size (fun k_ => some k_ ≠ (.slice Aoz1 y167.length coz1 : Value).ownBlock ∧ some k_ ≠ (.slice (some ad176) y170.length coz2 : Value).ownBlock) v174 t173) := ⟨h2_⟩
         have n3_ : Aside0 (wz9.heap[gb163]? = some (.cells #[.int .i64 0, .int .i64 0, .int .i64 0, .int .i64 0, .int .i64 0] 31 (0, 0))) := ⟨h3_⟩
         have n4_ : Aside0 (Below w.heap.size w wz9) := ⟨h4_⟩
         clear HO169
         clear HO172
         clear BK163
         clear HB
         clear h0_ h1_ h2_ h3_ h4_
         have HO169 := n0_
         have HO172 := n1_
         have HO175 := n2_
         have BK163 := n3_
         have HB := n4_
         clear n0_ n1_ n2_ n3_ n4_
         have hHeld : wz9.cell? ad176 = some (.string (rdOf ByteArray.empty y170 0)) ∧ wz9.cell? ⟨ad176.block, ad176.off + 1, none⟩ = some (.string (rdOf ByteArray.empty y170 1)) ∧ wz9.cell? ⟨ad176.block, ad176.off + 2, none⟩ = some (.string (rdOf ByteArray.empty y170 2)) := hS_
         refine norm_ (a' := ?_) ?_ ?_
         rotate_left
         ·simp only [putAll, Act.put, List.setIfInBounds_toArray, List.set_cons_zero, List.set_cons_succ]
          rfl
         refine two_ (i := 13) (j := 15) (Ni := some 25) (Nj := some 5) #[true, true, true, true, true, true, true, true, true, true, true, true, true, true, false, false, false] #[true, true, true, true, true, true, true, true, true, true, true, true, true, false, false, true, false] rfl rfl rfl rfl (two_of HT_.out (by kernel_rfl)) (by decide) (by decide) (fun K hK => ?_) (fun K hK => ?_)
         ·skip
          refine goes_ Tryd.func29 (by kernel_rfl) rfl #[.string (rdOf ByteArray.empty y170 2)] (by rfl) rfl rfl (by (try simp only [List.map_toArray, List.map_cons, List.map_nil]); first | done | rfl | (simp only [List.length_drop, List.length_take]; rfl)) ?_
          with_reducible refine (tale_small.calls (rdOf ByteArray.empty y170 2) t181 _ A11.out HTT.out (by repeat (first | (with_reducible first | exact HB.out | apply below_alloc | apply pw_below_drewN | apply below_drew1 | refine below_set ?_ GE163.out) | exact HB.out))).mono ?_
          rintro e wz10 ⟨rfl, hb⟩
          have HS0_ := (hb.cell (World.block_lt_of_cell? _ _ (hHeld.1))).trans (hHeld.1)
          have HS1_ := (hb.cell (World.block_lt_of_cell? _ _ (hHeld.2.1))).trans (hHeld.2.1)
          have HS2_ := (hb.cell (World.block_lt_of_cell? _ _ (hHeld.2.2))).trans (hHeld.2.2)
          refine ⟨_, rfl, ?_⟩
          have n0_ := Aside0.mk (Kd.R_below (by (with_reducible repeat (first | apply Kd.R_alloc | apply Kd.R_drewN | apply Kd.R_drew)); exact HO169.out) hb)
          have n1_ := Aside0.mk (Kd.R_below (by (with_reducible repeat (first | apply Kd.R_alloc | apply Kd.R_drewN | apply Kd.R_drew)); exact HO172.out) hb)
          have n2_ := Aside0.mk (Kd.R_below (by (with_reducible repeat (first | apply Kd.R_alloc | apply Kd.R_drewN | apply Kd.R_drew)); exact HO175.out) hb)
          have n3_ := Aside0.mk (blk_below (g := gb163) (o := .cells #[.int .i64 0, .int .i64 0, .int .i64 0, .int .i64 0, .int .i64 0] 31 (0, 0)) (by (with_reducible repeat (first | refine blk_drewN ?_ _ | refine blk_drew ?_ | refine blk_alloc ?_ _)); exact BK163.out) hb)
          have n4_ := Aside0.mk (below_step (by repeat (first | (with_reducible first | exact HB.out | apply below_alloc | apply pw_below_drewN | apply below_drew1 | refine below_set ?_ GE163.out) | exact HB.out)) hb)
          clear HO169
          clear HO172
          clear HO175
          clear BK163
          clear HB
          have HO169 := n0_
          have HO172 := n1_
          have HO175 := n2_
          have BK163 := n3_
          have HB := n4_
          clear n0_ n1_ n2_ n3_ n4_
          (try clear hb)
          (try clear hb2)
          (try clear hk)
          (try clear hi)
          refine hK.out _ _ ⟨HS0_, HS1_, HS2_⟩ (fun hHeld => ?_)
          clear hK K
          refine norm_ (a' := ?_) ?_ ?_
          rotate_left
          ·show Act.put _ (some 25) _ = _
           simp only [Act.put, List.setIfInBounds_toArray, List.set_cons_zero, List.set_cons_succ, i64_w, i32_w]
           rfl
          refine pure_ (i := 14) (N := some 26) (v := ?_) (a' := ?_) #[true, true, true, true, true, true, true, true, true, true, true, true, true, true, true, false, false] rfl rfl (any_of HT_.out (by kernel_rfl)) (fun _ _ _ h => h) (Or.inl ⟨by rfl, ?_⟩) ?_ ?_
          rotate_left
          ·intro w'
           go_simp
           with_reducible rfl
          rotate_left
          ·simp only [Act.put, List.setIfInBounds_toArray, List.set_cons_zero, List.set_cons_succ, i64_w, i32_w]
           rfl
          exact norm_ (by first | (simp only [putAll, Act.put, List.setIfInBounds_toArray, List.set_cons_zero, List.set_cons_succ]; done) | (simp only [putAll, Act.put, List.setIfInBounds_toArray, List.set_cons_zero, List.set_cons_succ]; rfl)) (hJ0_4_9_13 (v174) _ ⟨hHeld, (by (with_reducible repeat (first | apply Kd.R_alloc | apply Kd.R_drewN | apply Kd.R_drew)); exact HO169.out), (by (with_reducible repeat (first | apply Kd.R_alloc | apply Kd.R_drewN | apply Kd.R_drew)); exact HO172.out), (by (with_reducible repeat (first | apply Kd.R_alloc | apply Kd.R_drewN | apply Kd.R_drew)); exact HO175.out), (by (with_reducible repeat (first | refine blk_drewN ?_ _ | refine blk_drew ?_ | refine blk_alloc ?_ _)); exact BK163.out), (by repeat (first | (with_reducible first | exact HB.out | apply below_alloc | apply pw_below_drewN | apply below_drew1 | refine below_set ?_ GE163.out) | exact HB.out))⟩)
         ·skip
          refine box_step ?hg (N := 5) ?hd (cs := #[.int .i64 0, .int .i64 0, .int .i64 0, .int .i64 0, .int .i64 0]) (t := 31) ?hr ?_; (case hd => rfl); (case hg => rfl); (case hr => first | (go_simp; done) | (go_simp; rfl))
          intro gb182 hg wz10 hbox hb
          have HS0_ := (hb.cell (World.block_lt_of_cell? _ _ (hHeld.1))).trans (hHeld.1)
          have HS1_ := (hb.cell (World.block_lt_of_cell? _ _ (hHeld.2.1))).trans (hHeld.2.1)
          have HS2_ := (hb.cell (World.block_lt_of_cell? _ _ (hHeld.2.2))).trans (hHeld.2.2)
          have n0_ := Aside0.mk (Kd.R_below (by (with_reducible repeat (first | apply Kd.R_alloc | apply Kd.R_drewN | apply Kd.R_drew)); exact HO169.out) hb)
          have n1_ := Aside0.mk (Kd.R_below (by (with_reducible repeat (first | apply Kd.R_alloc | apply Kd.R_drewN | apply Kd.R_drew)); exact HO172.out) hb)
          have n2_ := Aside0.mk (Kd.R_below (by (with_reducible repeat (first | apply Kd.R_alloc | apply Kd.R_drewN | apply Kd.R_drew)); exact HO175.out) hb)
          have n3_ := Aside0.mk (blk_below (g := gb163) (o := .cells #[.int .i64 0, .int .i64 0, .int .i64 0, .int .i64 0, .int .i64 0] 31 (0, 0)) (by (with_reducible repeat (first | refine blk_drewN ?_ _ | refine blk_drew ?_ | refine blk_alloc ?_ _)); exact BK163.out) hb)
          have n4_ := Aside0.mk (below_step (by repeat (first | (with_reducible first | exact HB.out | apply below_alloc | apply pw_below_drewN | apply below_drew1 | refine below_set ?_ GE163.out) | exact HB.out)) hb)
          have n5_ := Aside0.mk (hbox)
          have n6_ := Aside0.mk ((by rw [hg]; exact (below_size (by repeat (first | (with_reducible first | exact HB.out | apply below_alloc | apply pw_below_drewN | apply below_drew1 | refine below_set ?_ GE163.out) | exact HB.out))) : w.heap.size ≤ gb182))
          have n7_ := Aside0.mk ((by rw [hg]; exact (below_size (by repeat (first | (with_reducible first | exact HB.out | apply below_alloc | apply pw_below_drewN | apply below_drew1 | refine below_set ?_ GE163.out) | exact HB.out))) : w.heap.size ≤ gb182))
          have n8_ := Aside0.mk ((by rw [hg]; exact Nat.ne_of_lt (blk_lt (g := gb163) (o := .cells #[.int .i64 0, .int .i64 0, .int .i64 0, .int .i64 0, .int .i64 0] 31 (0, 0)) (by (with_reducible repeat (first | refine blk_drewN ?_ _ | refine blk_drew ?_ | refine blk_alloc ?_ _)); exact BK163.out)) : gb163 ≠ gb182))
          have n9_ := Aside0.mk ((by rw [hg]; exact Nat.ne_of_gt (blk_lt (g := gb163) (o := .cells #[.int .i64 0, .int .i64 0, .int .i64 0, .int .i64 0, .int .i64 0] 31 (0, 0)) (by (with_reducible repeat (first | refine blk_drewN ?_ _ | refine blk_drew ?_ | refine blk_alloc ?_ _)); exact BK163.out)) : gb182 ≠ gb163))
          clear HO169
          clear HO172
          clear HO175
          clear BK163
          clear HB
          have HO169 := n0_
          have HO172 := n1_
          have HO175 := n2_
          have BK163 := n3_
          have HB := n4_
          have BK182 := n5_
          have GW182 := n6_
          have GE182 := n7_
          have NB163_182 := n8_
          have NB182_163 := n9_
          clear n0_ n1_ n2_ n3_ n4_ n5_ n6_ n7_ n8_ n9_
          clear hb hbox hg
          refine hK.out _ _ ⟨HS0_, HS1_, HS2_⟩ (fun hHeld => ?_)
          clear hK K
          refine norm_ (a' := ?_) ?_ ?_
          rotate_left
          ·show Act.put _ (some 5) _ = _
           simp only [Act.put, List.setIfInBounds_toArray, List.set_cons_zero, List.set_cons_succ, i64_w, i32_w]
           rfl
          exact norm_ (by first | (simp only [putAll, Act.put, List.setIfInBounds_toArray, List.set_cons_zero, List.set_cons_succ]; done) | (simp only [putAll, Act.put, List.setIfInBounds_toArray, List.set_cons_zero, List.set_cons_succ]; rfl)) (hJ0_4_9_15 (v174, gb182) _ ⟨hHeld, (by (with_reducible repeat (first | apply Kd.R_alloc | apply Kd.R_drewN | apply Kd.R_drew)); exact HO169.out), (by (with_reducible repeat (first | apply Kd.R_alloc | apply Kd.R_drewN | apply Kd.R_drew)); exact HO172.out), (by (with_reducible repeat (first | apply Kd.R_alloc | apply Kd.R_drewN | apply Kd.R_drew)); exact HO175.out), (by (with_reducible repeat (first | refine blk_drewN ?_ _ | refine blk_drew ?_ | refine blk_alloc ?_ _)); exact BK163.out), (by (with_reducible repeat (first | refine blk_drewN ?_ _ | refine blk_drew ?_ | refine blk_alloc ?_ _)); exact BK182.out), GW182.out, GE182.out, NB163_182.out, NB182_163.out, (by repeat (first | (with_reducible first | exact HB.out | apply below_alloc | apply pw_below_drewN | apply below_drew1 | refine below_set ?_ GE163.out | refine below_set ?_ GE182.out) | exact HB.out))⟩)
       ·skip
        rintro ⟨v174, gb182⟩ wz10 ⟨hS_, h0_, h1_, h2_, h3_, h4_, h5_, h6_, h7_, h8_, h9_⟩
        have n0_ : Aside0 (Kd.R Kd.string 9 wz10 w.heap.size (fun k_ => some k_ ≠ (.slice (some ad176) y170.length coz2 : Value).ownBlock ∧ some k_ ≠ (v174 : Value).ownBlock) (.slice Aoz1 y167.length coz1) y167) := ⟨h0_⟩
        have n1_ : Aside0 (Kd.R Kd.string 9 wz10 w.heap.size (fun k_ => some k_ ≠ (.slice Aoz1 y167.length coz1 : Value).ownBlock ∧ some k_ ≠ (v174 : Value).ownBlock) (.slice (some ad176) y170.length coz2) y170) := ⟨h1_⟩
        have n2_ : Aside0 (Kd.R Kd.string 9 wz10 w.heap.size (fun k_ => some k_ ≠ (.slice Aoz1 y167.length coz1 : Value).ownBlock ∧ some k_ ≠ (.slice (some ad176) y170.length coz2 : Value).ownBlock) v174 t173) := ⟨h2_⟩
        have n3_ : Aside0 (wz10.heap[gb163]? = some (.cells #[.int .i64 0, .int .i64 0, .int .i64 0, .int .i64 0, .int .i64 0] 31 (0, 0))) := ⟨h3_⟩
        have n4_ : Aside0 (wz10.heap[gb182]? = some (.cells #[.int .i64 0, .int .i64 0, .int .i64 0, .int .i64 0, .int .i64 0] 31 (0, 0))) := ⟨h4_⟩
        have n5_ : Aside0 (w.heap.size ≤ gb182) := ⟨h5_⟩
        have n6_ : Aside0 (w.heap.size ≤ gb182) := ⟨h6_⟩
        have n7_ : Aside0 (gb163 ≠ gb182) := ⟨h7_⟩
        have n8_ : Aside0 (gb182 ≠ gb163) := ⟨h8_⟩
        have n9_ : Aside0 (Below w.heap.size w wz10) := ⟨h9_⟩
        clear HO169
        clear HO172
        clear BK163
        clear HB
        clear h0_ h1_ h2_ h3_ h4_ h5_ h6_ h7_ h8_ h9_
        have HO169 := n0_
        have HO172 := n1_
        have HO175 := n2_
        have BK163 := n3_
        have BK182 := n4_
        have GW182 := n5_
        have GE182 := n6_
        have NB163_182 := n7_
        have NB182_163 := n8_
        have HB := n9_
        clear n0_ n1_ n2_ n3_ n4_ n5_ n6_ n7_ n8_ n9_
        have hHeld : wz10.cell? ad176 = some (.string (rdOf ByteArray.empty y170 0)) ∧ wz10.cell? ⟨ad176.block, ad176.off + 1, none⟩ = some (.string (rdOf ByteArray.empty y170 1)) ∧ wz10.cell? ⟨ad176.block, ad176.off + 2, none⟩ = some (.string (rdOf ByteArray.empty y170 2)) := hS_
        refine norm_ (a' := ?_) ?_ ?_
        rotate_left
        ·simp only [putAll, Act.put, List.setIfInBounds_toArray, List.set_cons_zero, List.set_cons_succ]
         rfl
        refine one_ (i := 13) (N := some 25) #[true, true, true, true, true, true, true, true, true, true, true, true, true, true, false, true, false] rfl rfl (one_of HT_.out (by kernel_rfl)) (by decide) (fun K hK => ?_)
        refine goes_ Tryd.func29 (by kernel_rfl) rfl #[.string (rdOf ByteArray.empty y170 2)] (by rfl) rfl rfl (by (try simp only [List.map_toArray, List.map_cons, List.map_nil]); first | done | rfl | (simp only [List.length_drop, List.length_take]; rfl)) ?_
        with_reducible refine (tale_small.calls (rdOf ByteArray.empty y170 2) t181 _ A11.out HTT.out (by repeat (first | (with_reducible first | exact HB.out | apply below_alloc | apply pw_below_drewN | apply below_drew1 | refine below_set ?_ GE163.out | refine below_set ?_ GE182.out) | exact HB.out))).mono ?_
        rintro e wz11 ⟨rfl, hb⟩
        have HS0_ := (hb.cell (World.block_lt_of_cell? _ _ (hHeld.1))).trans (hHeld.1)
        have HS1_ := (hb.cell (World.block_lt_of_cell? _ _ (hHeld.2.1))).trans (hHeld.2.1)
        have HS2_ := (hb.cell (World.block_lt_of_cell? _ _ (hHeld.2.2))).trans (hHeld.2.2)
        refine ⟨_, rfl, ?_⟩
        have n0_ := Aside0.mk (Kd.R_below (by (with_reducible repeat (first | apply Kd.R_alloc | apply Kd.R_drewN | apply Kd.R_drew)); exact HO169.out) hb)
        have n1_ := Aside0.mk (Kd.R_below (by (with_reducible repeat (first | apply Kd.R_alloc | apply Kd.R_drewN | apply Kd.R_drew)); exact HO172.out) hb)
        have n2_ := Aside0.mk (Kd.R_below (by (with_reducible repeat (first | apply Kd.R_alloc | apply Kd.R_drewN | apply Kd.R_drew)); exact HO175.out) hb)
        have n3_ := Aside0.mk (blk_below (g := gb163) (o := .cells #[.int .i64 0, .int .i64 0, .int .i64 0, .int .i64 0, .int .i64 0] 31 (0, 0)) (by (with_reducible repeat (first | refine blk_drewN ?_ _ | refine blk_drew ?_ | refine blk_alloc ?_ _)); exact BK163.out) hb)
        have n4_ := Aside0.mk (blk_below (g := gb182) (o := .cells #[.int .i64 0, .int .i64 0, .int .i64 0, .int .i64 0, .int .i64 0] 31 (0, 0)) (by (with_reducible repeat (first | refine blk_drewN ?_ _ | refine blk_drew ?_ | refine blk_alloc ?_ _)); exact BK182.out) hb)
        have n5_ := Aside0.mk (below_step (by repeat (first | (with_reducible first | exact HB.out | apply below_alloc | apply pw_below_drewN | apply below_drew1 | refine below_set ?_ GE163.out | refine below_set ?_ GE182.out) | exact HB.out)) hb)
        clear HO169
        clear HO172
        clear HO175
        clear BK163
        clear BK182
        clear HB
        have HO169 := n0_
        have HO172 := n1_
        have HO175 := n2_
        have BK163 := n3_
        have BK182 := n4_
        have HB := n5_
        clear n0_ n1_ n2_ n3_ n4_ n5_
        (try clear hb)
        (try clear hb2)
        (try clear hk)
        (try clear hi)
        refine hK.out _ _ ⟨HS0_, HS1_, HS2_⟩ (fun hHeld => ?_)
        clear hK K
        refine norm_ (a' := ?_) ?_ ?_
        rotate_left
        ·show Act.put _ (some 25) _ = _
         simp only [Act.put, List.setIfInBounds_toArray, List.set_cons_zero, List.set_cons_succ, i64_w, i32_w]
         rfl
        refine pure_ (i := 14) (N := some 26) (v := ?_) (a' := ?_) #[true, true, true, true, true, true, true, true, true, true, true, true, true, true, true, true, false] rfl rfl (any_of HT_.out (by kernel_rfl)) (fun _ _ _ h => h) (Or.inl ⟨by rfl, ?_⟩) ?_ ?_
        rotate_left
        ·intro w'
         go_simp
         with_reducible rfl
        rotate_left
        ·simp only [Act.put, List.setIfInBounds_toArray, List.set_cons_zero, List.set_cons_succ, i64_w, i32_w]
         rfl
        exact norm_ (by first | (simp only [putAll, Act.put, List.setIfInBounds_toArray, List.set_cons_zero, List.set_cons_succ]; done) | (simp only [putAll, Act.put, List.setIfInBounds_toArray, List.set_cons_zero, List.set_cons_succ]; rfl)) (hJ0_4_9_13_15 (v174, gb182) _ ⟨hHeld, (by (with_reducible repeat (first | apply Kd.R_alloc | apply Kd.R_drewN | apply Kd.R_drew)); exact HO169.out), (by (with_reducible repeat (first | apply Kd.R_alloc | apply Kd.R_drewN | apply Kd.R_drew)); exact HO172.out), (by (with_reducible repeat (first | apply Kd.R_alloc | apply Kd.R_drewN | apply Kd.R_drew)); exact HO175.out), (by (with_reducible repeat (first | refine blk_drewN ?_ _ | refine blk_drew ?_ | refine blk_alloc ?_ _)); exact BK163.out), (by (with_reducible repeat (first | refine blk_drewN ?_ _ | refine blk_drew ?_ | refine blk_alloc ?_ _)); exact BK182.out), GW182.out, GE182.out, NB163_182.out, NB182_163.out, (by repeat (first | (with_reducible first | exact HB.out | apply below_alloc | apply pw_below_drewN | apply below_drew1 | refine below_set ?_ GE163.out | refine below_set ?_ GE182.out) | exact HB.out))⟩)
      ·skip
       rintro v174 wz10 ⟨hS_, h0_, h1_, h2_, h3_, h4_⟩
       have n0_ : Aside0 (Kd.R Kd.string 9 wz10 w.heap.size (fun k_ => some k_ ≠ (.slice (some ad176) y170.length coz2 : Value).ownBlock ∧ some k_ ≠ (v174 : Value).ownBlock) (.slice Aoz1 y167.length coz1) y167) := ⟨h0_⟩
       have n1_ : Aside0 (Kd.R Kd.string 9 wz10 w.heap.size (fun k_ => some k_ ≠ (.slice Aoz1 y167.length coz1 : Value).ownBlock ∧ some k_ ≠ (v174 : Value).ownBlock) (.slice (some ad176) y170.length coz2) y170) := ⟨h1_⟩
       have n2_ : Aside0 (Kd.R Kd.string 9 wz10 w.heap.size (fun k_ => some k_ ≠ (.slice Aoz1 y167.length coz1 : Value).ownBlock ∧ some k_ ≠ (.slice (some ad176) y170.length coz2 : Value).ownBlock) v174 t173) := ⟨h2_⟩
       have n3_ : Aside0 (wz10.heap[gb163]? = some (.cells #[.int .i64 0, .int .i64 0, .int .i64 0, .int .i64 0, .int .i64 0] 31 (0, 0))) := ⟨h3_⟩
       have n4_ : Aside0 (Below w.heap.size w wz10) := ⟨h4_⟩
       clear HO169
       clear HO172
       clear BK163
       clear HB
       clear h0_ h1_ h2_ h3_ h4_
       have HO169 := n0_
       have HO172 := n1_
       have HO175 := n2_
       have BK163 := n3_
       have HB := n4_
       clear n0_ n1_ n2_ n3_ n4_
       have hHeld : wz10.cell? ad176 = some (.string (rdOf ByteArray.empty y170 0)) ∧ wz10.cell? ⟨ad176.block, ad176.off + 1, none⟩ = some (.string (rdOf ByteArray.empty y170 1)) ∧ wz10.cell? ⟨ad176.block, ad176.off + 2, none⟩ = some (.string (rdOf ByteArray.empty y170 2)) := hS_
       refine norm_ (a' := ?_) ?_ ?_
       rotate_left
       ·simp only [putAll, Act.put, List.setIfInBounds_toArray, List.set_cons_zero, List.set_cons_succ]
        rfl
       refine one_ (i := 15) (N := some 5) #[true, true, true, true, true, true, true, true, true, true, true, true, true, true, true, true, false] rfl rfl (one_of HT_.out (by kernel_rfl)) (by decide) (fun K hK => ?_)
       refine box_step ?hg (N := 5) ?hd (cs := #[.int .i64 0, .int .i64 0, .int .i64 0, .int .i64 0, .int .i64 0]) (t := 31) ?hr ?_; (case hd => rfl); (case hg => rfl); (case hr => first | (go_simp; done) | (go_simp; rfl))
       intro gb182 hg wz11 hbox hb
       have HS0_ := (hb.cell (World.block_lt_of_cell? _ _ (hHeld.1))).trans (hHeld.1)
       have HS1_ := (hb.cell (World.block_lt_of_cell? _ _ (hHeld.2.1))).trans (hHeld.2.1)
       have HS2_ := (hb.cell (World.block_lt_of_cell? _ _ (hHeld.2.2))).trans (hHeld.2.2)
       have n0_ := Aside0.mk (Kd.R_below (by (with_reducible repeat (first | apply Kd.R_alloc | apply Kd.R_drewN | apply Kd.R_drew)); exact HO169.out) hb)
       have n1_ := Aside0.mk (Kd.R_below (by (with_reducible repeat (first | apply Kd.R_alloc | apply Kd.R_drewN | apply Kd.R_drew)); exact HO172.out) hb)
       have n2_ := Aside0.mk (Kd.R_below (by (with_reducible repeat (first | apply Kd.R_alloc | apply Kd.R_drewN | apply Kd.R_drew)); exact HO175.out) hb)
       have n3_ := Aside0.mk (blk_below (g := gb163) (o := .cells #[.int .i64 0, .int .i64 0, .int .i64 0, .int .i64 0, .int .i64 0] 31 (0, 0)) (by (with_reducible repeat (first | refine blk_drewN ?_ _ | refine blk_drew ?_ | refine blk_alloc ?_ _)); exact BK163.out) hb)
       have n4_ := Aside0.mk (below_step (by repeat (first | (with_reducible first | exact HB.out | apply below_alloc | apply pw_below_drewN | apply below_drew1 | refine below_set ?_ GE163.out) | exact HB.out)) hb)
       have n5_ := Aside0.mk (hbox)
       have n6_ := Aside0.mk ((by rw [hg]; exact (below_size (by repeat (first | (with_reducible first | exact HB.out | apply below_alloc | apply pw_below_drewN | apply below_drew1 | refine below_set ?_ GE163.out) | exact HB.out))) : w.heap.size ≤ gb182))
       have n7_ := Aside0.mk ((by rw [hg]; exact (below_size (by repeat (first | (with_reducible first | exact HB.out | apply below_alloc | apply pw_below_drewN | apply below_drew1 | refine below_set ?_ GE163.out) | exact HB.out))) : w.heap.size ≤ gb182))
       have n8_ := Aside0.mk ((by rw [hg]; exact Nat.ne_of_lt (blk_lt (g := gb163) (o := .cells #[.int .i64 0, .int .i64 0, .int .i64 0, .int .i64 0, .int .i64 0] 31 (0, 0)) (by (with_reducible repeat (first | refine blk_drewN ?_ _ | refine blk_drew ?_ | refine blk_alloc ?_ _)); exact BK163.out)) : gb163 ≠ gb182))
       have n9_ := Aside0.mk ((by rw [hg]; exact Nat.ne_of_gt (blk_lt (g := gb163) (o := .cells #[.int .i64 0, .int .i64 0, .int .i64 0, .int .i64 0, .int .i64 0] 31 (0, 0)) (by (with_reducible repeat (first | refine blk_drewN ?_ _ | refine blk_drew ?_ | refine blk_alloc ?_ _)); exact BK163.out)) : gb182 ≠ gb163))
       clear HO169
       clear HO172
       clear HO175
       clear BK163
       clear HB
       have HO169 := n0_
       have HO172 := n1_
       have HO175 := n2_
       have BK163 := n3_
       have HB := n4_
       have BK182 := n5_
       have GW182 := n6_
       have GE182 := n7_
       have NB163_182 := n8_
       have NB182_163 := n9_
       clear n0_ n1_ n2_ n3_ n4_ n5_ n6_ n7_ n8_ n9_
       clear hb hbox hg
       refine hK.out _ _ ⟨HS0_, HS1_, HS2_⟩ (fun hHeld => ?_)
       clear hK K
       refine norm_ (a' := ?_) ?_ ?_
       rotate_left
       ·show Act.put _ (some 5) _ = _
        simp only [Act.put, List.setIfInBounds_toArray, List.set_cons_zero, List.set_cons_succ, i64_w, i32_w]
        rfl
       exact norm_ (by first | (simp only [putAll, Act.put, List.setIfInBounds_toArray, List.set_cons_zero, List.set_cons_succ]; done) | (simp only [putAll, Act.put, List.setIfInBounds_toArray, List.set_cons_zero, List.set_cons_succ]; rfl)) (hJ0_4_9_13_15 (v174, gb182) _ ⟨hHeld, (by (with_reducible repeat (first | apply Kd.R_alloc | apply Kd.R_drewN | apply Kd.R_drew)); exact HO169.out), (by (with_reducible repeat (first | apply Kd.R_alloc | apply Kd.R_drewN | apply Kd.R_drew)); exact HO172.out), (by (with_reducible repeat (first | apply Kd.R_alloc | apply Kd.R_drewN | apply Kd.R_drew)); exact HO175.out), (by (with_reducible repeat (first | refine blk_drewN ?_ _ | refine blk_drew ?_ | refine blk_alloc ?_ _)); exact BK163.out), (by (with_reducible repeat (first | refine blk_drewN ?_ _ | refine blk_drew ?_ | refine blk_alloc ?_ _)); exact BK182.out), GW182.out, GE182.out, NB163_182.out, NB182_163.out, (by repeat (first | (with_reducible first | exact HB.out | apply below_alloc | apply pw_below_drewN | apply below_drew1 | refine below_set ?_ GE163.out | refine below_set ?_ GE182.out) | exact HB.out))⟩)
     rintro ⟨v174, gb182⟩ wz11 ⟨hS_, h0_, h1_, h2_, h3_, h4_, h5_, h6_, h7_, h8_, h9_⟩
     have n0_ : Aside0 (Kd.R Kd.string 9 wz11 w.heap.size (fun k_ => some k_ ≠ (.slice (some ad176) y170.length coz2 : Value).ownBlock ∧ some k_ ≠ (v174 : Value).ownBlock) (.slice Aoz1 y167.length coz1) y167) := ⟨h0_⟩
     have n1_ : Aside0 (Kd.R Kd.string 9 wz11 w.heap.size (fun k_ => some k_ ≠ (.slice Aoz1 y167.length coz1 : Value).ownBlock ∧ some k_ ≠ (v174 : Value).ownBlock) (.slice (some ad176) y170.length coz2) y170) := ⟨h1_⟩
     have n2_ : Aside0 (Kd.R Kd.string 9 wz11 w.heap.size (fun k_ => some k_ ≠ (.slice Aoz1 y167.length coz1 : Value).ownBlock ∧ some k_ ≠ (.slice (some ad176) y170.length coz2 : Value).ownBlock) v174 t173) := ⟨h2_⟩
     have n3_ : Aside0 (wz11.heap[gb163]? = some (.cells #[.int .i64 0, .int .i64 0, .int .i64 0, .int .i64 0, .int .i64 0] 31 (0, 0))) := ⟨h3_⟩
     have n4_ : Aside0 (wz11.heap[gb182]? = some (.cells #[.int .i64 0, .int .i64 0, .int .i64 0, .int .i64 0, .int .i64 0] 31 (0, 0))) := ⟨h4_⟩
     have n5_ : Aside0 (w.heap.size ≤ gb182) := ⟨h5_⟩
     have n6_ : Aside0 (w.heap.size ≤ gb182) := ⟨h6_⟩
     have n7_ : Aside0 (gb163 ≠ gb182) := ⟨h7_⟩
     have n8_ : Aside0 (gb182 ≠ gb163) := ⟨h8_⟩
     have n9_ : Aside0 (Below w.heap.size w wz11) := ⟨h9_⟩
     clear HO169
     clear HO172
     clear BK163
     clear HB
     clear h0_ h1_ h2_ h3_ h4_ h5_ h6_ h7_ h8_ h9_
     have HO169 := n0_
     have HO172 := n1_
     have HO175 := n2_
     have BK163 := n3_
     have BK182 := n4_
     have GW182 := n5_
     have GE182 := n6_
     have NB163_182 := n7_
     have NB182_163 := n8_
     have HB := n9_
     clear n0_ n1_ n2_ n3_ n4_ n5_ n6_ n7_ n8_ n9_
     have hHeld : wz11.cell? ad176 = some (.string (rdOf ByteArray.empty y170 0)) ∧ wz11.cell? ⟨ad176.block, ad176.off + 1, none⟩ = some (.string (rdOf ByteArray.empty y170 1)) ∧ wz11.cell? ⟨ad176.block, ad176.off + 2, none⟩ = some (.string (rdOf ByteArray.empty y170 2)) := hS_
     refine norm_ (a' := ?_) ?_ ?_
     rotate_left
     ·simp only [putAll, Act.put, List.setIfInBounds_toArray, List.set_cons_zero, List.set_cons_succ]
      rfl
     refine one_ (i := 16) (N := none) #[true, true, true, true, true, true, true, true, true, true, true, true, true, true, true, true, true] rfl rfl (one_of HT_.out (by kernel_rfl)) (by decide) (fun K hK => ?_)
     have hsz1 : wz11.cell? ⟨gb182, 0, none⟩ = some (.int .i64 0) := (blk_cell BK182.out 0).trans rfl
     have hfsz1 := blk_frozen BK182.out 0
     have hnsz1_0 := NB163_182.out
     have hmsz1_0 := NB182_163.out
     have hsz2 : wz11.cell? ⟨gb182, 1, none⟩ = some (.int .i64 0) := (blk_cell BK182.out 1).trans rfl
     have hfsz2 := blk_frozen BK182.out 1
     have hnsz2_0 := NB163_182.out
     have hmsz2_0 := NB182_163.out
     have hsz3 : wz11.cell? ⟨gb182, 2, none⟩ = some (.int .i64 0) := (blk_cell BK182.out 2).trans rfl
     have hfsz3 := blk_frozen BK182.out 2
     have hnsz3_0 := NB163_182.out
     have hmsz3_0 := NB182_163.out
     have hsz4 : wz11.cell? ⟨gb182, 3, none⟩ = some (.int .i64 0) := (blk_cell BK182.out 3).trans rfl
     have hfsz4 := blk_frozen BK182.out 3
     have hnsz4_0 := NB163_182.out
     have hmsz4_0 := NB182_163.out
     have hsz5 : wz11.cell? ⟨gb182, 4, none⟩ = some (.int .i64 0) := (blk_cell BK182.out 4).trans rfl
     have hfsz5 := blk_frozen BK182.out 4
     have hnsz5_0 := NB163_182.out
     have hmsz5_0 := NB182_163.out
     refine skip_ (w1 := ?_) (by rfl) rfl ?_ ?_
     rotate_left
     ·go_simp
      rfl
     refine hK.out _ _ ⟨((cell_far (p := ⟨gb182, _, none⟩) (by first | exact Kd.own_blk (Kd.R_ne HO172.out BK182.out (by decide)) | (rw [add_block]; exact Kd.own_blk (Kd.R_ne HO172.out BK182.out (by decide))) | (show (Addr.add _ _).block ≠ _; rw [add_block]; exact Kd.own_blk (Kd.R_ne HO172.out BK182.out (by decide))) | (dsimp only; exact Kd.own_blk (Kd.R_ne HO172.out BK182.out (by decide)))) _).trans (((cell_far (p := ⟨gb182, _, none⟩) (by first | exact Kd.own_blk (Kd.R_ne HO172.out BK182.out (by decide)) | (rw [add_block]; exact Kd.own_blk (Kd.R_ne HO172.out BK182.out (by decide))) | (show (Addr.add _ _).block ≠ _; rw [add_block]; exact Kd.own_blk (Kd.R_ne HO172.out BK182.out (by decide))) | (dsimp only; exact Kd.own_blk (Kd.R_ne HO172.out BK182.out (by decide)))) _).trans (((cell_far (p := ⟨gb182, _, none⟩) (by first | exact Kd.own_blk (Kd.R_ne HO172.out BK182.out (by decide)) | (rw [add_block]; exact Kd.own_blk (Kd.R_ne HO172.out BK182.out (by decide))) | (show (Addr.add _ _).block ≠ _; rw [add_block]; exact Kd.own_blk (Kd.R_ne HO172.out BK182.out (by decide))) | (dsimp only; exact Kd.own_blk (Kd.R_ne HO172.out BK182.out (by decide)))) _).trans (((cell_far (p := ⟨gb182, _, none⟩) (by first | exact Kd.own_blk (Kd.R_ne HO172.out BK182.out (by decide)) | (rw [add_block]; exact Kd.own_blk (Kd.R_ne HO172.out BK182.out (by decide))) | (show (Addr.add _ _).block ≠ _; rw [add_block]; exact Kd.own_blk (Kd.R_ne HO172.out BK182.out (by decide))) | (dsimp only; exact Kd.own_blk (Kd.R_ne HO172.out BK182.out (by decide)))) _).trans (((cell_far (p := ⟨gb182, _, none⟩) (by first | exact Kd.own_blk (Kd.R_ne HO172.out BK182.out (by decide)) | (rw [add_block]; exact Kd.own_blk (Kd.R_ne HO172.out BK182.out (by decide))) | (show (Addr.add _ _).block ≠ _; rw [add_block]; exact Kd.own_blk (Kd.R_ne HO172.out BK182.out (by decide))) | (dsimp only; exact Kd.own_blk (Kd.R_ne HO172.out BK182.out (by decide)))) _).trans (hHeld.1)))))))))), ((cell_far (p := ⟨gb182, _, none⟩) (by first | exact Kd.own_blk (Kd.R_ne HO172.out BK182.out (by decide)) | (rw [add_block]; exact Kd.own_blk (Kd.R_ne HO172.out BK182.out (by decide))) | (show (Addr.add _ _).block ≠ _; rw [add_block]; exact Kd.own_blk (Kd.R_ne HO172.out BK182.out (by decide))) | (dsimp only; exact Kd.own_blk (Kd.R_ne HO172.out BK182.out (by decide)))) _).trans (((cell_far (p := ⟨gb182, _, none⟩) (by first | exact Kd.own_blk (Kd.R_ne HO172.out BK182.out (by decide)) | (rw [add_block]; exact Kd.own_blk (Kd.R_ne HO172.out BK182.out (by decide))) | (show (Addr.add _ _).block ≠ _; rw [add_block]; exact Kd.own_blk (Kd.R_ne HO172.out BK182.out (by decide))) | (dsimp only; exact Kd.own_blk (Kd.R_ne HO172.out BK182.out (by decide)))) _).trans (((cell_far (p := ⟨gb182, _, none⟩) (by first | exact Kd.own_blk (Kd.R_ne HO172.out BK182.out (by decide)) | (rw [add_block]; exact Kd.own_blk (Kd.R_ne HO172.out BK182.out (by decide))) | (show (Addr.add _ _).block ≠ _; rw [add_block]; exact Kd.own_blk (Kd.R_ne HO172.out BK182.out (by decide))) | (dsimp only; exact Kd.own_blk (Kd.R_ne HO172.out BK182.out (by decide)))) _).trans (((cell_far (p := ⟨gb182, _, none⟩) (by first | exact Kd.own_blk (Kd.R_ne HO172.out BK182.out (by decide)) | (rw [add_block]; exact Kd.own_blk (Kd.R_ne HO172.out BK182.out (by decide))) | (show (Addr.add _ _).block ≠ _; rw [add_block]; exact Kd.own_blk (Kd.R_ne HO172.out BK182.out (by decide))) | (dsimp only; exact Kd.own_blk (Kd.R_ne HO172.out BK182.out (by decide)))) _).trans (((cell_far (p := ⟨gb182, _, none⟩) (by first | exact Kd.own_blk (Kd.R_ne HO172.out BK182.out (by decide)) | (rw [add_block]; exact Kd.own_blk (Kd.R_ne HO172.out BK182.out (by decide))) | (show (Addr.add _ _).block ≠ _; rw [add_block]; exact Kd.own_blk (Kd.R_ne HO172.out BK182.out (by decide))) | (dsimp only; exact Kd.own_blk (Kd.R_ne HO172.out BK182.out (by decide)))) _).trans (hHeld.2.1)))))))))), ((cell_far (p := ⟨gb182, _, none⟩) (by first | exact Kd.own_blk (Kd.R_ne HO172.out BK182.out (by decide)) | (rw [add_block]; exact Kd.own_blk (Kd.R_ne HO172.out BK182.out (by decide))) | (show (Addr.add _ _).block ≠ _; rw [add_block]; exact Kd.own_blk (Kd.R_ne HO172.out BK182.out (by decide))) | (dsimp only; exact Kd.own_blk (Kd.R_ne HO172.out BK182.out (by decide)))) _).trans (((cell_far (p := ⟨gb182, _, none⟩) (by first | exact Kd.own_blk (Kd.R_ne HO172.out BK182.out (by decide)) | (rw [add_block]; exact Kd.own_blk (Kd.R_ne HO172.out BK182.out (by decide))) | (show (Addr.add _ _).block ≠ _; rw [add_block]; exact Kd.own_blk (Kd.R_ne HO172.out BK182.out (by decide))) | (dsimp only; exact Kd.own_blk (Kd.R_ne HO172.out BK182.out (by decide)))) _).trans (((cell_far (p := ⟨gb182, _, none⟩) (by first | exact Kd.own_blk (Kd.R_ne HO172.out BK182.out (by decide)) | (rw [add_block]; exact Kd.own_blk (Kd.R_ne HO172.out BK182.out (by decide))) | (show (Addr.add _ _).block ≠ _; rw [add_block]; exact Kd.own_blk (Kd.R_ne HO172.out BK182.out (by decide))) | (dsimp only; exact Kd.own_blk (Kd.R_ne HO172.out BK182.out (by decide)))) _).trans (((cell_far (p := ⟨gb182, _, none⟩) (by first | exact Kd.own_blk (Kd.R_ne HO172.out BK182.out (by decide)) | (rw [add_block]; exact Kd.own_blk (Kd.R_ne HO172.out BK182.out (by decide))) | (show (Addr.add _ _).block ≠ _; rw [add_block]; exact Kd.own_blk (Kd.R_ne HO172.out BK182.out (by decide))) | (dsimp only; exact Kd.own_blk (Kd.R_ne HO172.out BK182.out (by decide)))) _).trans (((cell_far (p := ⟨gb182, _, none⟩) (by first | exact Kd.own_blk (Kd.R_ne HO172.out BK182.out (by decide)) | (rw [add_block]; exact Kd.own_blk (Kd.R_ne HO172.out BK182.out (by decide))) | (show (Addr.add _ _).block ≠ _; rw [add_block]; exact Kd.own_blk (Kd.R_ne HO172.out BK182.out (by decide))) | (dsimp only; exact Kd.own_blk (Kd.R_ne HO172.out BK182.out (by decide)))) _).trans (hHeld.2.2))))))))))⟩ (fun hHeld => ?_)
     clear hK K
     refine done_ (done_of HT_.out (by kernel_rfl)) ?_
     have H := HH_.out
     clear HH_
     by_cases c12 : (ji7) = 2
     ·rw [if_pos c12] at H
      have c12b0 : ((ji7) == 2) = true := beq_iff_eq.mpr c12
      have c12b1 : ((ji7) != 2) = false := bne_eq_false_iff_eq.mpr c12
      clear c12
      replace H := Option.bind_eq_some_iff.mp H
      obtain ⟨t184, A130, H⟩ := H
      replace H : (if 3 < (y170.length : Int) then ((tale_small.f (rdOf ByteArray.empty y170 3)).bind fun t186 => ((tale_Conf.f (ji7) t179 t184 1 t186).bind fun bt187 => (if bt187.2 = 0 then (if bt187.1.toList = a0.toList then (some (ji7, t179, t184, 1, t186, 0)) else (some (0, 0, 0, 0, 0, 4))) else (some (0, 0, 0, 0, 0, 4))))) else (none)) = some (r1, r2, r3, r4, r5, r6) := H
      have A13 := Aside0.mk A130
      clear A130
      by_cases c14 : 3 < (y170.length : Int)
      ·rw [if_pos c14] at H
       have c14b0 : decide (3 < (y170.length : Int)) = true := decide_eq_true c14
       have c14b1 : decide (3 < y170.length) = true := decide_eq_true (by omega)
       clear c14
       replace H := Option.bind_eq_some_iff.mp H
       obtain ⟨t186, A150, H⟩ := H
       replace H : ((tale_Conf.f (ji7) t179 t184 1 t186).bind fun bt187 => (if bt187.2 = 0 then (if bt187.1.toList = a0.toList then (some (ji7, t179, t184, 1, t186, 0)) else (some (0, 0, 0, 0, 0, 4))) else (some (0, 0, 0, 0, 0, 4)))) = some (r1, r2, r3, r4, r5, r6) := H
       have A15 := Aside0.mk A150
       clear A150
       replace H := Option.bind_eq_some_iff.mp H
       obtain ⟨⟨t187, t188⟩, A160, H⟩ := H
       replace H : (if t188 = 0 then (if t187.toList = a0.toList then (some (ji7, t179, t184, 1, t186, 0)) else (some (0, 0, 0, 0, 0, 4))) else (some (0, 0, 0, 0, 0, 4))) = some (r1, r2, r3, r4, r5, r6) := H
       have A16 := Aside0.mk A160
       clear A160
       have HH_ := Aside0.mk H
       clear H
       have hnbz1 := NB182_163.out
       have hncz1 := NB163_182.out
       have hczz1_0 : wz11.cell? ⟨gb182, 0, none⟩ = some (.int .i64 0) := (blk_cell BK182.out 0).trans rfl
       have hczz1_1 : wz11.cell? ⟨gb182, 1, none⟩ = some (.int .i64 0) := (blk_cell BK182.out 1).trans rfl
       have hczz1_2 : wz11.cell? ⟨gb182, 2, none⟩ = some (.int .i64 0) := (blk_cell BK182.out 2).trans rfl
       have hczz1_3 : wz11.cell? ⟨gb182, 3, none⟩ = some (.int .i64 0) := (blk_cell BK182.out 3).trans rfl
       have hczz1_4 : wz11.cell? ⟨gb182, 4, none⟩ = some (.int .i64 0) := (blk_cell BK182.out 4).trans rfl
       have hfzz1_0 := blk_frozen BK182.out 0
       have hfzz1_1 := blk_frozen BK182.out 1
       have hfzz1_2 := blk_frozen BK182.out 2
       have hfzz1_3 := blk_frozen BK182.out 3
       have hfzz1_4 := blk_frozen BK182.out 4
       try go_wp2
       have n0_ : Aside0 (Kd.R Kd.string 9 (((((wz11.setCell ⟨gb182, 0, none⟩ (.int .i64 ji7)).setCell ⟨gb182, 1, none⟩ (.int .i64 t179)).setCell ⟨gb182, 2, none⟩ (.int .i64 0)).setCell ⟨gb182, 3, none⟩ (.int .i64 1)).setCell ⟨gb182, 4, none⟩ (.int .i64 t181)) w.heap.size (fun k_ => some k_ ≠ (.slice (some ad176) y170.length coz2 : Value).ownBlock ∧ some k_ ≠ (v174 : Value).ownBlock) (.slice Aoz1 y167.length coz1) y167) := ⟨by (with_reducible repeat (first | apply Kd.R_alloc | apply Kd.R_drewN | apply Kd.R_drew)); exact Kd.R_mono (Kd.R_far (p := ⟨gb182, 4, none⟩) (Kd.R_far (p := ⟨gb182, 3, none⟩) (Kd.R_far (p := ⟨gb182, 2, none⟩) (Kd.R_far (p := ⟨gb182, 1, none⟩) (Kd.R_far (p := ⟨gb182, 0, none⟩) (Kd.R_types HO169.out BK182.out (by decide)) (fun _ hk => hk.2) (.int .i64 ji7)) (fun _ hk => hk.2) (.int .i64 t179)) (fun _ hk => hk.2) (.int .i64 0)) (fun _ hk => hk.2) (.int .i64 1)) (fun _ hk => hk.2) (.int .i64 t181)) (fun _ hk => ⟨hk.1.1, hk.1.2⟩)⟩
       have n1_ : Aside0 (Kd.R Kd.string 9 (((((wz11.setCell ⟨gb182, 0, none⟩ (.int .i64 ji7)).setCell ⟨gb182, 1, none⟩ (.int .i64 t179)).setCell ⟨gb182, 2, none⟩ (.int .i64 0)).setCell ⟨gb182, 3, none⟩ (.int .i64 1)).setCell ⟨gb182, 4, none⟩ (.int .i64 t181)) w.heap.size (fun k_ => some k_ ≠ (.slice Aoz1 y167.length coz1 : Value).ownBlock ∧ some k_ ≠ (v174 : Value).ownBlock) (.slice (some ad176) y170.length coz2) y170) := ⟨by (with_reducible repeat (first | apply Kd.R_alloc | apply Kd.R_drewN | apply Kd.R_drew)); exact Kd.R_mono (Kd.R_far (p := ⟨gb182, 4, none⟩) (Kd.R_far (p := ⟨gb182, 3, none⟩) (Kd.R_far (p := ⟨gb182, 2, none⟩) (Kd.R_far (p := ⟨gb182, 1, none⟩) (Kd.R_far (p := ⟨gb182, 0, none⟩) (Kd.R_types HO172.out BK182.out (by decide)) (fun _ hk => hk.2) (.int .i64 ji7)) (fun _ hk => hk.2) (.int .i64 t179)) (fun _ hk => hk.2) (.int .i64 0)) (fun _ hk => hk.2) (.int .i64 1)) (fun _ hk => hk.2) (.int .i64 t181)) (fun _ hk => ⟨hk.1.1, hk.1.2⟩)⟩
       have n2_ : Aside0 (Kd.R Kd.string 9 (((((wz11.setCell ⟨gb182, 0, none⟩ (.int .i64 ji7)).setCell ⟨gb182, 1, none⟩ (.int .i64 t179)).setCell ⟨gb182, 2, none⟩ (.int .i64 0)).setCell ⟨gb182, 3, none⟩ (.int .i64 1)).setCell ⟨gb182, 4, none⟩ (.int .i64 t181)) w.heap.size (fun k_ => some k_ ≠ (.slice Aoz1 y167.length coz1 : Value).ownBlock ∧ some k_ ≠ (.slice (some ad176) y170.length coz2 : Value).ownBlock) v174 t173) := ⟨by (with_reducible repeat (first | apply Kd.R_alloc | apply Kd.R_drewN | apply Kd.R_drew)); exact Kd.R_mono (Kd.R_far (p := ⟨gb182, 4, none⟩) (Kd.R_far (p := ⟨gb182, 3, none⟩) (Kd.R_far (p := ⟨gb182, 2, none⟩) (Kd.R_far (p := ⟨gb182, 1, none⟩) (Kd.R_far (p := ⟨gb182, 0, none⟩) (Kd.R_types HO175.out BK182.out (by decide)) (fun _ hk => hk.2) (.int .i64 ji7)) (fun _ hk => hk.2) (.int .i64 t179)) (fun _ hk => hk.2) (.int .i64 0)) (fun _ hk => hk.2) (.int .i64 1)) (fun _ hk => hk.2) (.int .i64 t181)) (fun _ hk => ⟨hk.1.1, hk.1.2⟩)⟩
       have n3_ : Aside0 ((((((wz11.setCell ⟨gb182, 0, none⟩ (.int .i64 ji7)).setCell ⟨gb182, 1, none⟩ (.int .i64 t179)).setCell ⟨gb182, 2, none⟩ (.int .i64 0)).setCell ⟨gb182, 3, none⟩ (.int .i64 1)).setCell ⟨gb182, 4, none⟩ (.int .i64 t181)).heap[gb163]? = some (.cells #[.int .i64 0, .int .i64 0, .int .i64 0, .int .i64 0, .int .i64 0] 31 (0, 0))) := ⟨by (with_reducible repeat (first | refine blk_drewN ?_ _ | refine blk_drew ?_ | refine blk_alloc ?_ _)); refine blk_far ?_ NB163_182.out _; (with_reducible repeat (first | refine blk_drewN ?_ _ | refine blk_drew ?_ | refine blk_alloc ?_ _)); refine blk_far ?_ NB163_182.out _; (with_reducible repeat (first | refine blk_drewN ?_ _ | refine blk_drew ?_ | refine blk_alloc ?_ _)); refine blk_far ?_ NB163_182.out _; (with_reducible repeat (first | refine blk_drewN ?_ _ | refine blk_drew ?_ | refine blk_alloc ?_ _)); refine blk_far ?_ NB163_182.out _; (with_reducible repeat (first | refine blk_drewN ?_ _ | refine blk_drew ?_ | refine blk_alloc ?_ _)); refine blk_far ?_ NB163_182.out _; (with_reducible repeat (first | refine blk_drewN ?_ _ | refine blk_drew ?_ | refine blk_alloc ?_ _)); exact BK163.out⟩
       have n4_ : Aside0 ((((((wz11.setCell ⟨gb182, 0, none⟩ (.int .i64 ji7)).setCell ⟨gb182, 1, none⟩ (.int .i64 t179)).setCell ⟨gb182, 2, none⟩ (.int .i64 0)).setCell ⟨gb182, 3, none⟩ (.int .i64 1)).setCell ⟨gb182, 4, none⟩ (.int .i64 t181)).heap[gb182]? = some (.cells #[.int .i64 ji7, .int .i64 t179, .int .i64 0, .int .i64 1, .int .i64 t181] 31 (0, 0))) := ⟨by (with_reducible repeat (first | refine blk_drewN ?_ _ | refine blk_drew ?_ | refine blk_alloc ?_ _)); refine blk_put (cs := #[.int .i64 ji7, .int .i64 t179, .int .i64 0, .int .i64 1, .int .i64 0]) ?_ 4 _ rfl; (with_reducible repeat (first | refine blk_drewN ?_ _ | refine blk_drew ?_ | refine blk_alloc ?_ _)); refine blk_put (cs := #[.int .i64 ji7, .int .i64 t179, .int .i64 0, .int .i64 0, .int .i64 0]) ?_ 3 _ rfl; (with_reducible repeat (first | refine blk_drewN ?_ _ | refine blk_drew ?_ | refine blk_alloc ?_ _)); refine blk_put (cs := #[.int .i64 ji7, .int .i64 t179, .int .i64 0, .int .i64 0, .int .i64 0]) ?_ 2 _ rfl; (with_reducible repeat (first | refine blk_drewN ?_ _ | refine blk_drew ?_ | refine blk_alloc ?_ _)); refine blk_put (cs := #[.int .i64 ji7, .int .i64 0, .int .i64 0, .int .i64 0, .int .i64 0]) ?_ 1 _ rfl; (with_reducible repeat (first | refine blk_drewN ?_ _ | refine blk_drew ?_ | refine blk_alloc ?_ _)); refine blk_put (cs := #[.int .i64 0, .int .i64 0, .int .i64 0, .int .i64 0, .int .i64 0]) ?_ 0 _ rfl; (with_reducible repeat (first | refine blk_drewN ?_ _ | refine blk_drew ?_ | refine blk_alloc ?_ _)); exact BK182.out⟩
       have n5_ : Aside0 (Below w.heap.size w (((((wz11.setCell ⟨gb182, 0, none⟩ (.int .i64 ji7)).setCell ⟨gb182, 1, none⟩ (.int .i64 t179)).setCell ⟨gb182, 2, none⟩ (.int .i64 0)).setCell ⟨gb182, 3, none⟩ (.int .i64 1)).setCell ⟨gb182, 4, none⟩ (.int .i64 t181))) := ⟨by repeat (first | (with_reducible first | exact HB.out | apply below_alloc | apply pw_below_drewN | apply below_drew1 | refine below_set ?_ GE163.out | refine below_set ?_ GE182.out) | exact HB.out)⟩
       (try clear HO169)
       (try clear HO172)
       (try clear HO175)
       (try clear BK163)
       (try clear BK182)
       (try clear HB)
       generalize (((((wz11.setCell ⟨gb182, 0, none⟩ (.int .i64 ji7)).setCell ⟨gb182, 1, none⟩ (.int .i64 t179)).setCell ⟨gb182, 2, none⟩ (.int .i64 0)).setCell ⟨gb182, 3, none⟩ (.int .i64 1)).setCell ⟨gb182, 4, none⟩ (.int .i64 t181)) = wz12 at n0_ n1_ n2_ n3_ n4_ n5_ ⊢
       have HO169 := n0_
       have HO172 := n1_
       have HO175 := n2_
       have BK163 := n3_
       have BK182 := n4_
       have HB := n5_
       clear n0_ n1_ n2_ n3_ n4_ n5_
       have n0_ := Aside0.mk (Kd.R_drew HO169.out)
       have n1_ := Aside0.mk (Kd.R_drew HO172.out)
       have n2_ := Aside0.mk (Kd.R_drew HO175.out)
       have n3_ := Aside0.mk (blk_drew BK163.out)
       have n4_ := Aside0.mk (blk_drew BK182.out)
       have n5_ := Aside0.mk (below_drew1 HB.out)
       clear HO169
       clear HO172
       clear HO175
       clear BK163
       clear BK182
       clear HB
       have HO169 := n0_
       have HO172 := n1_
       have HO175 := n2_
       have BK163 := n3_
       have BK182 := n4_
       have HB := n5_
       clear n0_ n1_ n2_ n3_ n4_ n5_
       have p183 : 0 ≤ (2 : Int) := (by omega)
       have q183 : 2 < (y170.length : Int) := of_decide_eq_true (by first | (with_reducible assumption) | assumption)
       obtain ⟨ad183, e183, hx183_0⟩ := Kd.at_string (Kd.R_reads' HO172.out).2.2 2 p183 q183
       obtain rfl : ad176 = ad183 := (by injection e183)
       (try simp only [show (2 : Int).toNat = 2 from rfl, Nat.reduceMul, Nat.reduceEqDiff, Go.Addr.add, ↓reduceIte] at hx183_0)
       have qi183 : (2 < y170.length) = True := eq_true (by omega)
       (try rw [show ((2 : Int)).toNat = 2 from rfl] at hx183_0)
       replace p183 := eq_true p183
       replace q183 := eq_true q183
       have p185 : 0 ≤ (3 : Int) := (by omega)
       have q185 : 3 < (y170.length : Int) := of_decide_eq_true (by first | (with_reducible assumption) | assumption)
       obtain ⟨ad185, e185, hx185_0⟩ := Kd.at_string (Kd.R_reads' HO172.out).2.2 3 p185 q185
       obtain rfl : ad176 = ad185 := (by injection e185)
       (try simp only [show (3 : Int).toNat = 3 from rfl, Nat.reduceMul, Nat.reduceEqDiff, Go.Addr.add, ↓reduceIte] at hx185_0)
       have qi185 : (3 < y170.length) = True := eq_true (by omega)
       (try rw [show ((3 : Int)).toNat = 3 from rfl] at hx185_0)
       replace p185 := eq_true p185
       replace q185 := eq_true q185
       refine start_ (n := 12) (S := fun w' => w'.cell? ⟨ad176.block, ad176.off + 2, none⟩ = some (.string (rdOf ByteArray.empty y170 2)) ∧ w'.cell? ⟨ad176.block, ad176.off + 3, none⟩ = some (.string (rdOf ByteArray.empty y170 3))) (ds := []) #[false, false, false, false, false, false, false, false, false, false, false, false] (by kernel_rfl) rfl rfl ⟨hx183_0, hx185_0⟩ (fun hHeld => ?_); refine with_tabW tale_ReadConf.tab5 tale_ReadConf.bits5 (fun HT_ HW_ => ?_)
       generalize wz12.drew = wz13 at HO169 HO172 HO175 BK163 BK182 HB hx183_0 hx185_0 hHeld ⊢
       refine pure_ (i := 0) (N := some 31) (v := ?_) (a' := ?_) #[true, false, false, false, false, false, false, false, false, false, false, false] rfl rfl (any_of HT_.out (by kernel_rfl)) (fun _ _ _ h => h) (Or.inl ⟨by rfl, ?_⟩) ?_ ?_
       rotate_left
       ·intro w'
        go_simp
        with_reducible rfl
       rotate_left
       ·simp only [Act.put, List.setIfInBounds_toArray, List.set_cons_zero, List.set_cons_succ, i64_w, i32_w]
        rfl
       refine pure_ (i := 1) (N := some 32) (v := ?_) (a' := ?_) #[true, true, false, false, false, false, false, false, false, false, false, false] rfl rfl (any_of HT_.out (by kernel_rfl)) (fun _ _ _ h => h) (Or.inl ⟨by rfl, ?_⟩) ?_ ?_
       rotate_left
       ·intro w'
        go_simp
        with_reducible rfl
       rotate_left
       ·simp only [Act.put, List.setIfInBounds_toArray, List.set_cons_zero, List.set_cons_succ, i64_w, i32_w]
        rfl
       refine pure_ (i := 4) (N := some 35) (v := ?_) (a' := ?_) #[true, true, false, false, true, false, false, false, false, false, false, false] rfl rfl (any_of HT_.out (by kernel_rfl)) (fun _ _ _ h => h) (Or.inl ⟨by rfl, ?_⟩) ?_ ?_
       rotate_left
       ·intro w'
        go_simp
        with_reducible rfl
       rotate_left
       ·simp only [Act.put, List.setIfInBounds_toArray, List.set_cons_zero, List.set_cons_succ, i64_w, i32_w]
        rfl
       refine pure_ (i := 5) (N := some 36) (v := ?_) (a' := ?_) #[true, true, false, false, true, true, false, false, false, false, false, false] rfl rfl (any_of HT_.out (by kernel_rfl)) (fun _ _ _ h => h) (Or.inl ⟨by rfl, ?_⟩) ?_ ?_
       rotate_left
       ·intro w'
        go_simp
        with_reducible rfl
       rotate_left
       ·simp only [Act.put, List.setIfInBounds_toArray, List.set_cons_zero, List.set_cons_succ, i64_w, i32_w]
        rfl
       refine take_ (i := 2) (N := some 33) (v := ?_) (a' := ?_) #[true, true, true, false, true, true, false, false, false, false, false, false] rfl rfl (take_ofW HT_.out HW_.out (by kernel_rfl)) (fun _ _ _ h => h) (Or.inl ⟨by rfl, ?_⟩) hHeld ?_ ?_
       rotate_left
       ·rintro w' ⟨s0, s1⟩
        go_simp
        with_reducible rfl
       rotate_left
       ·simp only [Act.put, List.setIfInBounds_toArray, List.set_cons_zero, List.set_cons_succ, i64_w, i32_w]
        rfl
       refine take_ (i := 6) (N := some 37) (v := ?_) (a' := ?_) #[true, true, true, false, true, true, true, false, false, false, false, false] rfl rfl (take_ofW HT_.out HW_.out (by kernel_rfl)) (fun _ _ _ h => h) (Or.inl ⟨by rfl, ?_⟩) hHeld ?_ ?_
       rotate_left
       ·rintro w' ⟨s0, s1⟩
        go_simp
        with_reducible rfl
       rotate_left
       ·simp only [Act.put, List.setIfInBounds_toArray, List.set_cons_zero, List.set_cons_succ, i64_w, i32_w]
        rfl
       refine one_ (i := 3) (N := some 34) #[true, true, true, true, true, true, true, false, false, false, false, false] rfl rfl (one_of HT_.out (by kernel_rfl)) (by decide) (fun K hK => ?_)
       refine goes_ Tryd.func29 (by kernel_rfl) rfl #[.string (rdOf ByteArray.empty y170 2)] (by rfl) rfl rfl (by (try simp only [List.map_toArray, List.map_cons, List.map_nil]); first | done | rfl | (simp only [List.length_drop, List.length_take]; rfl)) ?_
       with_reducible refine (tale_small.calls (rdOf ByteArray.empty y170 2) t184 _ A13.out HTT.out (by repeat (first | (with_reducible first | exact HB.out | apply below_alloc | apply pw_below_drewN | apply below_drew1 | refine below_set ?_ GE163.out | refine below_set ?_ GE182.out) | exact HB.out))).mono ?_
       rintro e wz14 ⟨rfl, hb⟩
       have HS0_ := (hb.cell (World.block_lt_of_cell? _ _ (hHeld.1))).trans (hHeld.1)
       have HS1_ := (hb.cell (World.block_lt_of_cell? _ _ (hHeld.2))).trans (hHeld.2)
       refine ⟨_, rfl, ?_⟩
       have n0_ := Aside0.mk (Kd.R_below (by (with_reducible repeat (first | apply Kd.R_alloc | apply Kd.R_drewN | apply Kd.R_drew)); exact HO169.out) hb)
       have n1_ := Aside0.mk (Kd.R_below (by (with_reducible repeat (first | apply Kd.R_alloc | apply Kd.R_drewN | apply Kd.R_drew)); exact HO172.out) hb)
       have n2_ := Aside0.mk (Kd.R_below (by (with_reducible repeat (first | apply Kd.R_alloc | apply Kd.R_drewN | apply Kd.R_drew)); exact HO175.out) hb)
       have n3_ := Aside0.mk (blk_below (g := gb163) (o := .cells #[.int .i64 0, .int .i64 0, .int .i64 0, .int .i64 0, .int .i64 0] 31 (0, 0)) (by (with_reducible repeat (first | refine blk_drewN ?_ _ | refine blk_drew ?_ | refine blk_alloc ?_ _)); exact BK163.out) hb)
       have n4_ := Aside0.mk (blk_below (g := gb182) (o := .cells #[.int .i64 ji7, .int .i64 t179, .int .i64 0, .int .i64 1, .int .i64 t181] 31 (0, 0)) (by (with_reducible repeat (first | refine blk_drewN ?_ _ | refine blk_drew ?_ | refine blk_alloc ?_ _)); exact BK182.out) hb)
       have n5_ := Aside0.mk (below_step (by repeat (first | (with_reducible first | exact HB.out | apply below_alloc | apply pw_below_drewN | apply below_drew1 | refine below_set ?_ GE163.out | refine below_set ?_ GE182.out) | exact HB.out)) hb)
       clear HO169
       clear HO172
       clear HO175
       clear BK163
       clear BK182
       clear HB
       have HO169 := n0_
       have HO172 := n1_
       have HO175 := n2_
       have BK163 := n3_
       have BK182 := n4_
       have HB := n5_
       clear n0_ n1_ n2_ n3_ n4_ n5_
       (try clear hb)
       (try clear hb2)
       (try clear hk)
       (try clear hi)
       refine hK.out _ _ ⟨HS0_, HS1_⟩ (fun hHeld => ?_)
       clear hK K
       refine norm_ (a' := ?_) ?_ ?_
       rotate_left
       ·show Act.put _ (some 34) _ = _
        simp only [Act.put, List.setIfInBounds_toArray, List.set_cons_zero, List.set_cons_succ, i64_w, i32_w]
        rfl
       refine pure_ (i := 8) (N := some 39) (v := ?_) (a' := ?_) #[true, true, true, true, true, true, true, false, true, false, false, false] rfl rfl (any_of HT_.out (by kernel_rfl)) (fun _ _ _ h => h) (Or.inl ⟨by rfl, ?_⟩) ?_ ?_
       rotate_left
       ·intro w'
        go_simp
        with_reducible rfl
       rotate_left
       ·simp only [Act.put, List.setIfInBounds_toArray, List.set_cons_zero, List.set_cons_succ, i64_w, i32_w]
        rfl
       refine one_ (i := 7) (N := some 38) #[true, true, true, true, true, true, true, true, true, false, false, false] rfl rfl (one_of HT_.out (by kernel_rfl)) (by decide) (fun K hK => ?_)
       refine goes_ Tryd.func29 (by kernel_rfl) rfl #[.string (rdOf ByteArray.empty y170 3)] (by rfl) rfl rfl (by (try simp only [List.map_toArray, List.map_cons, List.map_nil]); first | done | rfl | (simp only [List.length_drop, List.length_take]; rfl)) ?_
       with_reducible refine (tale_small.calls (rdOf ByteArray.empty y170 3) t186 _ A15.out HTT.out (by repeat (first | (with_reducible first | exact HB.out | apply below_alloc | apply pw_below_drewN | apply below_drew1 | refine below_set ?_ GE163.out | refine below_set ?_ GE182.out) | exact HB.out))).mono ?_
       rintro e wz15 ⟨rfl, hb⟩
       have HS0_ := (hb.cell (World.block_lt_of_cell? _ _ (hHeld.1))).trans (hHeld.1)
       have HS1_ := (hb.cell (World.block_lt_of_cell? _ _ (hHeld.2))).trans (hHeld.2)
       refine ⟨_, rfl, ?_⟩
       have n0_ := Aside0.mk (Kd.R_below (by (with_reducible repeat (first | apply Kd.R_alloc | apply Kd.R_drewN | apply Kd.R_drew)); exact HO169.out) hb)
       have n1_ := Aside0.mk (Kd.R_below (by (with_reducible repeat (first | apply Kd.R_alloc | apply Kd.R_drewN | apply Kd.R_drew)); exact HO172.out) hb)
       have n2_ := Aside0.mk (Kd.R_below (by (with_reducible repeat (first | apply Kd.R_alloc | apply Kd.R_drewN | apply Kd.R_drew)); exact HO175.out) hb)
       have n3_ := Aside0.mk (blk_below (g := gb163) (o := .cells #[.int .i64 0, .int .i64 0, .int .i64 0, .int .i64 0, .int .i64 0] 31 (0, 0)) (by (with_reducible repeat (first | refine blk_drewN ?_ _ | refine blk_drew ?_ | refine blk_alloc ?_ _)); exact BK163.out) hb)
       have n4_ := Aside0.mk (blk_below (g := gb182) (o := .cells #[.int .i64 ji7, .int .i64 t179, .int .i64 0, .int .i64 1, .int .i64 t181] 31 (0, 0)) (by (with_reducible repeat (first | refine blk_drewN ?_ _ | refine blk_drew ?_ | refine blk_alloc ?_ _)); exact BK182.out) hb)
       have n5_ := Aside0.mk (below_step (by repeat (first | (with_reducible first | exact HB.out | apply below_alloc | apply pw_below_drewN | apply below_drew1 | refine below_set ?_ GE163.out | refine below_set ?_ GE182.out) | exact HB.out)) hb)
       clear HO169
       clear HO172
       clear HO175
       clear BK163
       clear BK182
       clear HB
       have HO169 := n0_
       have HO172 := n1_
       have HO175 := n2_
       have BK163 := n3_
       have BK182 := n4_
       have HB := n5_
       clear n0_ n1_ n2_ n3_ n4_ n5_
       (try clear hb)
       (try clear hb2)
       (try clear hk)
       (try clear hi)
       refine hK.out _ _ ⟨HS0_, HS1_⟩ (fun hHeld => ?_)
       clear hK K
       refine norm_ (a' := ?_) ?_ ?_
       rotate_left
       ·show Act.put _ (some 38) _ = _
        simp only [Act.put, List.setIfInBounds_toArray, List.set_cons_zero, List.set_cons_succ, i64_w, i32_w]
        rfl
       refine one_ (i := 9) (N := none) #[true, true, true, true, true, true, true, true, true, true, false, false] rfl rfl (one_of HT_.out (by kernel_rfl)) (by decide) (fun K hK => ?_)
       have hsz6 : wz15.cell? ⟨gb182, 2, none⟩ = some (.int .i64 0) := (blk_cell BK182.out 2).trans rfl
       have hfsz6 := blk_frozen BK182.out 2
       have hnsz6_0 := NB163_182.out
       have hmsz6_0 := NB182_163.out
       refine skip_ (w1 := ?_) (by rfl) rfl ?_ ?_
       rotate_left
       ·go_simp
        rfl
       refine hK.out _ _ ⟨((cell_far (p := ⟨gb182, _, none⟩) (by first | exact Kd.own_blk (Kd.R_ne HO172.out BK182.out (by decide)) | (rw [add_block]; exact Kd.own_blk (Kd.R_ne HO172.out BK182.out (by decide))) | (show (Addr.add _ _).block ≠ _; rw [add_block]; exact Kd.own_blk (Kd.R_ne HO172.out BK182.out (by decide))) | (dsimp only; exact Kd.own_blk (Kd.R_ne HO172.out BK182.out (by decide)))) _).trans (hHeld.1)), ((cell_far (p := ⟨gb182, _, none⟩) (by first | exact Kd.own_blk (Kd.R_ne HO172.out BK182.out (by decide)) | (rw [add_block]; exact Kd.own_blk (Kd.R_ne HO172.out BK182.out (by decide))) | (show (Addr.add _ _).block ≠ _; rw [add_block]; exact Kd.own_blk (Kd.R_ne HO172.out BK182.out (by decide))) | (dsimp only; exact Kd.own_blk (Kd.R_ne HO172.out BK182.out (by decide)))) _).trans (hHeld.2))⟩ (fun hHeld => ?_)
       clear hK K
       refine pure_ (i := 10) (N := some 40) (v := ?_) (a' := ?_) #[true, true, true, true, true, true, true, true, true, true, true, false] rfl rfl (any_of HT_.out (by kernel_rfl)) (fun _ _ _ h => h) (Or.inl ⟨by rfl, ?_⟩) ?_ ?_
       rotate_left
       ·intro w'
        go_simp
        with_reducible rfl
       rotate_left
       ·simp only [Act.put, List.setIfInBounds_toArray, List.set_cons_zero, List.set_cons_succ, i64_w, i32_w]
        rfl
       refine one_ (i := 11) (N := none) #[true, true, true, true, true, true, true, true, true, true, true, true] rfl rfl (one_of HT_.out (by kernel_rfl)) (by decide) (fun K hK => ?_)
       have hsz7 : wz15.cell? ⟨gb182, 4, none⟩ = some (.int .i64 t181) := (blk_cell BK182.out 4).trans rfl
       have hfsz7 := blk_frozen BK182.out 4
       have hnsz7_0 := NB163_182.out
       have hmsz7_0 := NB182_163.out
       refine skip_ (w1 := ?_) (by rfl) rfl ?_ ?_
       rotate_left
       ·go_simp
        rfl
       refine hK.out _ _ ⟨((cell_far (p := ⟨gb182, _, none⟩) (by first | exact Kd.own_blk (Kd.R_ne HO172.out BK182.out (by decide)) | (rw [add_block]; exact Kd.own_blk (Kd.R_ne HO172.out BK182.out (by decide))) | (show (Addr.add _ _).block ≠ _; rw [add_block]; exact Kd.own_blk (Kd.R_ne HO172.out BK182.out (by decide))) | (dsimp only; exact Kd.own_blk (Kd.R_ne HO172.out BK182.out (by decide)))) _).trans (hHeld.1)), ((cell_far (p := ⟨gb182, _, none⟩) (by first | exact Kd.own_blk (Kd.R_ne HO172.out BK182.out (by decide)) | (rw [add_block]; exact Kd.own_blk (Kd.R_ne HO172.out BK182.out (by decide))) | (show (Addr.add _ _).block ≠ _; rw [add_block]; exact Kd.own_blk (Kd.R_ne HO172.out BK182.out (by decide))) | (dsimp only; exact Kd.own_blk (Kd.R_ne HO172.out BK182.out (by decide)))) _).trans (hHeld.2))⟩ (fun hHeld => ?_)
       clear hK K
       refine done_ (done_of HT_.out (by kernel_rfl)) ?_
       have H := HH_.out
       clear HH_
       by_cases c17 : t188 = 0
       ·rw [if_pos c17] at H
        have c17b0 : (t188 == 0) = true := beq_iff_eq.mpr c17
        have c17b1 : (t188 != 0) = false := bne_eq_false_iff_eq.mpr c17
        clear c17
        by_cases c18 : t187.toList = a0.toList
        ·rw [if_pos c18] at H
         have c18b0 : (t187.toList == a0.toList) = true := beq_iff_eq.mpr c18
         have c18b1 : (t187.toList != a0.toList) = false := bne_eq_false_iff_eq.mpr c18
         clear c18
         simp only [Option.some.injEq, Prod.mk.injEq] at H
         obtain ⟨rfl, rfl, rfl, rfl, rfl, rfl⟩ := H
         have hczz2_0 : wz15.cell? ⟨gb182, 0, none⟩ = some (.int .i64 ji7) := (blk_cell BK182.out 0).trans rfl
         have hczz2_1 : wz15.cell? ⟨gb182, 1, none⟩ = some (.int .i64 t179) := (blk_cell BK182.out 1).trans rfl
         have hczz2_2 : wz15.cell? ⟨gb182, 2, none⟩ = some (.int .i64 0) := (blk_cell BK182.out 2).trans rfl
         have hczz2_3 : wz15.cell? ⟨gb182, 3, none⟩ = some (.int .i64 1) := (blk_cell BK182.out 3).trans rfl
         have hczz2_4 : wz15.cell? ⟨gb182, 4, none⟩ = some (.int .i64 t181) := (blk_cell BK182.out 4).trans rfl
         have hfzz2_0 := blk_frozen BK182.out 0
         have hfzz2_1 := blk_frozen BK182.out 1
         have hfzz2_2 := blk_frozen BK182.out 2
         have hfzz2_3 := blk_frozen BK182.out 3
         have hfzz2_4 := blk_frozen BK182.out 4
         try go_wp2_with (first | ((with_reducible refine gate_callee (f := 8) rfl ?_); refine goesL_ (some 55) rfl rfl Tryd.func8 (by kernel_rfl) rfl #[.agg #[.int .i64 ji7, .int .i64 t179, .int .i64 t184, .int .i64 1, .int .i64 t186]] rfl (by (try simp only [List.map_toArray, List.map_cons, List.map_nil]); first | done | (simp only [hji7]; rfl) | rfl | (simp only [List.length_drop, List.length_take]; rfl)) ?_; (with_reducible refine (tale_Conf.calls ji7 t179 t184 1 t186 t187 t188 _ A16.out HTT.out (by repeat (first | (with_reducible first | exact HB.out | apply below_alloc | apply pw_below_drewN | apply below_drew1 | refine below_set ?_ GE163.out | refine below_set ?_ GE182.out) | exact HB.out))).mono ?_); rintro e wz16 ⟨rfl, hb⟩; refine ⟨_, rfl, ?_⟩; have n0_ := Aside0.mk (Kd.R_below (by (with_reducible repeat (first | apply Kd.R_alloc | apply Kd.R_drewN | apply Kd.R_drew)); exact (Kd.R_mono (Kd.R_far (p := ⟨gb182, 4, none⟩) (Kd.R_far (p := ⟨gb182, 2, none⟩) (Kd.R_types HO169.out BK182.out (by decide)) (fun _ hk => hk.2) (.int .i64 t184)) (fun _ hk => hk.2) (.int .i64 t186)) (fun _ h_ => h_.1))) hb); have n1_ := Aside0.mk (Kd.R_below (by (with_reducible repeat (first | apply Kd.R_alloc | apply Kd.R_drewN | apply Kd.R_drew)); exact (Kd.R_mono (Kd.R_far (p := ⟨gb182, 4, none⟩) (Kd.R_far (p := ⟨gb182, 2, none⟩) (Kd.R_types HO172.out BK182.out (by decide)) (fun _ hk => hk.2) (.int .i64 t184)) (fun _ hk => hk.2) (.int .i64 t186)) (fun _ h_ => h_.1))) hb); have n2_ := Aside0.mk (Kd.R_below (by (with_reducible repeat (first | apply Kd.R_alloc | apply Kd.R_drewN | apply Kd.R_drew)); exact (Kd.R_mono (Kd.R_far (p := ⟨gb182, 4, none⟩) (Kd.R_far (p := ⟨gb182, 2, none⟩) (Kd.R_types HO175.out BK182.out (by decide)) (fun _ hk => hk.2) (.int .i64 t184)) (fun _ hk => hk.2) (.int .i64 t186)) (fun _ h_ => h_.1))) hb); have n3_ := Aside0.mk (blk_below (g := gb163) (o := .cells #[.int .i64 0, .int .i64 0, .int .i64 0, .int .i64 0, .int .i64 0] 31 (0, 0)) (by (with_reducible repeat (first | refine blk_drewN ?_ _ | refine blk_drew ?_ | refine blk_alloc ?_ _)); refine blk_far ?_ NB163_182.out _; (with_reducible repeat (first | refine blk_drewN ?_ _ | refine blk_drew ?_ | refine blk_alloc ?_ _)); refine blk_far ?_ NB163_182.out _; (with_reducible repeat (first | refine blk_drewN ?_ _ | refine blk_drew ?_ | refine blk_alloc ?_ _)); exact BK163.out) hb); have n4_ := Aside0.mk (blk_below (g := gb182) (o := .cells #[.int .i64 ji7, .int .i64 t179, .int .i64 t184, .int .i64 1, .int .i64 t186] 31 (0, 0)) (by (with_reducible repeat (first | refine blk_drewN ?_ _ | refine blk_drew ?_ | refine blk_alloc ?_ _)); refine blk_put (cs := #[.int .i64 ji7, .int .i64 t179, .int .i64 t184, .int .i64 1, .int .i64 t181]) ?_ 4 _ rfl; (with_reducible repeat (first | refine blk_drewN ?_ _ | refine blk_drew ?_ | refine blk_alloc ?_ _)); refine blk_put (cs := #[.int .i64 ji7, .int .i64 t179, .int .i64 0, .int .i64 1, .int .i64 t181]) ?_ 2 _ rfl; (with_reducible repeat (first | refine blk_drewN ?_ _ | refine blk_drew ?_ | refine blk_alloc ?_ _)); exact BK182.out) hb); have n5_ := Aside0.mk (below_step (by repeat (first | (with_reducible first | exact HB.out | apply below_alloc | apply pw_below_drewN | apply below_drew1 | refine below_set ?_ GE163.out | refine below_set ?_ GE182.out) | exact HB.out)) hb); clear HO169; clear HO172; clear HO175; clear BK163; clear BK182; clear HB; have HO169 := n0_; have HO172 := n1_; have HO175 := n2_; have BK163 := n3_; have BK182 := n4_; have HB := n5_; clear n0_ n1_ n2_ n3_ n4_ n5_; (try clear hb); (try clear hb2); (try clear hk); (try clear hi); have hczz3_0 : wz16.cell? ⟨gb182, 0, none⟩ = some (.int .i64 ji7) := (blk_cell BK182.out 0).trans rfl; have hczz3_1 : wz16.cell? ⟨gb182, 1, none⟩ = some (.int .i64 t179) := (blk_cell BK182.out 1).trans rfl; have hczz3_2 : wz16.cell? ⟨gb182, 2, none⟩ = some (.int .i64 t184) := (blk_cell BK182.out 2).trans rfl; have hczz3_3 : wz16.cell? ⟨gb182, 3, none⟩ = some (.int .i64 1) := (blk_cell BK182.out 3).trans rfl; have hczz3_4 : wz16.cell? ⟨gb182, 4, none⟩ = some (.int .i64 t186) := (blk_cell BK182.out 4).trans rfl; have hfzz3_0 := blk_frozen BK182.out 0; have hfzz3_1 := blk_frozen BK182.out 1; have hfzz3_2 := blk_frozen BK182.out 2; have hfzz3_3 := blk_frozen BK182.out 3; have hfzz3_4 := blk_frozen BK182.out 4; have hczz4_0 : wz16.cell? ⟨gb163, 0, none⟩ = some (.int .i64 0) := (blk_cell BK163.out 0).trans rfl; have hczz4_1 : wz16.cell? ⟨gb163, 1, none⟩ = some (.int .i64 0) := (blk_cell BK163.out 1).trans rfl; have hczz4_2 : wz16.cell? ⟨gb163, 2, none⟩ = some (.int .i64 0) := (blk_cell BK163.out 2).trans rfl; have hczz4_3 : wz16.cell? ⟨gb163, 3, none⟩ = some (.int .i64 0) := (blk_cell BK163.out 3).trans rfl; have hczz4_4 : wz16.cell? ⟨gb163, 4, none⟩ = some (.int .i64 0) := (blk_cell BK163.out 4).trans rfl; have hfzz4_0 := blk_frozen BK163.out 0; have hfzz4_1 := blk_frozen BK163.out 1; have hfzz4_2 := blk_frozen BK163.out 2; have hfzz4_3 := blk_frozen BK163.out 3; have hfzz4_4 := blk_frozen BK163.out 4))
         refine bodyPost_ret (results_ct rfl _ _ gb163 31 #[.int .i64 ji7, .int .i64 t179, .int .i64 t184, .int .i64 1, .int .i64 t186] (0, 0) _ rfl (by (with_reducible repeat (first | refine blk_drewN ?_ _ | refine blk_drew ?_ | refine blk_alloc ?_ _)); refine blk_put (cs := #[.int .i64 ji7, .int .i64 t179, .int .i64 t184, .int .i64 1, .int .i64 0]) ?_ 4 _ rfl; (with_reducible repeat (first | refine blk_drewN ?_ _ | refine blk_drew ?_ | refine blk_alloc ?_ _)); refine blk_put (cs := #[.int .i64 ji7, .int .i64 t179, .int .i64 t184, .int .i64 0, .int .i64 0]) ?_ 3 _ rfl; (with_reducible repeat (first | refine blk_drewN ?_ _ | refine blk_drew ?_ | refine blk_alloc ?_ _)); refine blk_put (cs := #[.int .i64 ji7, .int .i64 t179, .int .i64 0, .int .i64 0, .int .i64 0]) ?_ 2 _ rfl; (with_reducible repeat (first | refine blk_drewN ?_ _ | refine blk_drew ?_ | refine blk_alloc ?_ _)); refine blk_put (cs := #[.int .i64 ji7, .int .i64 0, .int .i64 0, .int .i64 0, .int .i64 0]) ?_ 1 _ rfl; (with_reducible repeat (first | refine blk_drewN ?_ _ | refine blk_drew ?_ | refine blk_alloc ?_ _)); refine blk_put (cs := #[.int .i64 0, .int .i64 0, .int .i64 0, .int .i64 0, .int .i64 0]) ?_ 0 _ rfl; (with_reducible repeat (first | refine blk_drewN ?_ _ | refine blk_drew ?_ | refine blk_alloc ?_ _)); exact BK163.out) Tryd.underlying31 rfl (by kernel_rfl)) rfl ?_
         exact ⟨by first | rfl | (simp [errW_none, errW_some] <;> rfl) | (simp only [← hji7]; first | rfl | (simp [errW_none, errW_some] <;> rfl)) | (simp [*, errW_none, errW_some] <;> rfl), by repeat (first | (with_reducible first | exact HB.out | apply below_alloc | apply pw_below_drewN | apply below_drew1 | refine below_set ?_ GE163.out | refine below_set ?_ GE182.out) | exact HB.out)⟩
        ·rw [if_neg c18] at H
         have c18b0 : (t187.toList == a0.toList) = false := beq_eq_false_iff_ne.mpr c18
         have c18b1 : (t187.toList != a0.toList) = true := bne_iff_ne.mpr c18
         simp only [Option.some.injEq, Prod.mk.injEq] at H
         obtain ⟨rfl, rfl, rfl, rfl, rfl, rfl⟩ := H
         have hczz2_0 : wz15.cell? ⟨gb182, 0, none⟩ = some (.int .i64 ji7) := (blk_cell BK182.out 0).trans rfl
         have hczz2_1 : wz15.cell? ⟨gb182, 1, none⟩ = some (.int .i64 t179) := (blk_cell BK182.out 1).trans rfl
         have hczz2_2 : wz15.cell? ⟨gb182, 2, none⟩ = some (.int .i64 0) := (blk_cell BK182.out 2).trans rfl
         have hczz2_3 : wz15.cell? ⟨gb182, 3, none⟩ = some (.int .i64 1) := (blk_cell BK182.out 3).trans rfl
         have hczz2_4 : wz15.cell? ⟨gb182, 4, none⟩ = some (.int .i64 t181) := (blk_cell BK182.out 4).trans rfl
         have hfzz2_0 := blk_frozen BK182.out 0
         have hfzz2_1 := blk_frozen BK182.out 1
         have hfzz2_2 := blk_frozen BK182.out 2
         have hfzz2_3 := blk_frozen BK182.out 3
         have hfzz2_4 := blk_frozen BK182.out 4
         try go_wp2_with (first | ((with_reducible refine gate_callee (f := 8) rfl ?_); refine goesL_ (some 55) rfl rfl Tryd.func8 (by kernel_rfl) rfl #[.agg #[.int .i64 ji7, .int .i64 t179, .int .i64 t184, .int .i64 1, .int .i64 t186]] rfl (by (try simp only [List.map_toArray, List.map_cons, List.map_nil]); first | done | (simp only [hji7]; rfl) | rfl | (simp only [List.length_drop, List.length_take]; rfl)) ?_; (with_reducible refine (tale_Conf.calls ji7 t179 t184 1 t186 t187 t188 _ A16.out HTT.out (by repeat (first | (with_reducible first | exact HB.out | apply below_alloc | apply pw_below_drewN | apply below_drew1 | refine below_set ?_ GE163.out | refine below_set ?_ GE182.out) | exact HB.out))).mono ?_); rintro e wz16 ⟨rfl, hb⟩; refine ⟨_, rfl, ?_⟩; have n0_ := Aside0.mk (Kd.R_below (by (with_reducible repeat (first | apply Kd.R_alloc | apply Kd.R_drewN | apply Kd.R_drew)); exact (Kd.R_mono (Kd.R_far (p := ⟨gb182, 4, none⟩) (Kd.R_far (p := ⟨gb182, 2, none⟩) (Kd.R_types HO169.out BK182.out (by decide)) (fun _ hk => hk.2) (.int .i64 t184)) (fun _ hk => hk.2) (.int .i64 t186)) (fun _ h_ => h_.1))) hb); have n1_ := Aside0.mk (Kd.R_below (by (with_reducible repeat (first | apply Kd.R_alloc | apply Kd.R_drewN | apply Kd.R_drew)); exact (Kd.R_mono (Kd.R_far (p := ⟨gb182, 4, none⟩) (Kd.R_far (p := ⟨gb182, 2, none⟩) (Kd.R_types HO172.out BK182.out (by decide)) (fun _ hk => hk.2) (.int .i64 t184)) (fun _ hk => hk.2) (.int .i64 t186)) (fun _ h_ => h_.1))) hb); have n2_ := Aside0.mk (Kd.R_below (by (with_reducible repeat (first | apply Kd.R_alloc | apply Kd.R_drewN | apply Kd.R_drew)); exact (Kd.R_mono (Kd.R_far (p := ⟨gb182, 4, none⟩) (Kd.R_far (p := ⟨gb182, 2, none⟩) (Kd.R_types HO175.out BK182.out (by decide)) (fun _ hk => hk.2) (.int .i64 t184)) (fun _ hk => hk.2) (.int .i64 t186)) (fun _ h_ => h_.1))) hb); have n3_ := Aside0.mk (blk_below (g := gb163) (o := .cells #[.int .i64 0, .int .i64 0, .int .i64 0, .int .i64 0, .int .i64 0] 31 (0, 0)) (by (with_reducible repeat (first | refine blk_drewN ?_ _ | refine blk_drew ?_ | refine blk_alloc ?_ _)); refine blk_far ?_ NB163_182.out _; (with_reducible repeat (first | refine blk_drewN ?_ _ | refine blk_drew ?_ | refine blk_alloc ?_ _)); refine blk_far ?_ NB163_182.out _; (with_reducible repeat (first | refine blk_drewN ?_ _ | refine blk_drew ?_ | refine blk_alloc ?_ _)); exact BK163.out) hb); have n4_ := Aside0.mk (blk_below (g := gb182) (o := .cells #[.int .i64 ji7, .int .i64 t179, .int .i64 t184, .int .i64 1, .int .i64 t186] 31 (0, 0)) (by (with_reducible repeat (first | refine blk_drewN ?_ _ | refine blk_drew ?_ | refine blk_alloc ?_ _)); refine blk_put (cs := #[.int .i64 ji7, .int .i64 t179, .int .i64 t184, .int .i64 1, .int .i64 t181]) ?_ 4 _ rfl; (with_reducible repeat (first | refine blk_drewN ?_ _ | refine blk_drew ?_ | refine blk_alloc ?_ _)); refine blk_put (cs := #[.int .i64 ji7, .int .i64 t179, .int .i64 0, .int .i64 1, .int .i64 t181]) ?_ 2 _ rfl; (with_reducible repeat (first | refine blk_drewN ?_ _ | refine blk_drew ?_ | refine blk_alloc ?_ _)); exact BK182.out) hb); have n5_ := Aside0.mk (below_step (by repeat (first | (with_reducible first | exact HB.out | apply below_alloc | apply pw_below_drewN | apply below_drew1 | refine below_set ?_ GE163.out | refine below_set ?_ GE182.out) | exact HB.out)) hb); clear HO169; clear HO172; clear HO175; clear BK163; clear BK182; clear HB; have HO169 := n0_; have HO172 := n1_; have HO175 := n2_; have BK163 := n3_; have BK182 := n4_; have HB := n5_; clear n0_ n1_ n2_ n3_ n4_ n5_; (try clear hb); (try clear hb2); (try clear hk); (try clear hi); have hczz3_0 : wz16.cell? ⟨gb163, 0, none⟩ = some (.int .i64 0) := (blk_cell BK163.out 0).trans rfl; have hczz3_1 : wz16.cell? ⟨gb163, 1, none⟩ = some (.int .i64 0) := (blk_cell BK163.out 1).trans rfl; have hczz3_2 : wz16.cell? ⟨gb163, 2, none⟩ = some (.int .i64 0) := (blk_cell BK163.out 2).trans rfl; have hczz3_3 : wz16.cell? ⟨gb163, 3, none⟩ = some (.int .i64 0) := (blk_cell BK163.out 3).trans rfl; have hczz3_4 : wz16.cell? ⟨gb163, 4, none⟩ = some (.int .i64 0) := (blk_cell BK163.out 4).trans rfl; have hfzz3_0 := blk_frozen BK163.out 0; have hfzz3_1 := blk_frozen BK163.out 1; have hfzz3_2 := blk_frozen BK163.out 2; have hfzz3_3 := blk_frozen BK163.out 3; have hfzz3_4 := blk_frozen BK163.out 4))
         refine bodyPost_ret (results_ct rfl _ _ gb163 31 #[.int .i64 0, .int .i64 0, .int .i64 0, .int .i64 0, .int .i64 0] (0, 0) _ rfl (by (with_reducible repeat (first | refine blk_drewN ?_ _ | refine blk_drew ?_ | refine blk_alloc ?_ _)); refine blk_put (cs := #[.int .i64 0, .int .i64 0, .int .i64 0, .int .i64 0, .int .i64 0]) ?_ 4 _ rfl; (with_reducible repeat (first | refine blk_drewN ?_ _ | refine blk_drew ?_ | refine blk_alloc ?_ _)); refine blk_put (cs := #[.int .i64 0, .int .i64 0, .int .i64 0, .int .i64 0, .int .i64 0]) ?_ 3 _ rfl; (with_reducible repeat (first | refine blk_drewN ?_ _ | refine blk_drew ?_ | refine blk_alloc ?_ _)); refine blk_put (cs := #[.int .i64 0, .int .i64 0, .int .i64 0, .int .i64 0, .int .i64 0]) ?_ 2 _ rfl; (with_reducible repeat (first | refine blk_drewN ?_ _ | refine blk_drew ?_ | refine blk_alloc ?_ _)); refine blk_put (cs := #[.int .i64 0, .int .i64 0, .int .i64 0, .int .i64 0, .int .i64 0]) ?_ 1 _ rfl; (with_reducible repeat (first | refine blk_drewN ?_ _ | refine blk_drew ?_ | refine blk_alloc ?_ _)); refine blk_put (cs := #[.int .i64 0, .int .i64 0, .int .i64 0, .int .i64 0, .int .i64 0]) ?_ 0 _ rfl; (with_reducible repeat (first | refine blk_drewN ?_ _ | refine blk_drew ?_ | refine blk_alloc ?_ _)); exact BK163.out) Tryd.underlying31 rfl (by kernel_rfl)) rfl ?_
         exact ⟨by first | rfl | (simp [errW_none, errW_some] <;> rfl) | (simp only [← hji7]; first | rfl | (simp [errW_none, errW_some] <;> rfl)) | (simp [*, errW_none, errW_some] <;> rfl), by repeat (first | (with_reducible first | exact HB.out | apply below_alloc | apply pw_below_drewN | apply below_drew1 | refine below_set ?_ GE163.out | refine below_set ?_ GE182.out) | exact HB.out)⟩
       ·rw [if_neg c17] at H
        have c17b0 : (t188 == 0) = false := beq_eq_false_iff_ne.mpr c17
        have c17b1 : (t188 != 0) = true := bne_iff_ne.mpr c17
        simp only [Option.some.injEq, Prod.mk.injEq] at H
        obtain ⟨rfl, rfl, rfl, rfl, rfl, rfl⟩ := H
        have hczz2_0 : wz15.cell? ⟨gb182, 0, none⟩ = some (.int .i64 ji7) := (blk_cell BK182.out 0).trans rfl
        have hczz2_1 : wz15.cell? ⟨gb182, 1, none⟩ = some (.int .i64 t179) := (blk_cell BK182.out 1).trans rfl
        have hczz2_2 : wz15.cell? ⟨gb182, 2, none⟩ = some (.int .i64 0) := (blk_cell BK182.out 2).trans rfl
        have hczz2_3 : wz15.cell? ⟨gb182, 3, none⟩ = some (.int .i64 1) := (blk_cell BK182.out 3).trans rfl
        have hczz2_4 : wz15.cell? ⟨gb182, 4, none⟩ = some (.int .i64 t181) := (blk_cell BK182.out 4).trans rfl
        have hfzz2_0 := blk_frozen BK182.out 0
        have hfzz2_1 := blk_frozen BK182.out 1
        have hfzz2_2 := blk_frozen BK182.out 2
        have hfzz2_3 := blk_frozen BK182.out 3
        have hfzz2_4 := blk_frozen BK182.out 4
        try go_wp2_with (first | ((with_reducible refine gate_callee (f := 8) rfl ?_); refine goesL_ (some 55) rfl rfl Tryd.func8 (by kernel_rfl) rfl #[.agg #[.int .i64 ji7, .int .i64 t179, .int .i64 t184, .int .i64 1, .int .i64 t186]] rfl (by (try simp only [List.map_toArray, List.map_cons, List.map_nil]); first | done | (simp only [hji7]; rfl) | rfl | (simp only [List.length_drop, List.length_take]; rfl)) ?_; (with_reducible refine (tale_Conf.calls ji7 t179 t184 1 t186 t187 t188 _ A16.out HTT.out (by repeat (first | (with_reducible first | exact HB.out | apply below_alloc | apply pw_below_drewN | apply below_drew1 | refine below_set ?_ GE163.out | refine below_set ?_ GE182.out) | exact HB.out))).mono ?_); rintro e wz16 ⟨rfl, hb⟩; refine ⟨_, rfl, ?_⟩; have n0_ := Aside0.mk (Kd.R_below (by (with_reducible repeat (first | apply Kd.R_alloc | apply Kd.R_drewN | apply Kd.R_drew)); exact (Kd.R_mono (Kd.R_far (p := ⟨gb182, 4, none⟩) (Kd.R_far (p := ⟨gb182, 2, none⟩) (Kd.R_types HO169.out BK182.out (by decide)) (fun _ hk => hk.2) (.int .i64 t184)) (fun _ hk => hk.2) (.int .i64 t186)) (fun _ h_ => h_.1))) hb); have n1_ := Aside0.mk (Kd.R_below (by (with_reducible repeat (first | apply Kd.R_alloc | apply Kd.R_drewN | apply Kd.R_drew)); exact (Kd.R_mono (Kd.R_far (p := ⟨gb182, 4, none⟩) (Kd.R_far (p := ⟨gb182, 2, none⟩) (Kd.R_types HO172.out BK182.out (by decide)) (fun _ hk => hk.2) (.int .i64 t184)) (fun _ hk => hk.2) (.int .i64 t186)) (fun _ h_ => h_.1))) hb); have n2_ := Aside0.mk (Kd.R_below (by (with_reducible repeat (first | apply Kd.R_alloc | apply Kd.R_drewN | apply Kd.R_drew)); exact (Kd.R_mono (Kd.R_far (p := ⟨gb182, 4, none⟩) (Kd.R_far (p := ⟨gb182, 2, none⟩) (Kd.R_types HO175.out BK182.out (by decide)) (fun _ hk => hk.2) (.int .i64 t184)) (fun _ hk => hk.2) (.int .i64 t186)) (fun _ h_ => h_.1))) hb); have n3_ := Aside0.mk (blk_below (g := gb163) (o := .cells #[.int .i64 0, .int .i64 0, .int .i64 0, .int .i64 0, .int .i64 0] 31 (0, 0)) (by (with_reducible repeat (first | refine blk_drewN ?_ _ | refine blk_drew ?_ | refine blk_alloc ?_ _)); refine blk_far ?_ NB163_182.out _; (with_reducible repeat (first | refine blk_drewN ?_ _ | refine blk_drew ?_ | refine blk_alloc ?_ _)); refine blk_far ?_ NB163_182.out _; (with_reducible repeat (first | refine blk_drewN ?_ _ | refine blk_drew ?_ | refine blk_alloc ?_ _)); exact BK163.out) hb); have n4_ := Aside0.mk (blk_below (g := gb182) (o := .cells #[.int .i64 ji7, .int .i64 t179, .int .i64 t184, .int .i64 1, .int .i64 t186] 31 (0, 0)) (by (with_reducible repeat (first | refine blk_drewN ?_ _ | refine blk_drew ?_ | refine blk_alloc ?_ _)); refine blk_put (cs := #[.int .i64 ji7, .int .i64 t179, .int .i64 t184, .int .i64 1, .int .i64 t181]) ?_ 4 _ rfl; (with_reducible repeat (first | refine blk_drewN ?_ _ | refine blk_drew ?_ | refine blk_alloc ?_ _)); refine blk_put (cs := #[.int .i64 ji7, .int .i64 t179, .int .i64 0, .int .i64 1, .int .i64 t181]) ?_ 2 _ rfl; (with_reducible repeat (first | refine blk_drewN ?_ _ | refine blk_drew ?_ | refine blk_alloc ?_ _)); exact BK182.out) hb); have n5_ := Aside0.mk (below_step (by repeat (first | (with_reducible first | exact HB.out | apply below_alloc | apply pw_below_drewN | apply below_drew1 | refine below_set ?_ GE163.out | refine below_set ?_ GE182.out) | exact HB.out)) hb); clear HO169; clear HO172; clear HO175; clear BK163; clear BK182; clear HB; have HO169 := n0_; have HO172 := n1_; have HO175 := n2_; have BK163 := n3_; have BK182 := n4_; have HB := n5_; clear n0_ n1_ n2_ n3_ n4_ n5_; (try clear hb); (try clear hb2); (try clear hk); (try clear hi); have hczz3_0 : wz16.cell? ⟨gb163, 0, none⟩ = some (.int .i64 0) := (blk_cell BK163.out 0).trans rfl; have hczz3_1 : wz16.cell? ⟨gb163, 1, none⟩ = some (.int .i64 0) := (blk_cell BK163.out 1).trans rfl; have hczz3_2 : wz16.cell? ⟨gb163, 2, none⟩ = some (.int .i64 0) := (blk_cell BK163.out 2).trans rfl; have hczz3_3 : wz16.cell? ⟨gb163, 3, none⟩ = some (.int .i64 0) := (blk_cell BK163.out 3).trans rfl; have hczz3_4 : wz16.cell? ⟨gb163, 4, none⟩ = some (.int .i64 0) := (blk_cell BK163.out 4).trans rfl; have hfzz3_0 := blk_frozen BK163.out 0; have hfzz3_1 := blk_frozen BK163.out 1; have hfzz3_2 := blk_frozen BK163.out 2; have hfzz3_3 := blk_frozen BK163.out 3; have hfzz3_4 := blk_frozen BK163.out 4))
        refine bodyPost_ret (results_ct rfl _ _ gb163 31 #[.int .i64 0, .int .i64 0, .int .i64 0, .int .i64 0, .int .i64 0] (0, 0) _ rfl (by (with_reducible repeat (first | refine blk_drewN ?_ _ | refine blk_drew ?_ | refine blk_alloc ?_ _)); refine blk_put (cs := #[.int .i64 0, .int .i64 0, .int .i64 0, .int .i64 0, .int .i64 0]) ?_ 4 _ rfl; (with_reducible repeat (first | refine blk_drewN ?_ _ | refine blk_drew ?_ | refine blk_alloc ?_ _)); refine blk_put (cs := #[.int .i64 0, .int .i64 0, .int .i64 0, .int .i64 0, .int .i64 0]) ?_ 3 _ rfl; (with_reducible repeat (first | refine blk_drewN ?_ _ | refine blk_drew ?_ | refine blk_alloc ?_ _)); refine blk_put (cs := #[.int .i64 0, .int .i64 0, .int .i64 0, .int .i64 0, .int .i64 0]) ?_ 2 _ rfl; (with_reducible repeat (first | refine blk_drewN ?_ _ | refine blk_drew ?_ | refine blk_alloc ?_ _)); refine blk_put (cs := #[.int .i64 0, .int .i64 0, .int .i64 0, .int .i64 0, .int .i64 0]) ?_ 1 _ rfl; (with_reducible repeat (first | refine blk_drewN ?_ _ | refine blk_drew ?_ | refine blk_alloc ?_ _)); refine blk_put (cs := #[.int .i64 0, .int .i64 0, .int .i64 0, .int .i64 0, .int .i64 0]) ?_ 0 _ rfl; (with_reducible repeat (first | refine blk_drewN ?_ _ | refine blk_drew ?_ | refine blk_alloc ?_ _)); exact BK163.out) Tryd.underlying31 rfl (by kernel_rfl)) rfl ?_
        exact ⟨by first | rfl | (simp [errW_none, errW_some] <;> rfl) | (simp only [← hji7]; first | rfl | (simp [errW_none, errW_some] <;> rfl)) | (simp [*, errW_none, errW_some] <;> rfl), by repeat (first | (with_reducible first | exact HB.out | apply below_alloc | apply pw_below_drewN | apply below_drew1 | refine below_set ?_ GE163.out | refine below_set ?_ GE182.out) | exact HB.out)⟩
      ·rw [if_neg c14] at H
       exact absurd H (by simp)
     ·rw [if_neg c12] at H
      have c12b0 : ((ji7) == 2) = false := beq_eq_false_iff_ne.mpr c12
      have c12b1 : ((ji7) != 2) = true := bne_iff_ne.mpr c12
      by_cases c110 : (ji7) = 3
      ·rw [if_pos c110] at H
       have c110b0 : ((ji7) == 3) = true := beq_iff_eq.mpr c110
       have c110b1 : ((ji7) != 3) = false := bne_eq_false_iff_eq.mpr c110
       clear c110
       replace H := Option.bind_eq_some_iff.mp H
       obtain ⟨t190, A1110, H⟩ := H
       replace H : (if 3 < (y170.length : Int) then ((tale_small.f (rdOf ByteArray.empty y170 3)).bind fun t192 => ((tale_Conf.f (ji7) t179 0 t190 t192).bind fun bt193 => (if bt193.2 = 0 then (if bt193.1.toList = a0.toList then (some (ji7, t179, 0, t190, t192, 0)) else (some (0, 0, 0, 0, 0, 4))) else (some (0, 0, 0, 0, 0, 4))))) else (none)) = some (r1, r2, r3, r4, r5, r6) := H
       have A111 := Aside0.mk A1110
       clear A1110
       by_cases c112 : 3 < (y170.length : Int)
       ·rw [if_pos c112] at H
        have c112b0 : decide (3 < (y170.length : Int)) = true := decide_eq_true c112
        have c112b1 : decide (3 < y170.length) = true := decide_eq_true (by omega)
        clear c112
        replace H := Option.bind_eq_some_iff.mp H
        obtain ⟨t192, A1130, H⟩ := H
        replace H : ((tale_Conf.f (ji7) t179 0 t190 t192).bind fun bt193 => (if bt193.2 = 0 then (if bt193.1.toList = a0.toList then (some (ji7, t179, 0, t190, t192, 0)) else (some (0, 0, 0, 0, 0, 4))) else (some (0, 0, 0, 0, 0, 4)))) = some (r1, r2, r3, r4, r5, r6) := H
        have A113 := Aside0.mk A1130
        clear A1130
        replace H := Option.bind_eq_some_iff.mp H
        obtain ⟨⟨t193, t194⟩, A1140, H⟩ := H
        replace H : (if t194 = 0 then (if t193.toList = a0.toList then (some (ji7, t179, 0, t190, t192, 0)) else (some (0, 0, 0, 0, 0, 4))) else (some (0, 0, 0, 0, 0, 4))) = some (r1, r2, r3, r4, r5, r6) := H
        have A114 := Aside0.mk A1140
        clear A1140
        have HH_ := Aside0.mk H
        clear H
        have hnbz1 := NB182_163.out
        have hncz1 := NB163_182.out
        have hczz1_0 : wz11.cell? ⟨gb182, 0, none⟩ = some (.int .i64 0) := (blk_cell BK182.out 0).trans rfl
        have hczz1_1 : wz11.cell? ⟨gb182, 1, none⟩ = some (.int .i64 0) := (blk_cell BK182.out 1).trans rfl
        have hczz1_2 : wz11.cell? ⟨gb182, 2, none⟩ = some (.int .i64 0) := (blk_cell BK182.out 2).trans rfl
        have hczz1_3 : wz11.cell? ⟨gb182, 3, none⟩ = some (.int .i64 0) := (blk_cell BK182.out 3).trans rfl
        have hczz1_4 : wz11.cell? ⟨gb182, 4, none⟩ = some (.int .i64 0) := (blk_cell BK182.out 4).trans rfl
        have hfzz1_0 := blk_frozen BK182.out 0
        have hfzz1_1 := blk_frozen BK182.out 1
        have hfzz1_2 := blk_frozen BK182.out 2
        have hfzz1_3 := blk_frozen BK182.out 3
        have hfzz1_4 := blk_frozen BK182.out 4
        try go_wp2
        have n0_ : Aside0 (Kd.R Kd.string 9 (((((wz11.setCell ⟨gb182, 0, none⟩ (.int .i64 ji7)).setCell ⟨gb182, 1, none⟩ (.int .i64 t179)).setCell ⟨gb182, 2, none⟩ (.int .i64 0)).setCell ⟨gb182, 3, none⟩ (.int .i64 1)).setCell ⟨gb182, 4, none⟩ (.int .i64 t181)) w.heap.size (fun k_ => some k_ ≠ (.slice (some ad176) y170.length coz2 : Value).ownBlock ∧ some k_ ≠ (v174 : Value).ownBlock) (.slice Aoz1 y167.length coz1) y167) := ⟨by (with_reducible repeat (first | apply Kd.R_alloc | apply Kd.R_drewN | apply Kd.R_drew)); exact Kd.R_mono (Kd.R_far (p := ⟨gb182, 4, none⟩) (Kd.R_far (p := ⟨gb182, 3, none⟩) (Kd.R_far (p := ⟨gb182, 2, none⟩) (Kd.R_far (p := ⟨gb182, 1, none⟩) (Kd.R_far (p := ⟨gb182, 0, none⟩) (Kd.R_types HO169.out BK182.out (by decide)) (fun _ hk => hk.2) (.int .i64 ji7)) (fun _ hk => hk.2) (.int .i64 t179)) (fun _ hk => hk.2) (.int .i64 0)) (fun _ hk => hk.2) (.int .i64 1)) (fun _ hk => hk.2) (.int .i64 t181)) (fun _ hk => ⟨hk.1.1, hk.1.2⟩)⟩
        have n1_ : Aside0 (Kd.R Kd.string 9 (((((wz11.setCell ⟨gb182, 0, none⟩ (.int .i64 ji7)).setCell ⟨gb182, 1, none⟩ (.int .i64 t179)).setCell ⟨gb182, 2, none⟩ (.int .i64 0)).setCell ⟨gb182, 3, none⟩ (.int .i64 1)).setCell ⟨gb182, 4, none⟩ (.int .i64 t181)) w.heap.size (fun k_ => some k_ ≠ (.slice Aoz1 y167.length coz1 : Value).ownBlock ∧ some k_ ≠ (v174 : Value).ownBlock) (.slice (some ad176) y170.length coz2) y170) := ⟨by (with_reducible repeat (first | apply Kd.R_alloc | apply Kd.R_drewN | apply Kd.R_drew)); exact Kd.R_mono (Kd.R_far (p := ⟨gb182, 4, none⟩) (Kd.R_far (p := ⟨gb182, 3, none⟩) (Kd.R_far (p := ⟨gb182, 2, none⟩) (Kd.R_far (p := ⟨gb182, 1, none⟩) (Kd.R_far (p := ⟨gb182, 0, none⟩) (Kd.R_types HO172.out BK182.out (by decide)) (fun _ hk => hk.2) (.int .i64 ji7)) (fun _ hk => hk.2) (.int .i64 t179)) (fun _ hk => hk.2) (.int .i64 0)) (fun _ hk => hk.2) (.int .i64 1)) (fun _ hk => hk.2) (.int .i64 t181)) (fun _ hk => ⟨hk.1.1, hk.1.2⟩)⟩
        have n2_ : Aside0 (Kd.R Kd.string 9 (((((wz11.setCell ⟨gb182, 0, none⟩ (.int .i64 ji7)).setCell ⟨gb182, 1, none⟩ (.int .i64 t179)).setCell ⟨gb182, 2, none⟩ (.int .i64 0)).setCell ⟨gb182, 3, none⟩ (.int .i64 1)).setCell ⟨gb182, 4, none⟩ (.int .i64 t181)) w.heap.size (fun k_ => some k_ ≠ (.slice Aoz1 y167.length coz1 : Value).ownBlock ∧ some k_ ≠ (.slice (some ad176) y170.length coz2 : Value).ownBlock) v174 t173) := ⟨by (with_reducible repeat (first | apply Kd.R_alloc | apply Kd.R_drewN | apply Kd.R_drew)); exact Kd.R_mono (Kd.R_far (p := ⟨gb182, 4, none⟩) (Kd.R_far (p := ⟨gb182, 3, none⟩) (Kd.R_far (p := ⟨gb182, 2, none⟩) (Kd.R_far (p := ⟨gb182, 1, none⟩) (Kd.R_far (p := ⟨gb182, 0, none⟩) (Kd.R_types HO175.out BK182.out (by decide)) (fun _ hk => hk.2) (.int .i64 ji7)) (fun _ hk => hk.2) (.int .i64 t179)) (fun _ hk => hk.2) (.int .i64 0)) (fun _ hk => hk.2) (.int .i64 1)) (fun _ hk => hk.2) (.int .i64 t181)) (fun _ hk => ⟨hk.1.1, hk.1.2⟩)⟩
        have n3_ : Aside0 ((((((wz11.setCell ⟨gb182, 0, none⟩ (.int .i64 ji7)).setCell ⟨gb182, 1, none⟩ (.int .i64 t179)).setCell ⟨gb182, 2, none⟩ (.int .i64 0)).setCell ⟨gb182, 3, none⟩ (.int .i64 1)).setCell ⟨gb182, 4, none⟩ (.int .i64 t181)).heap[gb163]? = some (.cells #[.int .i64 0, .int .i64 0, .int .i64 0, .int .i64 0, .int .i64 0] 31 (0, 0))) := ⟨by (with_reducible repeat (first | refine blk_drewN ?_ _ | refine blk_drew ?_ | refine blk_alloc ?_ _)); refine blk_far ?_ NB163_182.out _; (with_reducible repeat (first | refine blk_drewN ?_ _ | refine blk_drew ?_ | refine blk_alloc ?_ _)); refine blk_far ?_ NB163_182.out _; (with_reducible repeat (first | refine blk_drewN ?_ _ | refine blk_drew ?_ | refine blk_alloc ?_ _)); refine blk_far ?_ NB163_182.out _; (with_reducible repeat (first | refine blk_drewN ?_ _ | refine blk_drew ?_ | refine blk_alloc ?_ _)); refine blk_far ?_ NB163_182.out _; (with_reducible repeat (first | refine blk_drewN ?_ _ | refine blk_drew ?_ | refine blk_alloc ?_ _)); refine blk_far ?_ NB163_182.out _; (with_reducible repeat (first | refine blk_drewN ?_ _ | refine blk_drew ?_ | refine blk_alloc ?_ _)); exact BK163.out⟩
        have n4_ : Aside0 ((((((wz11.setCell ⟨gb182, 0, none⟩ (.int .i64 ji7)).setCell ⟨gb182, 1, none⟩ (.int .i64 t179)).setCell ⟨gb182, 2, none⟩ (.int .i64 0)).setCell ⟨gb182, 3, none⟩ (.int .i64 1)).setCell ⟨gb182, 4, none⟩ (.int .i64 t181)).heap[gb182]? = some (.cells #[.int .i64 ji7, .int .i64 t179, .int .i64 0, .int .i64 1, .int .i64 t181] 31 (0, 0))) := ⟨by (with_reducible repeat (first | refine blk_drewN ?_ _ | refine blk_drew ?_ | refine blk_alloc ?_ _)); refine blk_put (cs := #[.int .i64 ji7, .int .i64 t179, .int .i64 0, .int .i64 1, .int .i64 0]) ?_ 4 _ rfl; (with_reducible repeat (first | refine blk_drewN ?_ _ | refine blk_drew ?_ | refine blk_alloc ?_ _)); refine blk_put (cs := #[.int .i64 ji7, .int .i64 t179, .int .i64 0, .int .i64 0, .int .i64 0]) ?_ 3 _ rfl; (with_reducible repeat (first | refine blk_drewN ?_ _ | refine blk_drew ?_ | refine blk_alloc ?_ _)); refine blk_put (cs := #[.int .i64 ji7, .int .i64 t179, .int .i64 0, .int .i64 0, .int .i64 0]) ?_ 2 _ rfl; (with_reducible repeat (first | refine blk_drewN ?_ _ | refine blk_drew ?_ | refine blk_alloc ?_ _)); refine blk_put (cs := #[.int .i64 ji7, .int .i64 0, .int .i64 0, .int .i64 0, .int .i64 0]) ?_ 1 _ rfl; (with_reducible repeat (first | refine blk_drewN ?_ _ | refine blk_drew ?_ | refine blk_alloc ?_ _)); refine blk_put (cs := #[.int .i64 0, .int .i64 0, .int .i64 0, .int .i64 0, .int .i64 0]) ?_ 0 _ rfl; (with_reducible repeat (first | refine blk_drewN ?_ _ | refine blk_drew ?_ | refine blk_alloc ?_ _)); exact BK182.out⟩
        have n5_ : Aside0 (Below w.heap.size w (((((wz11.setCell ⟨gb182, 0, none⟩ (.int .i64 ji7)).setCell ⟨gb182, 1, none⟩ (.int .i64 t179)).setCell ⟨gb182, 2, none⟩ (.int .i64 0)).setCell ⟨gb182, 3, none⟩ (.int .i64 1)).setCell ⟨gb182, 4, none⟩ (.int .i64 t181))) := ⟨by repeat (first | (with_reducible first | exact HB.out | apply below_alloc | apply pw_below_drewN | apply below_drew1 | refine below_set ?_ GE163.out | refine below_set ?_ GE182.out) | exact HB.out)⟩
        (try clear HO169)
        (try clear HO172)
        (try clear HO175)
        (try clear BK163)
        (try clear BK182)
        (try clear HB)
        generalize (((((wz11.setCell ⟨gb182, 0, none⟩ (.int .i64 ji7)).setCell ⟨gb182, 1, none⟩ (.int .i64 t179)).setCell ⟨gb182, 2, none⟩ (.int .i64 0)).setCell ⟨gb182, 3, none⟩ (.int .i64 1)).setCell ⟨gb182, 4, none⟩ (.int .i64 t181)) = wz12 at n0_ n1_ n2_ n3_ n4_ n5_ ⊢
        have HO169 := n0_
        have HO172 := n1_
        have HO175 := n2_
        have BK163 := n3_
        have BK182 := n4_
        have HB := n5_
        clear n0_ n1_ n2_ n3_ n4_ n5_
        have n0_ := Aside0.mk (Kd.R_drew HO169.out)
        have n1_ := Aside0.mk (Kd.R_drew HO172.out)
        have n2_ := Aside0.mk (Kd.R_drew HO175.out)
        have n3_ := Aside0.mk (blk_drew BK163.out)
        have n4_ := Aside0.mk (blk_drew BK182.out)
        have n5_ := Aside0.mk (below_drew1 HB.out)
        clear HO169
        clear HO172
        clear HO175
        clear BK163
        clear BK182
        clear HB
        have HO169 := n0_
        have HO172 := n1_
        have HO175 := n2_
        have BK163 := n3_
        have BK182 := n4_
        have HB := n5_
        clear n0_ n1_ n2_ n3_ n4_ n5_
        have p189 : 0 ≤ (2 : Int) := (by omega)
        have q189 : 2 < (y170.length : Int) := of_decide_eq_true (by first | (with_reducible assumption) | assumption)
        obtain ⟨ad189, e189, hx189_0⟩ := Kd.at_string (Kd.R_reads' HO172.out).2.2 2 p189 q189
        obtain rfl : ad176 = ad189 := (by injection e189)
        (try simp only [show (2 : Int).toNat = 2 from rfl, Nat.reduceMul, Nat.reduceEqDiff, Go.Addr.add, ↓reduceIte] at hx189_0)
        have qi189 : (2 < y170.length) = True := eq_true (by omega)
        (try rw [show ((2 : Int)).toNat = 2 from rfl] at hx189_0)
        replace p189 := eq_true p189
        replace q189 := eq_true q189
        have p191 : 0 ≤ (3 : Int) := (by omega)
        have q191 : 3 < (y170.length : Int) := of_decide_eq_true (by first | (with_reducible assumption) | assumption)
        obtain ⟨ad191, e191, hx191_0⟩ := Kd.at_string (Kd.R_reads' HO172.out).2.2 3 p191 q191
        obtain rfl : ad176 = ad191 := (by injection e191)
        (try simp only [show (3 : Int).toNat = 3 from rfl, Nat.reduceMul, Nat.reduceEqDiff, Go.Addr.add, ↓reduceIte] at hx191_0)
        have qi191 : (3 < y170.length) = True := eq_true (by omega)
        (try rw [show ((3 : Int)).toNat = 3 from rfl] at hx191_0)
        replace p191 := eq_true p191
        replace q191 := eq_true q191
        refine start_ (n := 12) (S := fun w' => w'.cell? ⟨ad176.block, ad176.off + 2, none⟩ = some (.string (rdOf ByteArray.empty y170 2)) ∧ w'.cell? ⟨ad176.block, ad176.off + 3, none⟩ = some (.string (rdOf ByteArray.empty y170 3))) (ds := []) #[false, false, false, false, false, false, false, false, false, false, false, false] (by kernel_rfl) rfl rfl ⟨hx189_0, hx191_0⟩ (fun hHeld => ?_); refine with_tabW tale_ReadConf.tab7 tale_ReadConf.bits7 (fun HT_ HW_ => ?_)
        generalize wz12.drew = wz13 at HO169 HO172 HO175 BK163 BK182 HB hx189_0 hx191_0 hHeld ⊢
        refine pure_ (i := 0) (N := some 43) (v := ?_) (a' := ?_) #[true, false, false, false, false, false, false, false, false, false, false, false] rfl rfl (any_of HT_.out (by kernel_rfl)) (fun _ _ _ h => h) (Or.inl ⟨by rfl, ?_⟩) ?_ ?_
        rotate_left
        ·intro w'
         go_simp
         with_reducible rfl
        rotate_left
        ·simp only [Act.put, List.setIfInBounds_toArray, List.set_cons_zero, List.set_cons_succ, i64_w, i32_w]
         rfl
        refine pure_ (i := 1) (N := some 44) (v := ?_) (a' := ?_) #[true, true, false, false, false, false, false, false, false, false, false, false] rfl rfl (any_of HT_.out (by kernel_rfl)) (fun _ _ _ h => h) (Or.inl ⟨by rfl, ?_⟩) ?_ ?_
        rotate_left
        ·intro w'
         go_simp
         with_reducible rfl
        rotate_left
        ·simp only [Act.put, List.setIfInBounds_toArray, List.set_cons_zero, List.set_cons_succ, i64_w, i32_w]
         rfl
        refine pure_ (i := 4) (N := some 47) (v := ?_) (a' := ?_) #[true, true, false, false, true, false, false, false, false, false, false, false] rfl rfl (any_of HT_.out (by kernel_rfl)) (fun _ _ _ h => h) (Or.inl ⟨by rfl, ?_⟩) ?_ ?_
        rotate_left
        ·intro w'
         go_simp
         with_reducible rfl
        rotate_left
        ·simp only [Act.put, List.setIfInBounds_toArray, List.set_cons_zero, List.set_cons_succ, i64_w, i32_w]
         rfl
        refine pure_ (i := 5) (N := some 48) (v := ?_) (a' := ?_) #[true, true, false, false, true, true, false, false, false, false, false, false] rfl rfl (any_of HT_.out (by kernel_rfl)) (fun _ _ _ h => h) (Or.inl ⟨by rfl, ?_⟩) ?_ ?_
        rotate_left
        ·intro w'
         go_simp
         with_reducible rfl
        rotate_left
        ·simp only [Act.put, List.setIfInBounds_toArray, List.set_cons_zero, List.set_cons_succ, i64_w, i32_w]
         rfl
        refine take_ (i := 2) (N := some 45) (v := ?_) (a' := ?_) #[true, true, true, false, true, true, false, false, false, false, false, false] rfl rfl (take_ofW HT_.out HW_.out (by kernel_rfl)) (fun _ _ _ h => h) (Or.inl ⟨by rfl, ?_⟩) hHeld ?_ ?_
        rotate_left
        ·rintro w' ⟨s0, s1⟩
         go_simp
         with_reducible rfl
        rotate_left
        ·simp only [Act.put, List.setIfInBounds_toArray, List.set_cons_zero, List.set_cons_succ, i64_w, i32_w]
         rfl
        refine take_ (i := 6) (N := some 49) (v := ?_) (a' := ?_) #[true, true, true, false, true, true, true, false, false, false, false, false] rfl rfl (take_ofW HT_.out HW_.out (by kernel_rfl)) (fun _ _ _ h => h) (Or.inl ⟨by rfl, ?_⟩) hHeld ?_ ?_
        rotate_left
        ·rintro w' ⟨s0, s1⟩
         go_simp
         with_reducible rfl
        rotate_left
        ·simp only [Act.put, List.setIfInBounds_toArray, List.set_cons_zero, List.set_cons_succ, i64_w, i32_w]
         rfl
        refine one_ (i := 3) (N := some 46) #[true, true, true, true, true, true, true, false, false, false, false, false] rfl rfl (one_of HT_.out (by kernel_rfl)) (by decide) (fun K hK => ?_)
        refine goes_ Tryd.func29 (by kernel_rfl) rfl #[.string (rdOf ByteArray.empty y170 2)] (by rfl) rfl rfl (by (try simp only [List.map_toArray, List.map_cons, List.map_nil]); first | done | rfl | (simp only [List.length_drop, List.length_take]; rfl)) ?_
        with_reducible refine (tale_small.calls (rdOf ByteArray.empty y170 2) t190 _ A111.out HTT.out (by repeat (first | (with_reducible first | exact HB.out | apply below_alloc | apply pw_below_drewN | apply below_drew1 | refine below_set ?_ GE163.out | refine below_set ?_ GE182.out) | exact HB.out))).mono ?_
        rintro e wz14 ⟨rfl, hb⟩
        have HS0_ := (hb.cell (World.block_lt_of_cell? _ _ (hHeld.1))).trans (hHeld.1)
        have HS1_ := (hb.cell (World.block_lt_of_cell? _ _ (hHeld.2))).trans (hHeld.2)
        refine ⟨_, rfl, ?_⟩
        have n0_ := Aside0.mk (Kd.R_below (by (with_reducible repeat (first | apply Kd.R_alloc | apply Kd.R_drewN | apply Kd.R_drew)); exact HO169.out) hb)
        have n1_ := Aside0.mk (Kd.R_below (by (with_reducible repeat (first | apply Kd.R_alloc | apply Kd.R_drewN | apply Kd.R_drew)); exact HO172.out) hb)
        have n2_ := Aside0.mk (Kd.R_below (by (with_reducible repeat (first | apply Kd.R_alloc | apply Kd.R_drewN | apply Kd.R_drew)); exact HO175.out) hb)
        have n3_ := Aside0.mk (blk_below (g := gb163) (o := .cells #[.int .i64 0, .int .i64 0, .int .i64 0, .int .i64 0, .int .i64 0] 31 (0, 0)) (by (with_reducible repeat (first | refine blk_drewN ?_ _ | refine blk_drew ?_ | refine blk_alloc ?_ _)); exact BK163.out) hb)
        have n4_ := Aside0.mk (blk_below (g := gb182) (o := .cells #[.int .i64 ji7, .int .i64 t179, .int .i64 0, .int .i64 1, .int .i64 t181] 31 (0, 0)) (by (with_reducible repeat (first | refine blk_drewN ?_ _ | refine blk_drew ?_ | refine blk_alloc ?_ _)); exact BK182.out) hb)
        have n5_ := Aside0.mk (below_step (by repeat (first | (with_reducible first | exact HB.out | apply below_alloc | apply pw_below_drewN | apply below_drew1 | refine below_set ?_ GE163.out | refine below_set ?_ GE182.out) | exact HB.out)) hb)
        clear HO169
        clear HO172
        clear HO175
        clear BK163
        clear BK182
        clear HB
        have HO169 := n0_
        have HO172 := n1_
        have HO175 := n2_
        have BK163 := n3_
        have BK182 := n4_
        have HB := n5_
        clear n0_ n1_ n2_ n3_ n4_ n5_
        (try clear hb)
        (try clear hb2)
        (try clear hk)
        (try clear hi)
        refine hK.out _ _ ⟨HS0_, HS1_⟩ (fun hHeld => ?_)
        clear hK K
        refine norm_ (a' := ?_) ?_ ?_
        rotate_left
        ·show Act.put _ (some 46) _ = _
         simp only [Act.put, List.setIfInBounds_toArray, List.set_cons_zero, List.set_cons_succ, i64_w, i32_w]
         rfl
        refine pure_ (i := 8) (N := some 51) (v := ?_) (a' := ?_) #[true, true, true, true, true, true, true, false, true, false, false, false] rfl rfl (any_of HT_.out (by kernel_rfl)) (fun _ _ _ h => h) (Or.inl ⟨by rfl, ?_⟩) ?_ ?_
        rotate_left
        ·intro w'
         go_simp
         with_reducible rfl
        rotate_left
        ·simp only [Act.put, List.setIfInBounds_toArray, List.set_cons_zero, List.set_cons_succ, i64_w, i32_w]
         rfl
        refine one_ (i := 7) (N := some 50) #[true, true, true, true, true, true, true, true, true, false, false, false] rfl rfl (one_of HT_.out (by kernel_rfl)) (by decide) (fun K hK => ?_)
        refine goes_ Tryd.func29 (by kernel_rfl) rfl #[.string (rdOf ByteArray.empty y170 3)] (by rfl) rfl rfl (by (try simp only [List.map_toArray, List.map_cons, List.map_nil]); first | done | rfl | (simp only [List.length_drop, List.length_take]; rfl)) ?_
        with_reducible refine (tale_small.calls (rdOf ByteArray.empty y170 3) t192 _ A113.out HTT.out (by repeat (first | (with_reducible first | exact HB.out | apply below_alloc | apply pw_below_drewN | apply below_drew1 | refine below_set ?_ GE163.out | refine below_set ?_ GE182.out) | exact HB.out))).mono ?_
        rintro e wz15 ⟨rfl, hb⟩
        have HS0_ := (hb.cell (World.block_lt_of_cell? _ _ (hHeld.1))).trans (hHeld.1)
        have HS1_ := (hb.cell (World.block_lt_of_cell? _ _ (hHeld.2))).trans (hHeld.2)
        refine ⟨_, rfl, ?_⟩
        have n0_ := Aside0.mk (Kd.R_below (by (with_reducible repeat (first | apply Kd.R_alloc | apply Kd.R_drewN | apply Kd.R_drew)); exact HO169.out) hb)
        have n1_ := Aside0.mk (Kd.R_below (by (with_reducible repeat (first | apply Kd.R_alloc | apply Kd.R_drewN | apply Kd.R_drew)); exact HO172.out) hb)
        have n2_ := Aside0.mk (Kd.R_below (by (with_reducible repeat (first | apply Kd.R_alloc | apply Kd.R_drewN | apply Kd.R_drew)); exact HO175.out) hb)
        have n3_ := Aside0.mk (blk_below (g := gb163) (o := .cells #[.int .i64 0, .int .i64 0, .int .i64 0, .int .i64 0, .int .i64 0] 31 (0, 0)) (by (with_reducible repeat (first | refine blk_drewN ?_ _ | refine blk_drew ?_ | refine blk_alloc ?_ _)); exact BK163.out) hb)
        have n4_ := Aside0.mk (blk_below (g := gb182) (o := .cells #[.int .i64 ji7, .int .i64 t179, .int .i64 0, .int .i64 1, .int .i64 t181] 31 (0, 0)) (by (with_reducible repeat (first | refine blk_drewN ?_ _ | refine blk_drew ?_ | refine blk_alloc ?_ _)); exact BK182.out) hb)
        have n5_ := Aside0.mk (below_step (by repeat (first | (with_reducible first | exact HB.out | apply below_alloc | apply pw_below_drewN | apply below_drew1 | refine below_set ?_ GE163.out | refine below_set ?_ GE182.out) | exact HB.out)) hb)
        clear HO169
        clear HO172
        clear HO175
        clear BK163
        clear BK182
        clear HB
        have HO169 := n0_
        have HO172 := n1_
        have HO175 := n2_
        have BK163 := n3_
        have BK182 := n4_
        have HB := n5_
        clear n0_ n1_ n2_ n3_ n4_ n5_
        (try clear hb)
        (try clear hb2)
        (try clear hk)
        (try clear hi)
        refine hK.out _ _ ⟨HS0_, HS1_⟩ (fun hHeld => ?_)
        clear hK K
        refine norm_ (a' := ?_) ?_ ?_
        rotate_left
        ·show Act.put _ (some 50) _ = _
         simp only [Act.put, List.setIfInBounds_toArray, List.set_cons_zero, List.set_cons_succ, i64_w, i32_w]
         rfl
        refine one_ (i := 9) (N := none) #[true, true, true, true, true, true, true, true, true, true, false, false] rfl rfl (one_of HT_.out (by kernel_rfl)) (by decide) (fun K hK => ?_)
        have hsz6 : wz15.cell? ⟨gb182, 3, none⟩ = some (.int .i64 1) := (blk_cell BK182.out 3).trans rfl
        have hfsz6 := blk_frozen BK182.out 3
        have hnsz6_0 := NB163_182.out
        have hmsz6_0 := NB182_163.out
        refine skip_ (w1 := ?_) (by rfl) rfl ?_ ?_
        rotate_left
        ·go_simp
         rfl
        refine hK.out _ _ ⟨((cell_far (p := ⟨gb182, _, none⟩) (by first | exact Kd.own_blk (Kd.R_ne HO172.out BK182.out (by decide)) | (rw [add_block]; exact Kd.own_blk (Kd.R_ne HO172.out BK182.out (by decide))) | (show (Addr.add _ _).block ≠ _; rw [add_block]; exact Kd.own_blk (Kd.R_ne HO172.out BK182.out (by decide))) | (dsimp only; exact Kd.own_blk (Kd.R_ne HO172.out BK182.out (by decide)))) _).trans (hHeld.1)), ((cell_far (p := ⟨gb182, _, none⟩) (by first | exact Kd.own_blk (Kd.R_ne HO172.out BK182.out (by decide)) | (rw [add_block]; exact Kd.own_blk (Kd.R_ne HO172.out BK182.out (by decide))) | (show (Addr.add _ _).block ≠ _; rw [add_block]; exact Kd.own_blk (Kd.R_ne HO172.out BK182.out (by decide))) | (dsimp only; exact Kd.own_blk (Kd.R_ne HO172.out BK182.out (by decide)))) _).trans (hHeld.2))⟩ (fun hHeld => ?_)
        clear hK K
        refine pure_ (i := 10) (N := some 52) (v := ?_) (a' := ?_) #[true, true, true, true, true, true, true, true, true, true, true, false] rfl rfl (any_of HT_.out (by kernel_rfl)) (fun _ _ _ h => h) (Or.inl ⟨by rfl, ?_⟩) ?_ ?_
        rotate_left
        ·intro w'
         go_simp
         with_reducible rfl
        rotate_left
        ·simp only [Act.put, List.setIfInBounds_toArray, List.set_cons_zero, List.set_cons_succ, i64_w, i32_w]
         rfl
        refine one_ (i := 11) (N := none) #[true, true, true, true, true, true, true, true, true, true, true, true] rfl rfl (one_of HT_.out (by kernel_rfl)) (by decide) (fun K hK => ?_)
        have hsz7 : wz15.cell? ⟨gb182, 4, none⟩ = some (.int .i64 t181) := (blk_cell BK182.out 4).trans rfl
        have hfsz7 := blk_frozen BK182.out 4
        have hnsz7_0 := NB163_182.out
        have hmsz7_0 := NB182_163.out
        refine skip_ (w1 := ?_) (by rfl) rfl ?_ ?_
        rotate_left
        ·go_simp
         rfl
        refine hK.out _ _ ⟨((cell_far (p := ⟨gb182, _, none⟩) (by first | exact Kd.own_blk (Kd.R_ne HO172.out BK182.out (by decide)) | (rw [add_block]; exact Kd.own_blk (Kd.R_ne HO172.out BK182.out (by decide))) | (show (Addr.add _ _).block ≠ _; rw [add_block]; exact Kd.own_blk (Kd.R_ne HO172.out BK182.out (by decide))) | (dsimp only; exact Kd.own_blk (Kd.R_ne HO172.out BK182.out (by decide)))) _).trans (hHeld.1)), ((cell_far (p := ⟨gb182, _, none⟩) (by first | exact Kd.own_blk (Kd.R_ne HO172.out BK182.out (by decide)) | (rw [add_block]; exact Kd.own_blk (Kd.R_ne HO172.out BK182.out (by decide))) | (show (Addr.add _ _).block ≠ _; rw [add_block]; exact Kd.own_blk (Kd.R_ne HO172.out BK182.out (by decide))) | (dsimp only; exact Kd.own_blk (Kd.R_ne HO172.out BK182.out (by decide)))) _).trans (hHeld.2))⟩ (fun hHeld => ?_)
        clear hK K
        refine done_ (done_of HT_.out (by kernel_rfl)) ?_
        have H := HH_.out
        clear HH_
        by_cases c115 : t194 = 0
        ·rw [if_pos c115] at H
         have c115b0 : (t194 == 0) = true := beq_iff_eq.mpr c115
         have c115b1 : (t194 != 0) = false := bne_eq_false_iff_eq.mpr c115
         clear c115
         by_cases c116 : t193.toList = a0.toList
         ·rw [if_pos c116] at H
          have c116b0 : (t193.toList == a0.toList) = true := beq_iff_eq.mpr c116
          have c116b1 : (t193.toList != a0.toList) = false := bne_eq_false_iff_eq.mpr c116
          clear c116
          simp only [Option.some.injEq, Prod.mk.injEq] at H
          obtain ⟨rfl, rfl, rfl, rfl, rfl, rfl⟩ := H
          have hczz2_0 : wz15.cell? ⟨gb182, 0, none⟩ = some (.int .i64 ji7) := (blk_cell BK182.out 0).trans rfl
          have hczz2_1 : wz15.cell? ⟨gb182, 1, none⟩ = some (.int .i64 t179) := (blk_cell BK182.out 1).trans rfl
          have hczz2_2 : wz15.cell? ⟨gb182, 2, none⟩ = some (.int .i64 0) := (blk_cell BK182.out 2).trans rfl
          have hczz2_3 : wz15.cell? ⟨gb182, 3, none⟩ = some (.int .i64 1) := (blk_cell BK182.out 3).trans rfl
          have hczz2_4 : wz15.cell? ⟨gb182, 4, none⟩ = some (.int .i64 t181) := (blk_cell BK182.out 4).trans rfl
          have hfzz2_0 := blk_frozen BK182.out 0
          have hfzz2_1 := blk_frozen BK182.out 1
          have hfzz2_2 := blk_frozen BK182.out 2
          have hfzz2_3 := blk_frozen BK182.out 3
          have hfzz2_4 := blk_frozen BK182.out 4
          try go_wp2_with (first | ((with_reducible refine gate_callee (f := 8) rfl ?_); refine goesL_ (some 55) rfl rfl Tryd.func8 (by kernel_rfl) rfl #[.agg #[.int .i64 ji7, .int .i64 t179, .int .i64 0, .int .i64 t190, .int .i64 t192]] rfl (by (try simp only [List.map_toArray, List.map_cons, List.map_nil]); first | done | (simp only [hji7]; rfl) | rfl | (simp only [List.length_drop, List.length_take]; rfl)) ?_; (with_reducible refine (tale_Conf.calls ji7 t179 0 t190 t192 t193 t194 _ A114.out HTT.out (by repeat (first | (with_reducible first | exact HB.out | apply below_alloc | apply pw_below_drewN | apply below_drew1 | refine below_set ?_ GE163.out | refine below_set ?_ GE182.out) | exact HB.out))).mono ?_); rintro e wz16 ⟨rfl, hb⟩; refine ⟨_, rfl, ?_⟩; have n0_ := Aside0.mk (Kd.R_below (by (with_reducible repeat (first | apply Kd.R_alloc | apply Kd.R_drewN | apply Kd.R_drew)); exact (Kd.R_mono (Kd.R_far (p := ⟨gb182, 4, none⟩) (Kd.R_far (p := ⟨gb182, 3, none⟩) (Kd.R_types HO169.out BK182.out (by decide)) (fun _ hk => hk.2) (.int .i64 t190)) (fun _ hk => hk.2) (.int .i64 t192)) (fun _ h_ => h_.1))) hb); have n1_ := Aside0.mk (Kd.R_below (by (with_reducible repeat (first | apply Kd.R_alloc | apply Kd.R_drewN | apply Kd.R_drew)); exact (Kd.R_mono (Kd.R_far (p := ⟨gb182, 4, none⟩) (Kd.R_far (p := ⟨gb182, 3, none⟩) (Kd.R_types HO172.out BK182.out (by decide)) (fun _ hk => hk.2) (.int .i64 t190)) (fun _ hk => hk.2) (.int .i64 t192)) (fun _ h_ => h_.1))) hb); have n2_ := Aside0.mk (Kd.R_below (by (with_reducible repeat (first | apply Kd.R_alloc | apply Kd.R_drewN | apply Kd.R_drew)); exact (Kd.R_mono (Kd.R_far (p := ⟨gb182, 4, none⟩) (Kd.R_far (p := ⟨gb182, 3, none⟩) (Kd.R_types HO175.out BK182.out (by decide)) (fun _ hk => hk.2) (.int .i64 t190)) (fun _ hk => hk.2) (.int .i64 t192)) (fun _ h_ => h_.1))) hb); have n3_ := Aside0.mk (blk_below (g := gb163) (o := .cells #[.int .i64 0, .int .i64 0, .int .i64 0, .int .i64 0, .int .i64 0] 31 (0, 0)) (by (with_reducible repeat (first | refine blk_drewN ?_ _ | refine blk_drew ?_ | refine blk_alloc ?_ _)); refine blk_far ?_ NB163_182.out _; (with_reducible repeat (first | refine blk_drewN ?_ _ | refine blk_drew ?_ | refine blk_alloc ?_ _)); refine blk_far ?_ NB163_182.out _; (with_reducible repeat (first | refine blk_drewN ?_ _ | refine blk_drew ?_ | refine blk_alloc ?_ _)); exact BK163.out) hb); have n4_ := Aside0.mk (blk_below (g := gb182) (o := .cells #[.int .i64 ji7, .int .i64 t179, .int .i64 0, .int .i64 t190, .int .i64 t192] 31 (0, 0)) (by (with_reducible repeat (first | refine blk_drewN ?_ _ | refine blk_drew ?_ | refine blk_alloc ?_ _)); refine blk_put (cs := #[.int .i64 ji7, .int .i64 t179, .int .i64 0, .int .i64 t190, .int .i64 t181]) ?_ 4 _ rfl; (with_reducible repeat (first | refine blk_drewN ?_ _ | refine blk_drew ?_ | refine blk_alloc ?_ _)); refine blk_put (cs := #[.int .i64 ji7, .int .i64 t179, .int .i64 0, .int .i64 1, .int .i64 t181]) ?_ 3 _ rfl; (with_reducible repeat (first | refine blk_drewN ?_ _ | refine blk_drew ?_ | refine blk_alloc ?_ _)); exact BK182.out) hb); have n5_ := Aside0.mk (below_step (by repeat (first | (with_reducible first | exact HB.out | apply below_alloc | apply pw_below_drewN | apply below_drew1 | refine below_set ?_ GE163.out | refine below_set ?_ GE182.out) | exact HB.out)) hb); clear HO169; clear HO172; clear HO175; clear BK163; clear BK182; clear HB; have HO169 := n0_; have HO172 := n1_; have HO175 := n2_; have BK163 := n3_; have BK182 := n4_; have HB := n5_; clear n0_ n1_ n2_ n3_ n4_ n5_; (try clear hb); (try clear hb2); (try clear hk); (try clear hi); have hczz3_0 : wz16.cell? ⟨gb182, 0, none⟩ = some (.int .i64 ji7) := (blk_cell BK182.out 0).trans rfl; have hczz3_1 : wz16.cell? ⟨gb182, 1, none⟩ = some (.int .i64 t179) := (blk_cell BK182.out 1).trans rfl; have hczz3_2 : wz16.cell? ⟨gb182, 2, none⟩ = some (.int .i64 0) := (blk_cell BK182.out 2).trans rfl; have hczz3_3 : wz16.cell? ⟨gb182, 3, none⟩ = some (.int .i64 t190) := (blk_cell BK182.out 3).trans rfl; have hczz3_4 : wz16.cell? ⟨gb182, 4, none⟩ = some (.int .i64 t192) := (blk_cell BK182.out 4).trans rfl; have hfzz3_0 := blk_frozen BK182.out 0; have hfzz3_1 := blk_frozen BK182.out 1; have hfzz3_2 := blk_frozen BK182.out 2; have hfzz3_3 := blk_frozen BK182.out 3; have hfzz3_4 := blk_frozen BK182.out 4; have hczz4_0 : wz16.cell? ⟨gb163, 0, none⟩ = some (.int .i64 0) := (blk_cell BK163.out 0).trans rfl; have hczz4_1 : wz16.cell? ⟨gb163, 1, none⟩ = some (.int .i64 0) := (blk_cell BK163.out 1).trans rfl; have hczz4_2 : wz16.cell? ⟨gb163, 2, none⟩ = some (.int .i64 0) := (blk_cell BK163.out 2).trans rfl; have hczz4_3 : wz16.cell? ⟨gb163, 3, none⟩ = some (.int .i64 0) := (blk_cell BK163.out 3).trans rfl; have hczz4_4 : wz16.cell? ⟨gb163, 4, none⟩ = some (.int .i64 0) := (blk_cell BK163.out 4).trans rfl; have hfzz4_0 := blk_frozen BK163.out 0; have hfzz4_1 := blk_frozen BK163.out 1; have hfzz4_2 := blk_frozen BK163.out 2; have hfzz4_3 := blk_frozen BK163.out 3; have hfzz4_4 := blk_frozen BK163.out 4))
          refine bodyPost_ret (results_ct rfl _ _ gb163 31 #[.int .i64 ji7, .int .i64 t179, .int .i64 0, .int .i64 t190, .int .i64 t192] (0, 0) _ rfl (by (with_reducible repeat (first | refine blk_drewN ?_ _ | refine blk_drew ?_ | refine blk_alloc ?_ _)); refine blk_put (cs := #[.int .i64 ji7, .int .i64 t179, .int .i64 0, .int .i64 t190, .int .i64 0]) ?_ 4 _ rfl; (with_reducible repeat (first | refine blk_drewN ?_ _ | refine blk_drew ?_ | refine blk_alloc ?_ _)); refine blk_put (cs := #[.int .i64 ji7, .int .i64 t179, .int .i64 0, .int .i64 0, .int .i64 0]) ?_ 3 _ rfl; (with_reducible repeat (first | refine blk_drewN ?_ _ | refine blk_drew ?_ | refine blk_alloc ?_ _)); refine blk_put (cs := #[.int .i64 ji7, .int .i64 t179, .int .i64 0, .int .i64 0, .int .i64 0]) ?_ 2 _ rfl; (with_reducible repeat (first | refine blk_drewN ?_ _ | refine blk_drew ?_ | refine blk_alloc ?_ _)); refine blk_put (cs := #[.int .i64 ji7, .int .i64 0, .int .i64 0, .int .i64 0, .int .i64 0]) ?_ 1 _ rfl; (with_reducible repeat (first | refine blk_drewN ?_ _ | refine blk_drew ?_ | refine blk_alloc ?_ _)); refine blk_put (cs := #[.int .i64 0, .int .i64 0, .int .i64 0, .int .i64 0, .int .i64 0]) ?_ 0 _ rfl; (with_reducible repeat (first | refine blk_drewN ?_ _ | refine blk_drew ?_ | refine blk_alloc ?_ _)); exact BK163.out) Tryd.underlying31 rfl (by kernel_rfl)) rfl ?_
          exact ⟨by first | rfl | (simp [errW_none, errW_some] <;> rfl) | (simp only [← hji7]; first | rfl | (simp [errW_none, errW_some] <;> rfl)) | (simp [*, errW_none, errW_some] <;> rfl), by repeat (first | (with_reducible first | exact HB.out | apply below_alloc | apply pw_below_drewN | apply below_drew1 | refine below_set ?_ GE163.out | refine below_set ?_ GE182.out) | exact HB.out)⟩
         ·rw [if_neg c116] at H
          have c116b0 : (t193.toList == a0.toList) = false := beq_eq_false_iff_ne.mpr c116
          have c116b1 : (t193.toList != a0.toList) = true := bne_iff_ne.mpr c116
          simp only [Option.some.injEq, Prod.mk.injEq] at H
          obtain ⟨rfl, rfl, rfl, rfl, rfl, rfl⟩ := H
          have hczz2_0 : wz15.cell? ⟨gb182, 0, none⟩ = some (.int .i64 ji7) := (blk_cell BK182.out 0).trans rfl
          have hczz2_1 : wz15.cell? ⟨gb182, 1, none⟩ = some (.int .i64 t179) := (blk_cell BK182.out 1).trans rfl
          have hczz2_2 : wz15.cell? ⟨gb182, 2, none⟩ = some (.int .i64 0) := (blk_cell BK182.out 2).trans rfl
          have hczz2_3 : wz15.cell? ⟨gb182, 3, none⟩ = some (.int .i64 1) := (blk_cell BK182.out 3).trans rfl
          have hczz2_4 : wz15.cell? ⟨gb182, 4, none⟩ = some (.int .i64 t181) := (blk_cell BK182.out 4).trans rfl
          have hfzz2_0 := blk_frozen BK182.out 0
          have hfzz2_1 := blk_frozen BK182.out 1
          have hfzz2_2 := blk_frozen BK182.out 2
          have hfzz2_3 := blk_frozen BK182.out 3
          have hfzz2_4 := blk_frozen BK182.out 4
          try go_wp2_with (first | ((with_reducible refine gate_callee (f := 8) rfl ?_); refine goesL_ (some 55) rfl rfl Tryd.func8 (by kernel_rfl) rfl #[.agg #[.int .i64 ji7, .int .i64 t179, .int .i64 0, .int .i64 t190, .int .i64 t192]] rfl (by (try simp only [List.map_toArray, List.map_cons, List.map_nil]); first | done | (simp only [hji7]; rfl) | rfl | (simp only [List.length_drop, List.length_take]; rfl)) ?_; (with_reducible refine (tale_Conf.calls ji7 t179 0 t190 t192 t193 t194 _ A114.out HTT.out (by repeat (first | (with_reducible first | exact HB.out | apply below_alloc | apply pw_below_drewN | apply below_drew1 | refine below_set ?_ GE163.out | refine below_set ?_ GE182.out) | exact HB.out))).mono ?_); rintro e wz16 ⟨rfl, hb⟩; refine ⟨_, rfl, ?_⟩; have n0_ := Aside0.mk (Kd.R_below (by (with_reducible repeat (first | apply Kd.R_alloc | apply Kd.R_drewN | apply Kd.R_drew)); exact (Kd.R_mono (Kd.R_far (p := ⟨gb182, 4, none⟩) (Kd.R_far (p := ⟨gb182, 3, none⟩) (Kd.R_types HO169.out BK182.out (by decide)) (fun _ hk => hk.2) (.int .i64 t190)) (fun _ hk => hk.2) (.int .i64 t192)) (fun _ h_ => h_.1))) hb); have n1_ := Aside0.mk (Kd.R_below (by (with_reducible repeat (first | apply Kd.R_alloc | apply Kd.R_drewN | apply Kd.R_drew)); exact (Kd.R_mono (Kd.R_far (p := ⟨gb182, 4, none⟩) (Kd.R_far (p := ⟨gb182, 3, none⟩) (Kd.R_types HO172.out BK182.out (by decide)) (fun _ hk => hk.2) (.int .i64 t190)) (fun _ hk => hk.2) (.int .i64 t192)) (fun _ h_ => h_.1))) hb); have n2_ := Aside0.mk (Kd.R_below (by (with_reducible repeat (first | apply Kd.R_alloc | apply Kd.R_drewN | apply Kd.R_drew)); exact (Kd.R_mono (Kd.R_far (p := ⟨gb182, 4, none⟩) (Kd.R_far (p := ⟨gb182, 3, none⟩) (Kd.R_types HO175.out BK182.out (by decide)) (fun _ hk => hk.2) (.int .i64 t190)) (fun _ hk => hk.2) (.int .i64 t192)) (fun _ h_ => h_.1))) hb); have n3_ := Aside0.mk (blk_below (g := gb163) (o := .cells #[.int .i64 0, .int .i64 0, .int .i64 0, .int .i64 0, .int .i64 0] 31 (0, 0)) (by (with_reducible repeat (first | refine blk_drewN ?_ _ | refine blk_drew ?_ | refine blk_alloc ?_ _)); refine blk_far ?_ NB163_182.out _; (with_reducible repeat (first | refine blk_drewN ?_ _ | refine blk_drew ?_ | refine blk_alloc ?_ _)); refine blk_far ?_ NB163_182.out _; (with_reducible repeat (first | refine blk_drewN ?_ _ | refine blk_drew ?_ | refine blk_alloc ?_ _)); exact BK163.out) hb); have n4_ := Aside0.mk (blk_below (g := gb182) (o := .cells #[.int .i64 ji7, .int .i64 t179, .int .i64 0, .int .i64 t190, .int .i64 t192] 31 (0, 0)) (by (with_reducible repeat (first | refine blk_drewN ?_ _ | refine blk_drew ?_ | refine blk_alloc ?_ _)); refine blk_put (cs := #[.int .i64 ji7, .int .i64 t179, .int .i64 0, .int .i64 t190, .int .i64 t181]) ?_ 4 _ rfl; (with_reducible repeat (first | refine blk_drewN ?_ _ | refine blk_drew ?_ | refine blk_alloc ?_ _)); refine blk_put (cs := #[.int .i64 ji7, .int .i64 t179, .int .i64 0, .int .i64 1, .int .i64 t181]) ?_ 3 _ rfl; (with_reducible repeat (first | refine blk_drewN ?_ _ | refine blk_drew ?_ | refine blk_alloc ?_ _)); exact BK182.out) hb); have n5_ := Aside0.mk (below_step (by repeat (first | (with_reducible first | exact HB.out | apply below_alloc | apply pw_below_drewN | apply below_drew1 | refine below_set ?_ GE163.out | refine below_set ?_ GE182.out) | exact HB.out)) hb); clear HO169; clear HO172; clear HO175; clear BK163; clear BK182; clear HB; have HO169 := n0_; have HO172 := n1_; have HO175 := n2_; have BK163 := n3_; have BK182 := n4_; have HB := n5_; clear n0_ n1_ n2_ n3_ n4_ n5_; (try clear hb); (try clear hb2); (try clear hk); (try clear hi); have hczz3_0 : wz16.cell? ⟨gb163, 0, none⟩ = some (.int .i64 0) := (blk_cell BK163.out 0).trans rfl; have hczz3_1 : wz16.cell? ⟨gb163, 1, none⟩ = some (.int .i64 0) := (blk_cell BK163.out 1).trans rfl; have hczz3_2 : wz16.cell? ⟨gb163, 2, none⟩ = some (.int .i64 0) := (blk_cell BK163.out 2).trans rfl; have hczz3_3 : wz16.cell? ⟨gb163, 3, none⟩ = some (.int .i64 0) := (blk_cell BK163.out 3).trans rfl; have hczz3_4 : wz16.cell? ⟨gb163, 4, none⟩ = some (.int .i64 0) := (blk_cell BK163.out 4).trans rfl; have hfzz3_0 := blk_frozen BK163.out 0; have hfzz3_1 := blk_frozen BK163.out 1; have hfzz3_2 := blk_frozen BK163.out 2; have hfzz3_3 := blk_frozen BK163.out 3; have hfzz3_4 := blk_frozen BK163.out 4))
          refine bodyPost_ret (results_ct rfl _ _ gb163 31 #[.int .i64 0, .int .i64 0, .int .i64 0, .int .i64 0, .int .i64 0] (0, 0) _ rfl (by (with_reducible repeat (first | refine blk_drewN ?_ _ | refine blk_drew ?_ | refine blk_alloc ?_ _)); refine blk_put (cs := #[.int .i64 0, .int .i64 0, .int .i64 0, .int .i64 0, .int .i64 0]) ?_ 4 _ rfl; (with_reducible repeat (first | refine blk_drewN ?_ _ | refine blk_drew ?_ | refine blk_alloc ?_ _)); refine blk_put (cs := #[.int .i64 0, .int .i64 0, .int .i64 0, .int .i64 0, .int .i64 0]) ?_ 3 _ rfl; (with_reducible repeat (first | refine blk_drewN ?_ _ | refine blk_drew ?_ | refine blk_alloc ?_ _)); refine blk_put (cs := #[.int .i64 0, .int .i64 0, .int .i64 0, .int .i64 0, .int .i64 0]) ?_ 2 _ rfl; (with_reducible repeat (first | refine blk_drewN ?_ _ | refine blk_drew ?_ | refine blk_alloc ?_ _)); refine blk_put (cs := #[.int .i64 0, .int .i64 0, .int .i64 0, .int .i64 0, .int .i64 0]) ?_ 1 _ rfl; (with_reducible repeat (first | refine blk_drewN ?_ _ | refine blk_drew ?_ | refine blk_alloc ?_ _)); refine blk_put (cs := #[.int .i64 0, .int .i64 0, .int .i64 0, .int .i64 0, .int .i64 0]) ?_ 0 _ rfl; (with_reducible repeat (first | refine blk_drewN ?_ _ | refine blk_drew ?_ | refine blk_alloc ?_ _)); exact BK163.out) Tryd.underlying31 rfl (by kernel_rfl)) rfl ?_
          exact ⟨by first | rfl | (simp [errW_none, errW_some] <;> rfl) | (simp only [← hji7]; first | rfl | (simp [errW_none, errW_some] <;> rfl)) | (simp [*, errW_none, errW_some] <;> rfl), by repeat (first | (with_reducible first | exact HB.out | apply below_alloc | apply pw_below_drewN | apply below_drew1 | refine below_set ?_ GE163.out | refine below_set ?_ GE182.out) | exact HB.out)⟩
        ·rw [if_neg c115] at H
         have c115b0 : (t194 == 0) = false := beq_eq_false_iff_ne.mpr c115
         have c115b1 : (t194 != 0) = true := bne_iff_ne.mpr c115
         simp only [Option.some.injEq, Prod.mk.injEq] at H
         obtain ⟨rfl, rfl, rfl, rfl, rfl, rfl⟩ := H
         have hczz2_0 : wz15.cell? ⟨gb182, 0, none⟩ = some (.int .i64 ji7) := (blk_cell BK182.out 0).trans rfl
         have hczz2_1 : wz15.cell? ⟨gb182, 1, none⟩ = some (.int .i64 t179) := (blk_cell BK182.out 1).trans rfl
         have hczz2_2 : wz15.cell? ⟨gb182, 2, none⟩ = some (.int .i64 0) := (blk_cell BK182.out 2).trans rfl
         have hczz2_3 : wz15.cell? ⟨gb182, 3, none⟩ = some (.int .i64 1) := (blk_cell BK182.out 3).trans rfl
         have hczz2_4 : wz15.cell? ⟨gb182, 4, none⟩ = some (.int .i64 t181) := (blk_cell BK182.out 4).trans rfl
         have hfzz2_0 := blk_frozen BK182.out 0
         have hfzz2_1 := blk_frozen BK182.out 1
         have hfzz2_2 := blk_frozen BK182.out 2
         have hfzz2_3 := blk_frozen BK182.out 3
         have hfzz2_4 := blk_frozen BK182.out 4
         try go_wp2_with (first | ((with_reducible refine gate_callee (f := 8) rfl ?_); refine goesL_ (some 55) rfl rfl Tryd.func8 (by kernel_rfl) rfl #[.agg #[.int .i64 ji7, .int .i64 t179, .int .i64 0, .int .i64 t190, .int .i64 t192]] rfl (by (try simp only [List.map_toArray, List.map_cons, List.map_nil]); first | done | (simp only [hji7]; rfl) | rfl | (simp only [List.length_drop, List.length_take]; rfl)) ?_; (with_reducible refine (tale_Conf.calls ji7 t179 0 t190 t192 t193 t194 _ A114.out HTT.out (by repeat (first | (with_reducible first | exact HB.out | apply below_alloc | apply pw_below_drewN | apply below_drew1 | refine below_set ?_ GE163.out | refine below_set ?_ GE182.out) | exact HB.out))).mono ?_); rintro e wz16 ⟨rfl, hb⟩; refine ⟨_, rfl, ?_⟩; have n0_ := Aside0.mk (Kd.R_below (by (with_reducible repeat (first | apply Kd.R_alloc | apply Kd.R_drewN | apply Kd.R_drew)); exact (Kd.R_mono (Kd.R_far (p := ⟨gb182, 4, none⟩) (Kd.R_far (p := ⟨gb182, 3, none⟩) (Kd.R_types HO169.out BK182.out (by decide)) (fun _ hk => hk.2) (.int .i64 t190)) (fun _ hk => hk.2) (.int .i64 t192)) (fun _ h_ => h_.1))) hb); have n1_ := Aside0.mk (Kd.R_below (by (with_reducible repeat (first | apply Kd.R_alloc | apply Kd.R_drewN | apply Kd.R_drew)); exact (Kd.R_mono (Kd.R_far (p := ⟨gb182, 4, none⟩) (Kd.R_far (p := ⟨gb182, 3, none⟩) (Kd.R_types HO172.out BK182.out (by decide)) (fun _ hk => hk.2) (.int .i64 t190)) (fun _ hk => hk.2) (.int .i64 t192)) (fun _ h_ => h_.1))) hb); have n2_ := Aside0.mk (Kd.R_below (by (with_reducible repeat (first | apply Kd.R_alloc | apply Kd.R_drewN | apply Kd.R_drew)); exact (Kd.R_mono (Kd.R_far (p := ⟨gb182, 4, none⟩) (Kd.R_far (p := ⟨gb182, 3, none⟩) (Kd.R_types HO175.out BK182.out (by decide)) (fun _ hk => hk.2) (.int .i64 t190)) (fun _ hk => hk.2) (.int .i64 t192)) (fun _ h_ => h_.1))) hb); have n3_ := Aside0.mk (blk_below (g := gb163) (o := .cells #[.int .i64 0, .int .i64 0, .int .i64 0, .int .i64 0, .int .i64 0] 31 (0, 0)) (by (with_reducible repeat (first | refine blk_drewN ?_ _ | refine blk_drew ?_ | refine blk_alloc ?_ _)); refine blk_far ?_ NB163_182.out _; (with_reducible repeat (first | refine blk_drewN ?_ _ | refine blk_drew ?_ | refine blk_alloc ?_ _)); refine blk_far ?_ NB163_182.out _; (with_reducible repeat (first | refine blk_drewN ?_ _ | refine blk_drew ?_ | refine blk_alloc ?_ _)); exact BK163.out) hb); have n4_ := Aside0.mk (blk_below (g := gb182) (o := .cells #[.int .i64 ji7, .int .i64 t179, .int .i64 0, .int .i64 t190, .int .i64 t192] 31 (0, 0)) (by (with_reducible repeat (first | refine blk_drewN ?_ _ | refine blk_drew ?_ | refine blk_alloc ?_ _)); refine blk_put (cs := #[.int .i64 ji7, .int .i64 t179, .int .i64 0, .int .i64 t190, .int .i64 t181]) ?_ 4 _ rfl; (with_reducible repeat (first | refine blk_drewN ?_ _ | refine blk_drew ?_ | refine blk_alloc ?_ _)); refine blk_put (cs := #[.int .i64 ji7, .int .i64 t179, .int .i64 0, .int .i64 1, .int .i64 t181]) ?_ 3 _ rfl; (with_reducible repeat (first | refine blk_drewN ?_ _ | refine blk_drew ?_ | refine blk_alloc ?_ _)); exact BK182.out) hb); have n5_ := Aside0.mk (below_step (by repeat (first | (with_reducible first | exact HB.out | apply below_alloc | apply pw_below_drewN | apply below_drew1 | refine below_set ?_ GE163.out | refine below_set ?_ GE182.out) | exact HB.out)) hb); clear HO169; clear HO172; clear HO175; clear BK163; clear BK182; clear HB; have HO169 := n0_; have HO172 := n1_; have HO175 := n2_; have BK163 := n3_; have BK182 := n4_; have HB := n5_; clear n0_ n1_ n2_ n3_ n4_ n5_; (try clear hb); (try clear hb2); (try clear hk); (try clear hi); have hczz3_0 : wz16.cell? ⟨gb163, 0, none⟩ = some (.int .i64 0) := (blk_cell BK163.out 0).trans rfl; have hczz3_1 : wz16.cell? ⟨gb163, 1, none⟩ = some (.int .i64 0) := (blk_cell BK163.out 1).trans rfl; have hczz3_2 : wz16.cell? ⟨gb163, 2, none⟩ = some (.int .i64 0) := (blk_cell BK163.out 2).trans rfl; have hczz3_3 : wz16.cell? ⟨gb163, 3, none⟩ = some (.int .i64 0) := (blk_cell BK163.out 3).trans rfl; have hczz3_4 : wz16.cell? ⟨gb163, 4, none⟩ = some (.int .i64 0) := (blk_cell BK163.out 4).trans rfl; have hfzz3_0 := blk_frozen BK163.out 0; have hfzz3_1 := blk_frozen BK163.out 1; have hfzz3_2 := blk_frozen BK163.out 2; have hfzz3_3 := blk_frozen BK163.out 3; have hfzz3_4 := blk_frozen BK163.out 4))
         refine bodyPost_ret (results_ct rfl _ _ gb163 31 #[.int .i64 0, .int .i64 0, .int .i64 0, .int .i64 0, .int .i64 0] (0, 0) _ rfl (by (with_reducible repeat (first | refine blk_drewN ?_ _ | refine blk_drew ?_ | refine blk_alloc ?_ _)); refine blk_put (cs := #[.int .i64 0, .int .i64 0, .int .i64 0, .int .i64 0, .int .i64 0]) ?_ 4 _ rfl; (with_reducible repeat (first | refine blk_drewN ?_ _ | refine blk_drew ?_ | refine blk_alloc ?_ _)); refine blk_put (cs := #[.int .i64 0, .int .i64 0, .int .i64 0, .int .i64 0, .int .i64 0]) ?_ 3 _ rfl; (with_reducible repeat (first | refine blk_drewN ?_ _ | refine blk_drew ?_ | refine blk_alloc ?_ _)); refine blk_put (cs := #[.int .i64 0, .int .i64 0, .int .i64 0, .int .i64 0, .int .i64 0]) ?_ 2 _ rfl; (with_reducible repeat (first | refine blk_drewN ?_ _ | refine blk_drew ?_ | refine blk_alloc ?_ _)); refine blk_put (cs := #[.int .i64 0, .int .i64 0, .int .i64 0, .int .i64 0, .int .i64 0]) ?_ 1 _ rfl; (with_reducible repeat (first | refine blk_drewN ?_ _ | refine blk_drew ?_ | refine blk_alloc ?_ _)); refine blk_put (cs := #[.int .i64 0, .int .i64 0, .int .i64 0, .int .i64 0, .int .i64 0]) ?_ 0 _ rfl; (with_reducible repeat (first | refine blk_drewN ?_ _ | refine blk_drew ?_ | refine blk_alloc ?_ _)); exact BK163.out) Tryd.underlying31 rfl (by kernel_rfl)) rfl ?_
         exact ⟨by first | rfl | (simp [errW_none, errW_some] <;> rfl) | (simp only [← hji7]; first | rfl | (simp [errW_none, errW_some] <;> rfl)) | (simp [*, errW_none, errW_some] <;> rfl), by repeat (first | (with_reducible first | exact HB.out | apply below_alloc | apply pw_below_drewN | apply below_drew1 | refine below_set ?_ GE163.out | refine below_set ?_ GE182.out) | exact HB.out)⟩
       ·rw [if_neg c112] at H
        exact absurd H (by simp)
      ·rw [if_neg c110] at H
       have c110b0 : ((ji7) == 3) = false := beq_eq_false_iff_ne.mpr c110
       have c110b1 : ((ji7) != 3) = true := bne_iff_ne.mpr c110
       replace H := Option.bind_eq_some_iff.mp H
       obtain ⟨⟨t195, t196⟩, A2080, H⟩ := H
       replace H : (if t196 = 0 then (if t195.toList = a0.toList then (some (ji7, t179, 0, 1, t181, 0)) else (some (0, 0, 0, 0, 0, 4))) else (some (0, 0, 0, 0, 0, 4))) = some (r1, r2, r3, r4, r5, r6) := H
       have A208 := Aside0.mk A2080
       clear A2080
       by_cases c209 : t196 = 0
       ·rw [if_pos c209] at H
        have c209b0 : (t196 == 0) = true := beq_iff_eq.mpr c209
        have c209b1 : (t196 != 0) = false := bne_eq_false_iff_eq.mpr c209
        clear c209
        by_cases c210 : t195.toList = a0.toList
        ·rw [if_pos c210] at H
         have c210b0 : (t195.toList == a0.toList) = true := beq_iff_eq.mpr c210
         have c210b1 : (t195.toList != a0.toList) = false := bne_eq_false_iff_eq.mpr c210
         clear c210
         simp only [Option.some.injEq, Prod.mk.injEq] at H
         obtain ⟨rfl, rfl, rfl, rfl, rfl, rfl⟩ := H
         have hnbz1 := NB182_163.out
         have hncz1 := NB163_182.out
         have hczz1_0 : wz11.cell? ⟨gb182, 0, none⟩ = some (.int .i64 0) := (blk_cell BK182.out 0).trans rfl
         have hczz1_1 : wz11.cell? ⟨gb182, 1, none⟩ = some (.int .i64 0) := (blk_cell BK182.out 1).trans rfl
         have hczz1_2 : wz11.cell? ⟨gb182, 2, none⟩ = some (.int .i64 0) := (blk_cell BK182.out 2).trans rfl
         have hczz1_3 : wz11.cell? ⟨gb182, 3, none⟩ = some (.int .i64 0) := (blk_cell BK182.out 3).trans rfl
         have hczz1_4 : wz11.cell? ⟨gb182, 4, none⟩ = some (.int .i64 0) := (blk_cell BK182.out 4).trans rfl
         have hfzz1_0 := blk_frozen BK182.out 0
         have hfzz1_1 := blk_frozen BK182.out 1
         have hfzz1_2 := blk_frozen BK182.out 2
         have hfzz1_3 := blk_frozen BK182.out 3
         have hfzz1_4 := blk_frozen BK182.out 4
         try go_wp2_with (first | ((with_reducible refine gate_callee (f := 8) rfl ?_); refine goesL_ (some 55) rfl rfl Tryd.func8 (by kernel_rfl) rfl #[.agg #[.int .i64 ji7, .int .i64 t179, .int .i64 0, .int .i64 1, .int .i64 t181]] rfl (by (try simp only [List.map_toArray, List.map_cons, List.map_nil]); first | done | (simp only [hji7]; rfl) | rfl | (simp only [List.length_drop, List.length_take]; rfl)) ?_; (with_reducible refine (tale_Conf.calls ji7 t179 0 1 t181 t195 t196 _ A208.out HTT.out (by repeat (first | (with_reducible first | exact HB.out | apply below_alloc | apply pw_below_drewN | apply below_drew1 | refine below_set ?_ GE163.out | refine below_set ?_ GE182.out) | exact HB.out))).mono ?_); rintro e wz12 ⟨rfl, hb⟩; refine ⟨_, rfl, ?_⟩; have n0_ := Aside0.mk (Kd.R_below (by (with_reducible repeat (first | apply Kd.R_alloc | apply Kd.R_drewN | apply Kd.R_drew)); exact (Kd.R_mono (Kd.R_far (p := ⟨gb182, 4, none⟩) (Kd.R_far (p := ⟨gb182, 3, none⟩) (Kd.R_far (p := ⟨gb182, 2, none⟩) (Kd.R_far (p := ⟨gb182, 1, none⟩) (Kd.R_far (p := ⟨gb182, 0, none⟩) (Kd.R_types HO169.out BK182.out (by decide)) (fun _ hk => hk.2) (.int .i64 ji7)) (fun _ hk => hk.2) (.int .i64 t179)) (fun _ hk => hk.2) (.int .i64 0)) (fun _ hk => hk.2) (.int .i64 1)) (fun _ hk => hk.2) (.int .i64 t181)) (fun _ h_ => h_.1))) hb); have n1_ := Aside0.mk (Kd.R_below (by (with_reducible repeat (first | apply Kd.R_alloc | apply Kd.R_drewN | apply Kd.R_drew)); exact (Kd.R_mono (Kd.R_far (p := ⟨gb182, 4, none⟩) (Kd.R_far (p := ⟨gb182, 3, none⟩) (Kd.R_far (p := ⟨gb182, 2, none⟩) (Kd.R_far (p := ⟨gb182, 1, none⟩) (Kd.R_far (p := ⟨gb182, 0, none⟩) (Kd.R_types HO172.out BK182.out (by decide)) (fun _ hk => hk.2) (.int .i64 ji7)) (fun _ hk => hk.2) (.int .i64 t179)) (fun _ hk => hk.2) (.int .i64 0)) (fun _ hk => hk.2) (.int .i64 1)) (fun _ hk => hk.2) (.int .i64 t181)) (fun _ h_ => h_.1))) hb); have n2_ := Aside0.mk (Kd.R_below (by (with_reducible repeat (first | apply Kd.R_alloc | apply Kd.R_drewN | apply Kd.R_drew)); exact (Kd.R_mono (Kd.R_far (p := ⟨gb182, 4, none⟩) (Kd.R_far (p := ⟨gb182, 3, none⟩) (Kd.R_far (p := ⟨gb182, 2, none⟩) (Kd.R_far (p := ⟨gb182, 1, none⟩) (Kd.R_far (p := ⟨gb182, 0, none⟩) (Kd.R_types HO175.out BK182.out (by decide)) (fun _ hk => hk.2) (.int .i64 ji7)) (fun _ hk => hk.2) (.int .i64 t179)) (fun _ hk => hk.2) (.int .i64 0)) (fun _ hk => hk.2) (.int .i64 1)) (fun _ hk => hk.2) (.int .i64 t181)) (fun _ h_ => h_.1))) hb); have n3_ := Aside0.mk (blk_below (g := gb163) (o := .cells #[.int .i64 0, .int .i64 0, .int .i64 0, .int .i64 0, .int .i64 0] 31 (0, 0)) (by (with_reducible repeat (first | refine blk_drewN ?_ _ | refine blk_drew ?_ | refine blk_alloc ?_ _)); refine blk_far ?_ NB163_182.out _; (with_reducible repeat (first | refine blk_drewN ?_ _ | refine blk_drew ?_ | refine blk_alloc ?_ _)); refine blk_far ?_ NB163_182.out _; (with_reducible repeat (first | refine blk_drewN ?_ _ | refine blk_drew ?_ | refine blk_alloc ?_ _)); refine blk_far ?_ NB163_182.out _; (with_reducible repeat (first | refine blk_drewN ?_ _ | refine blk_drew ?_ | refine blk_alloc ?_ _)); refine blk_far ?_ NB163_182.out _; (with_reducible repeat (first | refine blk_drewN ?_ _ | refine blk_drew ?_ | refine blk_alloc ?_ _)); refine blk_far ?_ NB163_182.out _; (with_reducible repeat (first | refine blk_drewN ?_ _ | refine blk_drew ?_ | refine blk_alloc ?_ _)); exact BK163.out) hb); have n4_ := Aside0.mk (blk_below (g := gb182) (o := .cells #[.int .i64 ji7, .int .i64 t179, .int .i64 0, .int .i64 1, .int .i64 t181] 31 (0, 0)) (by (with_reducible repeat (first | refine blk_drewN ?_ _ | refine blk_drew ?_ | refine blk_alloc ?_ _)); refine blk_put (cs := #[.int .i64 ji7, .int .i64 t179, .int .i64 0, .int .i64 1, .int .i64 0]) ?_ 4 _ rfl; (with_reducible repeat (first | refine blk_drewN ?_ _ | refine blk_drew ?_ | refine blk_alloc ?_ _)); refine blk_put (cs := #[.int .i64 ji7, .int .i64 t179, .int .i64 0, .int .i64 0, .int .i64 0]) ?_ 3 _ rfl; (with_reducible repeat (first | refine blk_drewN ?_ _ | refine blk_drew ?_ | refine blk_alloc ?_ _)); refine blk_put (cs := #[.int .i64 ji7, .int .i64 t179, .int .i64 0, .int .i64 0, .int .i64 0]) ?_ 2 _ rfl; (with_reducible repeat (first | refine blk_drewN ?_ _ | refine blk_drew ?_ | refine blk_alloc ?_ _)); refine blk_put (cs := #[.int .i64 ji7, .int .i64 0, .int .i64 0, .int .i64 0, .int .i64 0]) ?_ 1 _ rfl; (with_reducible repeat (first | refine blk_drewN ?_ _ | refine blk_drew ?_ | refine blk_alloc ?_ _)); refine blk_put (cs := #[.int .i64 0, .int .i64 0, .int .i64 0, .int .i64 0, .int .i64 0]) ?_ 0 _ rfl; (with_reducible repeat (first | refine blk_drewN ?_ _ | refine blk_drew ?_ | refine blk_alloc ?_ _)); exact BK182.out) hb); have n5_ := Aside0.mk (below_step (by repeat (first | (with_reducible first | exact HB.out | apply below_alloc | apply pw_below_drewN | apply below_drew1 | refine below_set ?_ GE163.out | refine below_set ?_ GE182.out) | exact HB.out)) hb); clear HO169; clear HO172; clear HO175; clear BK163; clear BK182; clear HB; have HO169 := n0_; have HO172 := n1_; have HO175 := n2_; have BK163 := n3_; have BK182 := n4_; have HB := n5_; clear n0_ n1_ n2_ n3_ n4_ n5_; (try clear hb); (try clear hb2); (try clear hk); (try clear hi); have hczz2_0 : wz12.cell? ⟨gb182, 0, none⟩ = some (.int .i64 ji7) := (blk_cell BK182.out 0).trans rfl; have hczz2_1 : wz12.cell? ⟨gb182, 1, none⟩ = some (.int .i64 t179) := (blk_cell BK182.out 1).trans rfl; have hczz2_2 : wz12.cell? ⟨gb182, 2, none⟩ = some (.int .i64 0) := (blk_cell BK182.out 2).trans rfl; have hczz2_3 : wz12.cell? ⟨gb182, 3, none⟩ = some (.int .i64 1) := (blk_cell BK182.out 3).trans rfl; have hczz2_4 : wz12.cell? ⟨gb182, 4, none⟩ = some (.int .i64 t181) := (blk_cell BK182.out 4).trans rfl; have hfzz2_0 := blk_frozen BK182.out 0; have hfzz2_1 := blk_frozen BK182.out 1; have hfzz2_2 := blk_frozen BK182.out 2; have hfzz2_3 := blk_frozen BK182.out 3; have hfzz2_4 := blk_frozen BK182.out 4; have hczz3_0 : wz12.cell? ⟨gb163, 0, none⟩ = some (.int .i64 0) := (blk_cell BK163.out 0).trans rfl; have hczz3_1 : wz12.cell? ⟨gb163, 1, none⟩ = some (.int .i64 0) := (blk_cell BK163.out 1).trans rfl; have hczz3_2 : wz12.cell? ⟨gb163, 2, none⟩ = some (.int .i64 0) := (blk_cell BK163.out 2).trans rfl; have hczz3_3 : wz12.cell? ⟨gb163, 3, none⟩ = some (.int .i64 0) := (blk_cell BK163.out 3).trans rfl; have hczz3_4 : wz12.cell? ⟨gb163, 4, none⟩ = some (.int .i64 0) := (blk_cell BK163.out 4).trans rfl; have hfzz3_0 := blk_frozen BK163.out 0; have hfzz3_1 := blk_frozen BK163.out 1; have hfzz3_2 := blk_frozen BK163.out 2; have hfzz3_3 := blk_frozen BK163.out 3; have hfzz3_4 := blk_frozen BK163.out 4))
         refine bodyPost_ret (results_ct rfl _ _ gb163 31 #[.int .i64 ji7, .int .i64 t179, .int .i64 0, .int .i64 1, .int .i64 t181] (0, 0) _ rfl (by (with_reducible repeat (first | refine blk_drewN ?_ _ | refine blk_drew ?_ | refine blk_alloc ?_ _)); refine blk_put (cs := #[.int .i64 ji7, .int .i64 t179, .int .i64 0, .int .i64 1, .int .i64 0]) ?_ 4 _ rfl; (with_reducible repeat (first | refine blk_drewN ?_ _ | refine blk_drew ?_ | refine blk_alloc ?_ _)); refine blk_put (cs := #[.int .i64 ji7, .int .i64 t179, .int .i64 0, .int .i64 0, .int .i64 0]) ?_ 3 _ rfl; (with_reducible repeat (first | refine blk_drewN ?_ _ | refine blk_drew ?_ | refine blk_alloc ?_ _)); refine blk_put (cs := #[.int .i64 ji7, .int .i64 t179, .int .i64 0, .int .i64 0, .int .i64 0]) ?_ 2 _ rfl; (with_reducible repeat (first | refine blk_drewN ?_ _ | refine blk_drew ?_ | refine blk_alloc ?_ _)); refine blk_put (cs := #[.int .i64 ji7, .int .i64 0, .int .i64 0, .int .i64 0, .int .i64 0]) ?_ 1 _ rfl; (with_reducible repeat (first | refine blk_drewN ?_ _ | refine blk_drew ?_ | refine blk_alloc ?_ _)); refine blk_put (cs := #[.int .i64 0, .int .i64 0, .int .i64 0, .int .i64 0, .int .i64 0]) ?_ 0 _ rfl; (with_reducible repeat (first | refine blk_drewN ?_ _ | refine blk_drew ?_ | refine blk_alloc ?_ _)); exact BK163.out) Tryd.underlying31 rfl (by kernel_rfl)) rfl ?_
         exact ⟨by first | rfl | (simp [errW_none, errW_some] <;> rfl) | (simp only [← hji7]; first | rfl | (simp [errW_none, errW_some] <;> rfl)) | (simp [*, errW_none, errW_some] <;> rfl), by repeat (first | (with_reducible first | exact HB.out | apply below_alloc | apply pw_below_drewN | apply below_drew1 | refine below_set ?_ GE163.out | refine below_set ?_ GE182.out) | exact HB.out)⟩
        ·rw [if_neg c210] at H
         have c210b0 : (t195.toList == a0.toList) = false := beq_eq_false_iff_ne.mpr c210
         have c210b1 : (t195.toList != a0.toList) = true := bne_iff_ne.mpr c210
         simp only [Option.some.injEq, Prod.mk.injEq] at H
         obtain ⟨rfl, rfl, rfl, rfl, rfl, rfl⟩ := H
         have hnbz1 := NB182_163.out
         have hncz1 := NB163_182.out
         have hczz1_0 : wz11.cell? ⟨gb182, 0, none⟩ = some (.int .i64 0) := (blk_cell BK182.out 0).trans rfl
         have hczz1_1 : wz11.cell? ⟨gb182, 1, none⟩ = some (.int .i64 0) := (blk_cell BK182.out 1).trans rfl
         have hczz1_2 : wz11.cell? ⟨gb182, 2, none⟩ = some (.int .i64 0) := (blk_cell BK182.out 2).trans rfl
         have hczz1_3 : wz11.cell? ⟨gb182, 3, none⟩ = some (.int .i64 0) := (blk_cell BK182.out 3).trans rfl
         have hczz1_4 : wz11.cell? ⟨gb182, 4, none⟩ = some (.int .i64 0) := (blk_cell BK182.out 4).trans rfl
         have hfzz1_0 := blk_frozen BK182.out 0
         have hfzz1_1 := blk_frozen BK182.out 1
         have hfzz1_2 := blk_frozen BK182.out 2
         have hfzz1_3 := blk_frozen BK182.out 3
         have hfzz1_4 := blk_frozen BK182.out 4
         try go_wp2_with (first | ((with_reducible refine gate_callee (f := 8) rfl ?_); refine goesL_ (some 55) rfl rfl Tryd.func8 (by kernel_rfl) rfl #[.agg #[.int .i64 ji7, .int .i64 t179, .int .i64 0, .int .i64 1, .int .i64 t181]] rfl (by (try simp only [List.map_toArray, List.map_cons, List.map_nil]); first | done | (simp only [hji7]; rfl) | rfl | (simp only [List.length_drop, List.length_take]; rfl)) ?_; (with_reducible refine (tale_Conf.calls ji7 t179 0 1 t181 t195 t196 _ A208.out HTT.out (by repeat (first | (with_reducible first | exact HB.out | apply below_alloc | apply pw_below_drewN | apply below_drew1 | refine below_set ?_ GE163.out | refine below_set ?_ GE182.out) | exact HB.out))).mono ?_); rintro e wz12 ⟨rfl, hb⟩; refine ⟨_, rfl, ?_⟩; have n0_ := Aside0.mk (Kd.R_below (by (with_reducible repeat (first | apply Kd.R_alloc | apply Kd.R_drewN | apply Kd.R_drew)); exact (Kd.R_mono (Kd.R_far (p := ⟨gb182, 4, none⟩) (Kd.R_far (p := ⟨gb182, 3, none⟩) (Kd.R_far (p := ⟨gb182, 2, none⟩) (Kd.R_far (p := ⟨gb182, 1, none⟩) (Kd.R_far (p := ⟨gb182, 0, none⟩) (Kd.R_types HO169.out BK182.out (by decide)) (fun _ hk => hk.2) (.int .i64 ji7)) (fun _ hk => hk.2) (.int .i64 t179)) (fun _ hk => hk.2) (.int .i64 0)) (fun _ hk => hk.2) (.int .i64 1)) (fun _ hk => hk.2) (.int .i64 t181)) (fun _ h_ => h_.1))) hb); have n1_ := Aside0.mk (Kd.R_below (by (with_reducible repeat (first | apply Kd.R_alloc | apply Kd.R_drewN | apply Kd.R_drew)); exact (Kd.R_mono (Kd.R_far (p := ⟨gb182, 4, none⟩) (Kd.R_far (p := ⟨gb182, 3, none⟩) (Kd.R_far (p := ⟨gb182, 2, none⟩) (Kd.R_far (p := ⟨gb182, 1, none⟩) (Kd.R_far (p := ⟨gb182, 0, none⟩) (Kd.R_types HO172.out BK182.out (by decide)) (fun _ hk => hk.2) (.int .i64 ji7)) (fun _ hk => hk.2) (.int .i64 t179)) (fun _ hk => hk.2) (.int .i64 0)) (fun _ hk => hk.2) (.int .i64 1)) (fun _ hk => hk.2) (.int .i64 t181)) (fun _ h_ => h_.1))) hb); have n2_ := Aside0.mk (Kd.R_below (by (with_reducible repeat (first | apply Kd.R_alloc | apply Kd.R_drewN | apply Kd.R_drew)); exact (Kd.R_mono (Kd.R_far (p := ⟨gb182, 4, none⟩) (Kd.R_far (p := ⟨gb182, 3, none⟩) (Kd.R_far (p := ⟨gb182, 2, none⟩) (Kd.R_far (p := ⟨gb182, 1, none⟩) (Kd.R_far (p := ⟨gb182, 0, none⟩) (Kd.R_types HO175.out BK182.out (by decide)) (fun _ hk => hk.2) (.int .i64 ji7)) (fun _ hk => hk.2) (.int .i64 t179)) (fun _ hk => hk.2) (.int .i64 0)) (fun _ hk => hk.2) (.int .i64 1)) (fun _ hk => hk.2) (.int .i64 t181)) (fun _ h_ => h_.1))) hb); have n3_ := Aside0.mk (blk_below (g := gb163) (o := .cells #[.int .i64 0, .int .i64 0, .int .i64 0, .int .i64 0, .int .i64 0] 31 (0, 0)) (by (with_reducible repeat (first | refine blk_drewN ?_ _ | refine blk_drew ?_ | refine blk_alloc ?_ _)); refine blk_far ?_ NB163_182.out _; (with_reducible repeat (first | refine blk_drewN ?_ _ | refine blk_drew ?_ | refine blk_alloc ?_ _)); refine blk_far ?_ NB163_182.out _; (with_reducible repeat (first | refine blk_drewN ?_ _ | refine blk_drew ?_ | refine blk_alloc ?_ _)); refine blk_far ?_ NB163_182.out _; (with_reducible repeat (first | refine blk_drewN ?_ _ | refine blk_drew ?_ | refine blk_alloc ?_ _)); refine blk_far ?_ NB163_182.out _; (with_reducible repeat (first | refine blk_drewN ?_ _ | refine blk_drew ?_ | refine blk_alloc ?_ _)); refine blk_far ?_ NB163_182.out _; (with_reducible repeat (first | refine blk_drewN ?_ _ | refine blk_drew ?_ | refine blk_alloc ?_ _)); exact BK163.out) hb); have n4_ := Aside0.mk (blk_below (g := gb182) (o := .cells #[.int .i64 ji7, .int .i64 t179, .int .i64 0, .int .i64 1, .int .i64 t181] 31 (0, 0)) (by (with_reducible repeat (first | refine blk_drewN ?_ _ | refine blk_drew ?_ | refine blk_alloc ?_ _)); refine blk_put (cs := #[.int .i64 ji7, .int .i64 t179, .int .i64 0, .int .i64 1, .int .i64 0]) ?_ 4 _ rfl; (with_reducible repeat (first | refine blk_drewN ?_ _ | refine blk_drew ?_ | refine blk_alloc ?_ _)); refine blk_put (cs := #[.int .i64 ji7, .int .i64 t179, .int .i64 0, .int .i64 0, .int .i64 0]) ?_ 3 _ rfl; (with_reducible repeat (first | refine blk_drewN ?_ _ | refine blk_drew ?_ | refine blk_alloc ?_ _)); refine blk_put (cs := #[.int .i64 ji7, .int .i64 t179, .int .i64 0, .int .i64 0, .int .i64 0]) ?_ 2 _ rfl; (with_reducible repeat (first | refine blk_drewN ?_ _ | refine blk_drew ?_ | refine blk_alloc ?_ _)); refine blk_put (cs := #[.int .i64 ji7, .int .i64 0, .int .i64 0, .int .i64 0, .int .i64 0]) ?_ 1 _ rfl; (with_reducible repeat (first | refine blk_drewN ?_ _ | refine blk_drew ?_ | refine blk_alloc ?_ _)); refine blk_put (cs := #[.int .i64 0, .int .i64 0, .int .i64 0, .int .i64 0, .int .i64 0]) ?_ 0 _ rfl; (with_reducible repeat (first | refine blk_drewN ?_ _ | refine blk_drew ?_ | refine blk_alloc ?_ _)); exact BK182.out) hb); have n5_ := Aside0.mk (below_step (by repeat (first | (with_reducible first | exact HB.out | apply below_alloc | apply pw_below_drewN | apply below_drew1 | refine below_set ?_ GE163.out | refine below_set ?_ GE182.out) | exact HB.out)) hb); clear HO169; clear HO172; clear HO175; clear BK163; clear BK182; clear HB; have HO169 := n0_; have HO172 := n1_; have HO175 := n2_; have BK163 := n3_; have BK182 := n4_; have HB := n5_; clear n0_ n1_ n2_ n3_ n4_ n5_; (try clear hb); (try clear hb2); (try clear hk); (try clear hi); have hczz2_0 : wz12.cell? ⟨gb163, 0, none⟩ = some (.int .i64 0) := (blk_cell BK163.out 0).trans rfl; have hczz2_1 : wz12.cell? ⟨gb163, 1, none⟩ = some (.int .i64 0) := (blk_cell BK163.out 1).trans rfl; have hczz2_2 : wz12.cell? ⟨gb163, 2, none⟩ = some (.int .i64 0) := (blk_cell BK163.out 2).trans rfl; have hczz2_3 : wz12.cell? ⟨gb163, 3, none⟩ = some (.int .i64 0) := (blk_cell BK163.out 3).trans rfl; have hczz2_4 : wz12.cell? ⟨gb163, 4, none⟩ = some (.int .i64 0) := (blk_cell BK163.out 4).trans rfl; have hfzz2_0 := blk_frozen BK163.out 0; have hfzz2_1 := blk_frozen BK163.out 1; have hfzz2_2 := blk_frozen BK163.out 2; have hfzz2_3 := blk_frozen BK163.out 3; have hfzz2_4 := blk_frozen BK163.out 4))
         refine bodyPost_ret (results_ct rfl _ _ gb163 31 #[.int .i64 0, .int .i64 0, .int .i64 0, .int .i64 0, .int .i64 0] (0, 0) _ rfl (by (with_reducible repeat (first | refine blk_drewN ?_ _ | refine blk_drew ?_ | refine blk_alloc ?_ _)); refine blk_put (cs := #[.int .i64 0, .int .i64 0, .int .i64 0, .int .i64 0, .int .i64 0]) ?_ 4 _ rfl; (with_reducible repeat (first | refine blk_drewN ?_ _ | refine blk_drew ?_ | refine blk_alloc ?_ _)); refine blk_put (cs := #[.int .i64 0, .int .i64 0, .int .i64 0, .int .i64 0, .int .i64 0]) ?_ 3 _ rfl; (with_reducible repeat (first | refine blk_drewN ?_ _ | refine blk_drew ?_ | refine blk_alloc ?_ _)); refine blk_put (cs := #[.int .i64 0, .int .i64 0, .int .i64 0, .int .i64 0, .int .i64 0]) ?_ 2 _ rfl; (with_reducible repeat (first | refine blk_drewN ?_ _ | refine blk_drew ?_ | refine blk_alloc ?_ _)); refine blk_put (cs := #[.int .i64 0, .int .i64 0, .int .i64 0, .int .i64 0, .int .i64 0]) ?_ 1 _ rfl; (with_reducible repeat (first | refine blk_drewN ?_ _ | refine blk_drew ?_ | refine blk_alloc ?_ _)); refine blk_put (cs := #[.int .i64 0, .int .i64 0, .int .i64 0, .int .i64 0, .int .i64 0]) ?_ 0 _ rfl; (with_reducible repeat (first | refine blk_drewN ?_ _ | refine blk_drew ?_ | refine blk_alloc ?_ _)); exact BK163.out) Tryd.underlying31 rfl (by kernel_rfl)) rfl ?_
         exact ⟨by first | rfl | (simp [errW_none, errW_some] <;> rfl) | (simp only [← hji7]; first | rfl | (simp [errW_none, errW_some] <;> rfl)) | (simp [*, errW_none, errW_some] <;> rfl), by repeat (first | (with_reducible first | exact HB.out | apply below_alloc | apply pw_below_drewN | apply below_drew1 | refine below_set ?_ GE163.out | refine below_set ?_ GE182.out) | exact HB.out)⟩
       ·rw [if_neg c209] at H
        have c209b0 : (t196 == 0) = false := beq_eq_false_iff_ne.mpr c209
        have c209b1 : (t196 != 0) = true := bne_iff_ne.mpr c209
        simp only [Option.some.injEq, Prod.mk.injEq] at H
        obtain ⟨rfl, rfl, rfl, rfl, rfl, rfl⟩ := H
        have hnbz1 := NB182_163.out
        have hncz1 := NB163_182.out
        have hczz1_0 : wz11.cell? ⟨gb182, 0, none⟩ = some (.int .i64 0) := (blk_cell BK182.out 0).trans rfl
        have hczz1_1 : wz11.cell? ⟨gb182, 1, none⟩ = some (.int .i64 0) := (blk_cell BK182.out 1).trans rfl
        have hczz1_2 : wz11.cell? ⟨gb182, 2, none⟩ = some (.int .i64 0) := (blk_cell BK182.out 2).trans rfl
        have hczz1_3 : wz11.cell? ⟨gb182, 3, none⟩ = some (.int .i64 0) := (blk_cell BK182.out 3).trans rfl
        have hczz1_4 : wz11.cell? ⟨gb182, 4, none⟩ = some (.int .i64 0) := (blk_cell BK182.out 4).trans rfl
        have hfzz1_0 := blk_frozen BK182.out 0
        have hfzz1_1 := blk_frozen BK182.out 1
        have hfzz1_2 := blk_frozen BK182.out 2
        have hfzz1_3 := blk_frozen BK182.out 3
        have hfzz1_4 := blk_frozen BK182.out 4
        try go_wp2_with (first | ((with_reducible refine gate_callee (f := 8) rfl ?_); refine goesL_ (some 55) rfl rfl Tryd.func8 (by kernel_rfl) rfl #[.agg #[.int .i64 ji7, .int .i64 t179, .int .i64 0, .int .i64 1, .int .i64 t181]] rfl (by (try simp only [List.map_toArray, List.map_cons, List.map_nil]); first | done | (simp only [hji7]; rfl) | rfl | (simp only [List.length_drop, List.length_take]; rfl)) ?_; (with_reducible refine (tale_Conf.calls ji7 t179 0 1 t181 t195 t196 _ A208.out HTT.out (by repeat (first | (with_reducible first | exact HB.out | apply below_alloc | apply pw_below_drewN | apply below_drew1 | refine below_set ?_ GE163.out | refine below_set ?_ GE182.out) | exact HB.out))).mono ?_); rintro e wz12 ⟨rfl, hb⟩; refine ⟨_, rfl, ?_⟩; have n0_ := Aside0.mk (Kd.R_below (by (with_reducible repeat (first | apply Kd.R_alloc | apply Kd.R_drewN | apply Kd.R_drew)); exact (Kd.R_mono (Kd.R_far (p := ⟨gb182, 4, none⟩) (Kd.R_far (p := ⟨gb182, 3, none⟩) (Kd.R_far (p := ⟨gb182, 2, none⟩) (Kd.R_far (p := ⟨gb182, 1, none⟩) (Kd.R_far (p := ⟨gb182, 0, none⟩) (Kd.R_types HO169.out BK182.out (by decide)) (fun _ hk => hk.2) (.int .i64 ji7)) (fun _ hk => hk.2) (.int .i64 t179)) (fun _ hk => hk.2) (.int .i64 0)) (fun _ hk => hk.2) (.int .i64 1)) (fun _ hk => hk.2) (.int .i64 t181)) (fun _ h_ => h_.1))) hb); have n1_ := Aside0.mk (Kd.R_below (by (with_reducible repeat (first | apply Kd.R_alloc | apply Kd.R_drewN | apply Kd.R_drew)); exact (Kd.R_mono (Kd.R_far (p := ⟨gb182, 4, none⟩) (Kd.R_far (p := ⟨gb182, 3, none⟩) (Kd.R_far (p := ⟨gb182, 2, none⟩) (Kd.R_far (p := ⟨gb182, 1, none⟩) (Kd.R_far (p := ⟨gb182, 0, none⟩) (Kd.R_types HO172.out BK182.out (by decide)) (fun _ hk => hk.2) (.int .i64 ji7)) (fun _ hk => hk.2) (.int .i64 t179)) (fun _ hk => hk.2) (.int .i64 0)) (fun _ hk => hk.2) (.int .i64 1)) (fun _ hk => hk.2) (.int .i64 t181)) (fun _ h_ => h_.1))) hb); have n2_ := Aside0.mk (Kd.R_below (by (with_reducible repeat (first | apply Kd.R_alloc | apply Kd.R_drewN | apply Kd.R_drew)); exact (Kd.R_mono (Kd.R_far (p := ⟨gb182, 4, none⟩) (Kd.R_far (p := ⟨gb182, 3, none⟩) (Kd.R_far (p := ⟨gb182, 2, none⟩) (Kd.R_far (p := ⟨gb182, 1, none⟩) (Kd.R_far (p := ⟨gb182, 0, none⟩) (Kd.R_types HO175.out BK182.out (by decide)) (fun _ hk => hk.2) (.int .i64 ji7)) (fun _ hk => hk.2) (.int .i64 t179)) (fun _ hk => hk.2) (.int .i64 0)) (fun _ hk => hk.2) (.int .i64 1)) (fun _ hk => hk.2) (.int .i64 t181)) (fun _ h_ => h_.1))) hb); have n3_ := Aside0.mk (blk_below (g := gb163) (o := .cells #[.int .i64 0, .int .i64 0, .int .i64 0, .int .i64 0, .int .i64 0] 31 (0, 0)) (by (with_reducible repeat (first | refine blk_drewN ?_ _ | refine blk_drew ?_ | refine blk_alloc ?_ _)); refine blk_far ?_ NB163_182.out _; (with_reducible repeat (first | refine blk_drewN ?_ _ | refine blk_drew ?_ | refine blk_alloc ?_ _)); refine blk_far ?_ NB163_182.out _; (with_reducible repeat (first | refine blk_drewN ?_ _ | refine blk_drew ?_ | refine blk_alloc ?_ _)); refine blk_far ?_ NB163_182.out _; (with_reducible repeat (first | refine blk_drewN ?_ _ | refine blk_drew ?_ | refine blk_alloc ?_ _)); refine blk_far ?_ NB163_182.out _; (with_reducible repeat (first | refine blk_drewN ?_ _ | refine blk_drew ?_ | refine blk_alloc ?_ _)); refine blk_far ?_ NB163_182.out _; (with_reducible repeat (first | refine blk_drewN ?_ _ | refine blk_drew ?_ | refine blk_alloc ?_ _)); exact BK163.out) hb); have n4_ := Aside0.mk (blk_below (g := gb182) (o := .cells #[.int .i64 ji7, .int .i64 t179, .int .i64 0, .int .i64 1, .int .i64 t181] 31 (0, 0)) (by (with_reducible repeat (first | refine blk_drewN ?_ _ | refine blk_drew ?_ | refine blk_alloc ?_ _)); refine blk_put (cs := #[.int .i64 ji7, .int .i64 t179, .int .i64 0, .int .i64 1, .int .i64 0]) ?_ 4 _ rfl; (with_reducible repeat (first | refine blk_drewN ?_ _ | refine blk_drew ?_ | refine blk_alloc ?_ _)); refine blk_put (cs := #[.int .i64 ji7, .int .i64 t179, .int .i64 0, .int .i64 0, .int .i64 0]) ?_ 3 _ rfl; (with_reducible repeat (first | refine blk_drewN ?_ _ | refine blk_drew ?_ | refine blk_alloc ?_ _)); refine blk_put (cs := #[.int .i64 ji7, .int .i64 t179, .int .i64 0, .int .i64 0, .int .i64 0]) ?_ 2 _ rfl; (with_reducible repeat (first | refine blk_drewN ?_ _ | refine blk_drew ?_ | refine blk_alloc ?_ _)); refine blk_put (cs := #[.int .i64 ji7, .int .i64 0, .int .i64 0, .int .i64 0, .int .i64 0]) ?_ 1 _ rfl; (with_reducible repeat (first | refine blk_drewN ?_ _ | refine blk_drew ?_ | refine blk_alloc ?_ _)); refine blk_put (cs := #[.int .i64 0, .int .i64 0, .int .i64 0, .int .i64 0, .int .i64 0]) ?_ 0 _ rfl; (with_reducible repeat (first | refine blk_drewN ?_ _ | refine blk_drew ?_ | refine blk_alloc ?_ _)); exact BK182.out) hb); have n5_ := Aside0.mk (below_step (by repeat (first | (with_reducible first | exact HB.out | apply below_alloc | apply pw_below_drewN | apply below_drew1 | refine below_set ?_ GE163.out | refine below_set ?_ GE182.out) | exact HB.out)) hb); clear HO169; clear HO172; clear HO175; clear BK163; clear BK182; clear HB; have HO169 := n0_; have HO172 := n1_; have HO175 := n2_; have BK163 := n3_; have BK182 := n4_; have HB := n5_; clear n0_ n1_ n2_ n3_ n4_ n5_; (try clear hb); (try clear hb2); (try clear hk); (try clear hi); have hczz2_0 : wz12.cell? ⟨gb163, 0, none⟩ = some (.int .i64 0) := (blk_cell BK163.out 0).trans rfl; have hczz2_1 : wz12.cell? ⟨gb163, 1, none⟩ = some (.int .i64 0) := (blk_cell BK163.out 1).trans rfl; have hczz2_2 : wz12.cell? ⟨gb163, 2, none⟩ = some (.int .i64 0) := (blk_cell BK163.out 2).trans rfl; have hczz2_3 : wz12.cell? ⟨gb163, 3, none⟩ = some (.int .i64 0) := (blk_cell BK163.out 3).trans rfl; have hczz2_4 : wz12.cell? ⟨gb163, 4, none⟩ = some (.int .i64 0) := (blk_cell BK163.out 4).trans rfl; have hfzz2_0 := blk_frozen BK163.out 0; have hfzz2_1 := blk_frozen BK163.out 1; have hfzz2_2 := blk_frozen BK163.out 2; have hfzz2_3 := blk_frozen BK163.out 3; have hfzz2_4 := blk_frozen BK163.out 4))
        refine bodyPost_ret (results_ct rfl _ _ gb163 31 #[.int .i64 0, .int .i64 0, .int .i64 0, .int .i64 0, .int .i64 0] (0, 0) _ rfl (by (with_reducible repeat (first | refine blk_drewN ?_ _ | refine blk_drew ?_ | refine blk_alloc ?_ _)); refine blk_put (cs := #[.int .i64 0, .int .i64 0, .int .i64 0, .int .i64 0, .int .i64 0]) ?_ 4 _ rfl; (with_reducible repeat (first | refine blk_drewN ?_ _ | refine blk_drew ?_ | refine blk_alloc ?_ _)); refine blk_put (cs := #[.int .i64 0, .int .i64 0, .int .i64 0, .int .i64 0, .int .i64 0]) ?_ 3 _ rfl; (with_reducible repeat (first | refine blk_drewN ?_ _ | refine blk_drew ?_ | refine blk_alloc ?_ _)); refine blk_put (cs := #[.int .i64 0, .int .i64 0, .int .i64 0, .int .i64 0, .int .i64 0]) ?_ 2 _ rfl; (with_reducible repeat (first | refine blk_drewN ?_ _ | refine blk_drew ?_ | refine blk_alloc ?_ _)); refine blk_put (cs := #[.int .i64 0, .int .i64 0, .int .i64 0, .int .i64 0, .int .i64 0]) ?_ 1 _ rfl; (with_reducible repeat (first | refine blk_drewN ?_ _ | refine blk_drew ?_ | refine blk_alloc ?_ _)); refine blk_put (cs := #[.int .i64 0, .int .i64 0, .int .i64 0, .int .i64 0, .int .i64 0]) ?_ 0 _ rfl; (with_reducible repeat (first | refine blk_drewN ?_ _ | refine blk_drew ?_ | refine blk_alloc ?_ _)); exact BK163.out) Tryd.underlying31 rfl (by kernel_rfl)) rfl ?_
        exact ⟨by first | rfl | (simp [errW_none, errW_some] <;> rfl) | (simp only [← hji7]; first | rfl | (simp [errW_none, errW_some] <;> rfl)) | (simp [*, errW_none, errW_some] <;> rfl), by repeat (first | (with_reducible first | exact HB.out | apply below_alloc | apply pw_below_drewN | apply below_drew1 | refine below_set ?_ GE163.out | refine below_set ?_ GE182.out) | exact HB.out)⟩
    ·rw [if_neg c10] at H
     exact absurd H (by simp)
   ·rw [if_neg c8] at H
    exact absurd H (by simp)
  ·rw [if_neg c5] at H
   exact absurd H (by simp)
 ·rw [if_neg c3] at H
  exact absurd H (by simp)
end Go.Proofs.YtinmmnljicmppaaDoor.PTaleApart
