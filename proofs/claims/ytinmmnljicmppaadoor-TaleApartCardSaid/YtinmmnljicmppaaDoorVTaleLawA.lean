import Derived.Test.YtinmmnljicmppaaDoorVPTaleApartx0
import Derived.Test.YtinmmnljicmppaaDoorVTalePe
import Derived.Test.YtinmmnljicmppaaDoorVTaleW
/- Words of this proof. -/
namespace Go.Proofs.YtinmmnljicmppaaDoor.PTaleApart
open Go.RowKit Go.Proofs.YtinmmnljicmppaaDoorW.PrintWords Go.Proofs.YtinmmnljicmppaaDoorW.PrintLast Go.Proofs.YtinmmnljicmppaaDoorW.PrintMore Go.Proofs.YtinmmnljicmppaaDoor.Str
attribute [local go_sem] max2_int min2_int max_two min_two max_three min_three max_four min_four
set_option linter.unusedVariables false
set_option linter.unusedSimpArgs false
mutual
def revenantlaw32_TaleApart.j0 : Nat → List Int → List Int → Bool → Int → Int → Int → Int → Int → Int → Int → Int → Int → Int → Int → Int → Int → Int → Int → Int → Int → Int → Option (Bool)
 | 0, _, _, _, _, _, _, _, _, _, _, _, _, _, _, _, _, _, _, _, _, _ => none
 | k + 1, x4, x5, x39, x261000, x261001, x261002, x261003, x261004, x262000, x262001, x262002, x262003, x262004, x263000, x263001, x263002, x263003, x264000, x264001, x264002, x264003 => if x39 = true then (some true) else ((tale_Conf.f x261000 x261001 x261002 x261003 x261004).bind fun bt265 => ((tale_Conf.f x262000 x262001 x262002 x262003 x262004).bind fun bt267 => (if bt265.2 = 0 then (if bt267.2 = 0 then (revenantlaw32_TaleApart.j1 k x4 x5 bt265.1 bt265.2 ((bt265.1.toList == bt267.1.toList) != (x261000 == x262000 && (x261001 == x262001 && (x261002 == x262002 && (x261003 == x262003 && (x261004 == x262004)))))) x261000 x261001 x261002 x261003 x261004 x263000 x263001 x263002 x263003 x264000 x264001 x264002 x264003) else (revenantlaw32_TaleApart.j1 k x4 x5 bt265.1 bt265.2 false x261000 x261001 x261002 x261003 x261004 x263000 x263001 x263002 x263003 x264000 x264001 x264002 x264003)) else (revenantlaw32_TaleApart.j1 k x4 x5 bt265.1 bt265.2 false x261000 x261001 x261002 x261003 x261004 x263000 x263001 x263002 x263003 x264000 x264001 x264002 x264003))))
def revenantlaw32_TaleApart.j1 : Nat → List Int → List Int → ByteArray → Int → Bool → Int → Int → Int → Int → Int → Int → Int → Int → Int → Int → Int → Int → Int → Option (Bool)
 | 0, _, _, _, _, _, _, _, _, _, _, _, _, _, _, _, _, _, _ => none
 | k + 1, x4, x5, x13, x14, x64, x261000, x261001, x261002, x261003, x261004, x263000, x263001, x263002, x263003, x264000, x264001, x264002, x264003 => if x64 = true then (some false) else ((tale_Op.f x261000 x261001 x261002 x261003 x261004 1 x263000 x263001 x263002 x263003).bind fun bt269 => ((tale_Op.f x261000 x261001 x261002 x261003 x261004 1 x264000 x264001 x264002 x264003).bind fun bt271 => (if bt269.2 = 0 then (if bt271.2 = 0 then (revenantlaw32_TaleApart.j2 k x4 x5 x13 x14 ((bt269.1.toList == bt271.1.toList) != (x263000 == x264000 && (x263001 == x264001 && (x263002 == x264002 && (x263003 == x264003))))) x261000 x261001 x261002 x261003 x261004) else (revenantlaw32_TaleApart.j2 k x4 x5 x13 x14 false x261000 x261001 x261002 x261003 x261004)) else (revenantlaw32_TaleApart.j2 k x4 x5 x13 x14 false x261000 x261001 x261002 x261003 x261004))))
def revenantlaw32_TaleApart.j2 : Nat → List Int → List Int → ByteArray → Int → Bool → Int → Int → Int → Int → Int → Option (Bool)
 | 0, _, _, _, _, _, _, _, _, _, _ => none
 | k + 1, x4, x5, x13, x14, x91, x261000, x261001, x261002, x261003, x261004 => if x91 = true then (some false) else ((tale_Picks.f x4).bind fun bt273 => ((tale_Picks.f x5).bind fun bt275 => (if bt273.2 = 0 then (if bt275.2 = 0 then ((revenantlaw32_ints.f k x4 x5).bind fun t277 => (revenantlaw32_TaleApart.j3 k x13 x14 bt273.1 bt273.2 ((bt273.1.toList == bt275.1.toList) != t277) x261000 x261001 x261002 x261003 x261004)) else (revenantlaw32_TaleApart.j3 k x13 x14 bt273.1 bt273.2 false x261000 x261001 x261002 x261003 x261004)) else (revenantlaw32_TaleApart.j3 k x13 x14 bt273.1 bt273.2 false x261000 x261001 x261002 x261003 x261004))))
def revenantlaw32_TaleApart.j3 : Nat → ByteArray → Int → ByteArray → Int → Bool → Int → Int → Int → Int → Int → Option (Bool)
 | 0, _, _, _, _, _, _, _, _, _, _ => none
 | k + 1, x13, x14, x21, x22, x116, x261000, x261001, x261002, x261003, x261004 => if x116 = true then (some false) else (if x14 = 0 then ((tale_ReadOp.f k x261000 x261001 x261002 x261003 x261004 x13).bind fun bt278 => (if bt278.2.2.2.2.2 = 0 then (some false) else (revenantlaw32_TaleApart.j4 k x21 x22))) else (revenantlaw32_TaleApart.j4 k x21 x22))
def revenantlaw32_TaleApart.j4 : Nat → ByteArray → Int → Option (Bool)
 | 0, _, _ => none
 | k + 1, x21, x22 => if x22 = 0 then ((tale_ReadConf.f k x21).bind fun bt285 => (if bt285.2.2.2.2.2 = 0 then (some false) else (some true))) else (some true)
end
def revenantlaw32_TaleApart.f (k : Nat) (a0_0 : Int) (a0_1 : Int) (a0_2 : Int) (a0_3 : Int) (a0_4 : Int) (a1_0 : Int) (a1_1 : Int) (a1_2 : Int) (a1_3 : Int) (a1_4 : Int) (a2_0 : Int) (a2_1 : Int) (a2_2 : Int) (a2_3 : Int) (a3_0 : Int) (a3_1 : Int) (a3_2 : Int) (a3_3 : Int) (l4 : List Int) (l5 : List Int) : Option (Bool) := (revenantlaw32_awake.f).bind fun t264 => (if t264 = true then (if (l4.length : Int) > 200 then (revenantlaw32_TaleApart.j0 k l4 l5 true a0_0 a0_1 a0_2 a0_3 a0_4 a1_0 a1_1 a1_2 a1_3 a1_4 a2_0 a2_1 a2_2 a2_3 a3_0 a3_1 a3_2 a3_3) else (revenantlaw32_TaleApart.j0 k l4 l5 (decide ((l5.length : Int) > 200)) a0_0 a0_1 a0_2 a0_3 a0_4 a1_0 a1_1 a1_2 a1_3 a1_4 a2_0 a2_1 a2_2 a2_3 a3_0 a3_1 a3_2 a3_3)) else (some false))
theorem revenantlaw32_TaleApart.mono_l : ∀ k, (∀ y0 y1 y2 y3 y4 y5 y6 y7 y8 y9 y10 y11 y12 y13 y14 y15 y16 y17 y18 y19 y20, LeO (revenantlaw32_TaleApart.j0 k y0 y1 y2 y3 y4 y5 y6 y7 y8 y9 y10 y11 y12 y13 y14 y15 y16 y17 y18 y19 y20) (revenantlaw32_TaleApart.j0 (k + 1) y0 y1 y2 y3 y4 y5 y6 y7 y8 y9 y10 y11 y12 y13 y14 y15 y16 y17 y18 y19 y20)) ∧ (∀ y0 y1 y2 y3 y4 y5 y6 y7 y8 y9 y10 y11 y12 y13 y14 y15 y16 y17, LeO (revenantlaw32_TaleApart.j1 k y0 y1 y2 y3 y4 y5 y6 y7 y8 y9 y10 y11 y12 y13 y14 y15 y16 y17) (revenantlaw32_TaleApart.j1 (k + 1) y0 y1 y2 y3 y4 y5 y6 y7 y8 y9 y10 y11 y12 y13 y14 y15 y16 y17)) ∧ (∀ y0 y1 y2 y3 y4 y5 y6 y7 y8 y9, LeO (revenantlaw32_TaleApart.j2 k y0 y1 y2 y3 y4 y5 y6 y7 y8 y9) (revenantlaw32_TaleApart.j2 (k + 1) y0 y1 y2 y3 y4 y5 y6 y7 y8 y9)) ∧ (∀ y0 y1 y2 y3 y4 y5 y6 y7 y8 y9, LeO (revenantlaw32_TaleApart.j3 k y0 y1 y2 y3 y4 y5 y6 y7 y8 y9) (revenantlaw32_TaleApart.j3 (k + 1) y0 y1 y2 y3 y4 y5 y6 y7 y8 y9)) ∧ (∀ y0 y1, LeO (revenantlaw32_TaleApart.j4 k y0 y1) (revenantlaw32_TaleApart.j4 (k + 1) y0 y1))
 | 0 => ⟨fun _ _ _ _ _ _ _ _ _ _ _ _ _ _ _ _ _ _ _ _ _ r h => by simp [revenantlaw32_TaleApart.j0] at h, fun _ _ _ _ _ _ _ _ _ _ _ _ _ _ _ _ _ _ r h => by simp [revenantlaw32_TaleApart.j1] at h, fun _ _ _ _ _ _ _ _ _ _ r h => by simp [revenantlaw32_TaleApart.j2] at h, fun _ _ _ _ _ _ _ _ _ _ r h => by simp [revenantlaw32_TaleApart.j3] at h, fun _ _ r h => by simp [revenantlaw32_TaleApart.j4] at h⟩
 | k + 1 => by
  obtain ⟨ih0, ih1, ih2, ih3, ih4⟩ := revenantlaw32_TaleApart.mono_l k
  refine ⟨?_, ?_, ?_, ?_, ?_⟩
  ·intro y0 y1 y2 y3 y4 y5 y6 y7 y8 y9 y10 y11 y12 y13 y14 y15 y16 y17 y18 y19 y20
   unfold revenantlaw32_TaleApart.j0
   repeat' first
   | (with_reducible exact ih0 _ _ _ _ _ _ _ _ _ _ _ _ _ _ _ _ _ _ _ _ _)
   | (with_reducible exact ih1 _ _ _ _ _ _ _ _ _ _ _ _ _ _ _ _ _ _)
   | (with_reducible exact ih2 _ _ _ _ _ _ _ _ _ _)
   | (with_reducible exact ih3 _ _ _ _ _ _ _ _ _ _)
   | (with_reducible exact ih4 _ _)
   | (with_reducible exact revenantlaw32_ints.mono _ _ _)
   | (with_reducible exact tale_ReadConf.mono _ _)
   | (with_reducible exact tale_ReadOp.mono _ _ _ _ _ _ _)
   | (with_reducible exact LeO.refl _)
   | (with_reducible exact LeO.none _)
   | (with_reducible refine LeO.ite ?_ ?_)
   | (with_reducible refine LeO.bind ?_ (fun _ => ?_))
   | exact ih0 _ _ _ _ _ _ _ _ _ _ _ _ _ _ _ _ _ _ _ _ _
   | exact ih1 _ _ _ _ _ _ _ _ _ _ _ _ _ _ _ _ _ _
   | exact ih2 _ _ _ _ _ _ _ _ _ _
   | exact ih3 _ _ _ _ _ _ _ _ _ _
   | exact ih4 _ _
   | exact revenantlaw32_ints.mono _ _ _
   | exact tale_ReadConf.mono _ _
   | exact tale_ReadOp.mono _ _ _ _ _ _ _
   | exact LeO.none _
   | refine LeO.ite ?_ ?_
   | refine LeO.bind ?_ (fun _ => ?_)
  ·intro y0 y1 y2 y3 y4 y5 y6 y7 y8 y9 y10 y11 y12 y13 y14 y15 y16 y17
   unfold revenantlaw32_TaleApart.j1
   repeat' first
   | (with_reducible exact ih0 _ _ _ _ _ _ _ _ _ _ _ _ _ _ _ _ _ _ _ _ _)
   | (with_reducible exact ih1 _ _ _ _ _ _ _ _ _ _ _ _ _ _ _ _ _ _)
   | (with_reducible exact ih2 _ _ _ _ _ _ _ _ _ _)
   | (with_reducible exact ih3 _ _ _ _ _ _ _ _ _ _)
   | (with_reducible exact ih4 _ _)
   | (with_reducible exact revenantlaw32_ints.mono _ _ _)
   | (with_reducible exact tale_ReadConf.mono _ _)
   | (with_reducible exact tale_ReadOp.mono _ _ _ _ _ _ _)
   | (with_reducible exact LeO.refl _)
   | (with_reducible exact LeO.none _)
   | (with_reducible refine LeO.ite ?_ ?_)
   | (with_reducible refine LeO.bind ?_ (fun _ => ?_))
   | exact ih0 _ _ _ _ _ _ _ _ _ _ _ _ _ _ _ _ _ _ _ _ _
   | exact ih1 _ _ _ _ _ _ _ _ _ _ _ _ _ _ _ _ _ _
   | exact ih2 _ _ _ _ _ _ _ _ _ _
   | exact ih3 _ _ _ _ _ _ _ _ _ _
   | exact ih4 _ _
   | exact revenantlaw32_ints.mono _ _ _
   | exact tale_ReadConf.mono _ _
   | exact tale_ReadOp.mono _ _ _ _ _ _ _
   | exact LeO.none _
   | refine LeO.ite ?_ ?_
   | refine LeO.bind ?_ (fun _ => ?_)
  ·intro y0 y1 y2 y3 y4 y5 y6 y7 y8 y9
   unfold revenantlaw32_TaleApart.j2
   repeat' first
   | (with_reducible exact ih0 _ _ _ _ _ _ _ _ _ _ _ _ _ _ _ _ _ _ _ _ _)
   | (with_reducible exact ih1 _ _ _ _ _ _ _ _ _ _ _ _ _ _ _ _ _ _)
   | (with_reducible exact ih2 _ _ _ _ _ _ _ _ _ _)
   | (with_reducible exact ih3 _ _ _ _ _ _ _ _ _ _)
   | (with_reducible exact ih4 _ _)
   | (with_reducible exact revenantlaw32_ints.mono _ _ _)
   | (with_reducible exact tale_ReadConf.mono _ _)
   | (with_reducible exact tale_ReadOp.mono _ _ _ _ _ _ _)
   | (with_reducible exact LeO.refl _)
   | (with_reducible exact LeO.none _)
   | (with_reducible refine LeO.ite ?_ ?_)
   | (with_reducible refine LeO.bind ?_ (fun _ => ?_))
   | exact ih0 _ _ _ _ _ _ _ _ _ _ _ _ _ _ _ _ _ _ _ _ _
   | exact ih1 _ _ _ _ _ _ _ _ _ _ _ _ _ _ _ _ _ _
   | exact ih2 _ _ _ _ _ _ _ _ _ _
   | exact ih3 _ _ _ _ _ _ _ _ _ _
   | exact ih4 _ _
   | exact revenantlaw32_ints.mono _ _ _
   | exact tale_ReadConf.mono _ _
   | exact tale_ReadOp.mono _ _ _ _ _ _ _
   | exact LeO.none _
   | refine LeO.ite ?_ ?_
   | refine LeO.bind ?_ (fun _ => ?_)
  ·intro y0 y1 y2 y3 y4 y5 y6 y7 y8 y9
   unfold revenantlaw32_TaleApart.j3
   repeat' first
   | (with_reducible exact ih0 _ _ _ _ _ _ _ _ _ _ _ _ _ _ _ _ _ _ _ _ _)
   | (with_reducible exact ih1 _ _ _ _ _ _ _ _ _ _ _ _ _ _ _ _ _ _)
   | (with_reducible exact ih2 _ _ _ _ _ _ _ _ _ _)
   | (with_reducible exact ih3 _ _ _ _ _ _ _ _ _ _)
   | (with_reducible exact ih4 _ _)
   | (with_reducible exact revenantlaw32_ints.mono _ _ _)
   | (with_reducible exact tale_ReadConf.mono _ _)
   | (with_reducible exact tale_ReadOp.mono _ _ _ _ _ _ _)
   | (with_reducible exact LeO.refl _)
   | (with_reducible exact LeO.none _)
   | (with_reducible refine LeO.ite ?_ ?_)
   | (with_reducible refine LeO.bind ?_ (fun _ => ?_))
   | exact ih0 _ _ _ _ _ _ _ _ _ _ _ _ _ _ _ _ _ _ _ _ _
   | exact ih1 _ _ _ _ _ _ _ _ _ _ _ _ _ _ _ _ _ _
   | exact ih2 _ _ _ _ _ _ _ _ _ _
   | exact ih3 _ _ _ _ _ _ _ _ _ _
   | exact ih4 _ _
   | exact revenantlaw32_ints.mono _ _ _
   | exact tale_ReadConf.mono _ _
   | exact tale_ReadOp.mono _ _ _ _ _ _ _
   | exact LeO.none _
   | refine LeO.ite ?_ ?_
   | refine LeO.bind ?_ (fun _ => ?_)
  ·intro y0 y1
   unfold revenantlaw32_TaleApart.j4
   repeat' first
   | (with_reducible exact ih0 _ _ _ _ _ _ _ _ _ _ _ _ _ _ _ _ _ _ _ _ _)
   | (with_reducible exact ih1 _ _ _ _ _ _ _ _ _ _ _ _ _ _ _ _ _ _)
   | (with_reducible exact ih2 _ _ _ _ _ _ _ _ _ _)
   | (with_reducible exact ih3 _ _ _ _ _ _ _ _ _ _)
   | (with_reducible exact ih4 _ _)
   | (with_reducible exact revenantlaw32_ints.mono _ _ _)
   | (with_reducible exact tale_ReadConf.mono _ _)
   | (with_reducible exact tale_ReadOp.mono _ _ _ _ _ _ _)
   | (with_reducible exact LeO.refl _)
   | (with_reducible exact LeO.none _)
   | (with_reducible refine LeO.ite ?_ ?_)
   | (with_reducible refine LeO.bind ?_ (fun _ => ?_))
   | exact ih0 _ _ _ _ _ _ _ _ _ _ _ _ _ _ _ _ _ _ _ _ _
   | exact ih1 _ _ _ _ _ _ _ _ _ _ _ _ _ _ _ _ _ _
   | exact ih2 _ _ _ _ _ _ _ _ _ _
   | exact ih3 _ _ _ _ _ _ _ _ _ _
   | exact ih4 _ _
   | exact revenantlaw32_ints.mono _ _ _
   | exact tale_ReadConf.mono _ _
   | exact tale_ReadOp.mono _ _ _ _ _ _ _
   | exact LeO.none _
   | refine LeO.ite ?_ ?_
   | refine LeO.bind ?_ (fun _ => ?_)
theorem revenantlaw32_TaleApart.mono : ∀ a0 a1 a2 a3 a4 a5 a6 a7 a8 a9 a10 a11 a12 a13 a14 a15 a16 a17 a18 a19 k, LeO (revenantlaw32_TaleApart.f k a0 a1 a2 a3 a4 a5 a6 a7 a8 a9 a10 a11 a12 a13 a14 a15 a16 a17 a18 a19) (revenantlaw32_TaleApart.f (k + 1) a0 a1 a2 a3 a4 a5 a6 a7 a8 a9 a10 a11 a12 a13 a14 a15 a16 a17 a18 a19) := by
 intro a0 a1 a2 a3 a4 a5 a6 a7 a8 a9 a10 a11 a12 a13 a14 a15 a16 a17 a18 a19 k
 obtain ⟨ih0, ih1, ih2, ih3, ih4⟩ := revenantlaw32_TaleApart.mono_l k
 unfold revenantlaw32_TaleApart.f
 repeat' first
   | (with_reducible exact ih0 _ _ _ _ _ _ _ _ _ _ _ _ _ _ _ _ _ _ _ _ _)
   | (with_reducible exact ih1 _ _ _ _ _ _ _ _ _ _ _ _ _ _ _ _ _ _)
   | (with_reducible exact ih2 _ _ _ _ _ _ _ _ _ _)
   | (with_reducible exact ih3 _ _ _ _ _ _ _ _ _ _)
   | (with_reducible exact ih4 _ _)
   | (with_reducible exact revenantlaw32_ints.mono _ _ _)
   | (with_reducible exact tale_ReadConf.mono _ _)
   | (with_reducible exact tale_ReadOp.mono _ _ _ _ _ _ _)
   | (with_reducible exact LeO.refl _)
   | (with_reducible exact LeO.none _)
   | (with_reducible refine LeO.ite ?_ ?_)
   | (with_reducible refine LeO.bind ?_ (fun _ => ?_))
   | exact ih0 _ _ _ _ _ _ _ _ _ _ _ _ _ _ _ _ _ _ _ _ _
   | exact ih1 _ _ _ _ _ _ _ _ _ _ _ _ _ _ _ _ _ _
   | exact ih2 _ _ _ _ _ _ _ _ _ _
   | exact ih3 _ _ _ _ _ _ _ _ _ _
   | exact ih4 _ _
   | exact revenantlaw32_ints.mono _ _ _
   | exact tale_ReadConf.mono _ _
   | exact tale_ReadOp.mono _ _ _ _ _ _ _
   | exact LeO.none _
   | refine LeO.ite ?_ ?_
   | refine LeO.bind ?_ (fun _ => ?_)
set_option maxHeartbeats 8000000 in
set_option maxRecDepth 100000 in
theorem revenantlaw32_TaleApart.calls (k : Nat) (a0_0 : Int) (a0_1 : Int) (a0_2 : Int) (a0_3 : Int) (a0_4 : Int) (a1_0 : Int) (a1_1 : Int) (a1_2 : Int) (a1_3 : Int) (a1_4 : Int) (a2_0 : Int) (a2_1 : Int) (a2_2 : Int) (a2_3 : Int) (a3_0 : Int) (a3_1 : Int) (a3_2 : Int) (a3_3 : Int) (A4 : Option Addr) (c4 : Nat) (l4 : List Int) (A5 : Option Addr) (c5 : Nat) (l5 : List Int) (r : Bool) (w : World) (hr4 : Kd.C (Kd.int .i64) w A4 l4.length l4) (hc4 : l4.length ≤ c4) (hr5 : Kd.C (Kd.int .i64) w A5 l5.length l5) (hc5 : l5.length ≤ c5) (h : revenantlaw32_TaleApart.f k a0_0 a0_1 a0_2 a0_3 a0_4 a1_0 a1_1 a1_2 a1_3 a1_4 a2_0 a2_1 a2_2 a2_3 a3_0 a3_1 a3_2 a3_3 l4 l5 = some r) {w0 : World} (ht0 : WT w0) (hb0 : Below w0.heap.size w0 w) :
  Calls Tryd.prog 4 #[.agg #[.int .i64 a0_0, .int .i64 a0_1, .int .i64 a0_2, .int .i64 a0_3, .int .i64 a0_4], .agg #[.int .i64 a1_0, .int .i64 a1_1, .int .i64 a1_2, .int .i64 a1_3, .int .i64 a1_4], .agg #[.int .i64 a2_0, .int .u64 a2_1, .int .u64 a2_2, .int .i64 a2_3], .agg #[.int .i64 a3_0, .int .u64 a3_1, .int .u64 a3_2, .int .i64 a3_3], .slice A4 l4.length c4, .slice A5 l5.length c5] w fun e w' => e = .returned (.bool r) ∧ Below w.heap.size w w' := by
 have hu31 := Tryd.underlying31
 have hu33 := Tryd.underlying33
 have HR4 := Aside0.mk hr4
 have HC4 := Aside0.mk hc4
 clear hr4 hc4
 have HR5 := Aside0.mk hr5
 have HC5 := Aside0.mk hc5
 clear hr5 hc5
 have HTT := Aside0.mk (WT.below ht0 hb0)
 clear ht0 hb0
 have HB := Aside0.mk (Below.refl w.heap.size w)
 have H : ((revenantlaw32_awake.f).bind fun t264 => (if t264 = true then (if (l4.length : Int) > 200 then (revenantlaw32_TaleApart.j0 k l4 l5 true a0_0 a0_1 a0_2 a0_3 a0_4 a1_0 a1_1 a1_2 a1_3 a1_4 a2_0 a2_1 a2_2 a2_3 a3_0 a3_1 a3_2 a3_3) else (revenantlaw32_TaleApart.j0 k l4 l5 (decide ((l5.length : Int) > 200)) a0_0 a0_1 a0_2 a0_3 a0_4 a1_0 a1_1 a1_2 a1_3 a1_4 a2_0 a2_1 a2_2 a2_3 a3_0 a3_1 a3_2 a3_3)) else (some false))) = some r := h
 clear h
 replace H := Option.bind_eq_some_iff.mp H
 obtain ⟨t264, A70, H⟩ := H
 replace H : (if t264 = true then (if (l4.length : Int) > 200 then (revenantlaw32_TaleApart.j0 k l4 l5 true a0_0 a0_1 a0_2 a0_3 a0_4 a1_0 a1_1 a1_2 a1_3 a1_4 a2_0 a2_1 a2_2 a2_3 a3_0 a3_1 a3_2 a3_3) else (revenantlaw32_TaleApart.j0 k l4 l5 (decide ((l5.length : Int) > 200)) a0_0 a0_1 a0_2 a0_3 a0_4 a1_0 a1_1 a1_2 a1_3 a1_4 a2_0 a2_1 a2_2 a2_3 a3_0 a3_1 a3_2 a3_3)) else (some false)) = some r := H
 have A7 := Aside0.mk A70
 clear A70
 by_cases c8 : t264 = true
 ·subst c8
  have H1 : (if (l4.length : Int) > 200 then (revenantlaw32_TaleApart.j0 k l4 l5 true a0_0 a0_1 a0_2 a0_3 a0_4 a1_0 a1_1 a1_2 a1_3 a1_4 a2_0 a2_1 a2_2 a2_3 a3_0 a3_1 a3_2 a3_3) else (revenantlaw32_TaleApart.j0 k l4 l5 (decide ((l5.length : Int) > 200)) a0_0 a0_1 a0_2 a0_3 a0_4 a1_0 a1_1 a1_2 a1_3 a1_4 a2_0 a2_1 a2_2 a2_3 a3_0 a3_1 a3_2 a3_3)) = some r := by rw [if_pos rfl] at H; exact H
  clear H
  have H := H1
  clear H1
  have HC9 := Aside0.mk H
  clear H
  go_enter Tryd.func4, Tryd.ntmps4
  go_upto_region 3 with (first | ((with_reducible refine gate_dst (N := 6) rfl ?_); (try (refine gate_guard (by rfl) ?_; dsimp only)); refine box_event ?hg (N := 6) ?hd (cs := #[.int .i64 a0_0, .int .i64 a0_1, .int .i64 a0_2, .int .i64 a0_3, .int .i64 a0_4]) (t := 31) ?hr ?_; (case hd => rfl); (case hg => rfl); (case hr => first | (go_simp; done) | (go_simp; rfl)); intro gb260 hg w10 hbox hb; have n0_ := Aside0.mk (below_step (upB HB.out) hb); have n1_ := Aside0.mk (hbox); have n2_ := Aside0.mk ((by rw [hg]; exact (below_size (upB HB.out)) : w.heap.size ≤ gb260)); have n3_ := Aside0.mk ((by rw [hg]; exact (below_size (upB HB.out)) : w.heap.size ≤ gb260)); clear HB; have HB := n0_; have BK260 := n1_; have GW260 := n2_; have GE260 := n3_; clear n0_ n1_ n2_ n3_; clear hb hbox hg) | ((with_reducible refine gate_dst (N := 7) rfl ?_); (try (refine gate_guard (by rfl) ?_; dsimp only)); refine box_event ?hg (N := 7) ?hd (cs := #[.int .i64 a1_0, .int .i64 a1_1, .int .i64 a1_2, .int .i64 a1_3, .int .i64 a1_4]) (t := 31) ?hr ?_; (case hd => rfl); (case hg => rfl); (case hr => first | (go_simp; done) | (go_simp; rfl)); intro gb261 hg w11 hbox hb; have n0_ := Aside0.mk (blk_below (g := gb260) (o := .cells #[.int .i64 a0_0, .int .i64 a0_1, .int .i64 a0_2, .int .i64 a0_3, .int .i64 a0_4] 31 (0, 0)) (up BK260.out) hb); have n1_ := Aside0.mk (below_step (upB HB.out) hb); have n2_ := Aside0.mk (hbox); have n3_ := Aside0.mk ((by rw [hg]; exact (below_size (upB HB.out)) : w.heap.size ≤ gb261)); have n4_ := Aside0.mk ((by rw [hg]; exact (below_size (upB HB.out)) : w.heap.size ≤ gb261)); have n5_ := Aside0.mk ((by rw [hg]; exact Nat.ne_of_lt (blk_lt (g := gb260) (o := .cells #[.int .i64 a0_0, .int .i64 a0_1, .int .i64 a0_2, .int .i64 a0_3, .int .i64 a0_4] 31 (0, 0)) (up BK260.out)) : gb260 ≠ gb261)); have n6_ := Aside0.mk ((by rw [hg]; exact Nat.ne_of_gt (blk_lt (g := gb260) (o := .cells #[.int .i64 a0_0, .int .i64 a0_1, .int .i64 a0_2, .int .i64 a0_3, .int .i64 a0_4] 31 (0, 0)) (up BK260.out)) : gb261 ≠ gb260)); clear BK260; clear HB; have BK260 := n0_; have HB := n1_; have BK261 := n2_; have GW261 := n3_; have GE261 := n4_; have NB260_261 := n5_; have NB261_260 := n6_; clear n0_ n1_ n2_ n3_ n4_ n5_ n6_; clear hb hbox hg) | ((with_reducible refine gate_dst (N := 8) rfl ?_); (try (refine gate_guard (by rfl) ?_; dsimp only)); refine box_event ?hg (N := 8) ?hd (cs := #[.int .i64 a2_0, .int .u64 a2_1, .int .u64 a2_2, .int .i64 a2_3]) (t := 33) ?hr ?_; (case hd => rfl); (case hg => rfl); (case hr => first | (go_simp; done) | (go_simp; rfl)); intro gb262 hg w12 hbox hb; have n0_ := Aside0.mk (blk_below (g := gb260) (o := .cells #[.int .i64 a0_0, .int .i64 a0_1, .int .i64 a0_2, .int .i64 a0_3, .int .i64 a0_4] 31 (0, 0)) (up BK260.out) hb); have n1_ := Aside0.mk (blk_below (g := gb261) (o := .cells #[.int .i64 a1_0, .int .i64 a1_1, .int .i64 a1_2, .int .i64 a1_3, .int .i64 a1_4] 31 (0, 0)) (up BK261.out) hb); have n2_ := Aside0.mk (below_step (upB HB.out) hb); have n3_ := Aside0.mk (hbox); have n4_ := Aside0.mk ((by rw [hg]; exact (below_size (upB HB.out)) : w.heap.size ≤ gb262)); have n5_ := Aside0.mk ((by rw [hg]; exact (below_size (upB HB.out)) : w.heap.size ≤ gb262)); have n6_ := Aside0.mk ((by rw [hg]; exact Nat.ne_of_lt (blk_lt (g := gb260) (o := .cells #[.int .i64 a0_0, .int .i64 a0_1, .int .i64 a0_2, .int .i64 a0_3, .int .i64 a0_4] 31 (0, 0)) (up BK260.out)) : gb260 ≠ gb262)); have n7_ := Aside0.mk ((by rw [hg]; exact Nat.ne_of_gt (blk_lt (g := gb260) (o := .cells #[.int .i64 a0_0, .int .i64 a0_1, .int .i64 a0_2, .int .i64 a0_3, .int .i64 a0_4] 31 (0, 0)) (up BK260.out)) : gb262 ≠ gb260)); have n8_ := Aside0.mk ((by rw [hg]; exact Nat.ne_of_lt (blk_lt (g := gb261) (o := .cells #[.int .i64 a1_0, .int .i64 a1_1, .int .i64 a1_2, .int .i64 a1_3, .int .i64 a1_4] 31 (0, 0)) (up BK261.out)) : gb261 ≠ gb262)); have n9_ := Aside0.mk ((by rw [hg]; exact Nat.ne_of_gt (blk_lt (g := gb261) (o := .cells #[.int .i64 a1_0, .int .i64 a1_1, .int .i64 a1_2, .int .i64 a1_3, .int .i64 a1_4] 31 (0, 0)) (up BK261.out)) : gb262 ≠ gb261)); clear BK260; clear BK261; clear HB; have BK260 := n0_; have BK261 := n1_; have HB := n2_; have BK262 := n3_; have GW262 := n4_; have GE262 := n5_; have NB260_262 := n6_; have NB262_260 := n7_; have NB261_262 := n8_; have NB262_261 := n9_; clear n0_ n1_ n2_ n3_ n4_ n5_ n6_ n7_ n8_ n9_; clear hb hbox hg) | ((with_reducible refine gate_dst (N := 9) rfl ?_); (try (refine gate_guard (by rfl) ?_; dsimp only)); refine box_event ?hg (N := 9) ?hd (cs := #[.int .i64 a3_0, .int .u64 a3_1, .int .u64 a3_2, .int .i64 a3_3]) (t := 33) ?hr ?_; (case hd => rfl); (case hg => rfl); (case hr => first | (go_simp; done) | (go_simp; rfl)); intro gb263 hg w13 hbox hb; have n0_ := Aside0.mk (blk_below (g := gb260) (o := .cells #[.int .i64 a0_0, .int .i64 a0_1, .int .i64 a0_2, .int .i64 a0_3, .int .i64 a0_4] 31 (0, 0)) (up BK260.out) hb); have n1_ := Aside0.mk (blk_below (g := gb261) (o := .cells #[.int .i64 a1_0, .int .i64 a1_1, .int .i64 a1_2, .int .i64 a1_3, .int .i64 a1_4] 31 (0, 0)) (up BK261.out) hb); have n2_ := Aside0.mk (blk_below (g := gb262) (o := .cells #[.int .i64 a2_0, .int .u64 a2_1, .int .u64 a2_2, .int .i64 a2_3] 33 (0, 0)) (up BK262.out) hb); have n3_ := Aside0.mk (below_step (upB HB.out) hb); have n4_ := Aside0.mk (hbox); have n5_ := Aside0.mk ((by rw [hg]; exact (below_size (upB HB.out)) : w.heap.size ≤ gb263)); have n6_ := Aside0.mk ((by rw [hg]; exact (below_size (upB HB.out)) : w.heap.size ≤ gb263)); have n7_ := Aside0.mk ((by rw [hg]; exact Nat.ne_of_lt (blk_lt (g := gb260) (o := .cells #[.int .i64 a0_0, .int .i64 a0_1, .int .i64 a0_2, .int .i64 a0_3, .int .i64 a0_4] 31 (0, 0)) (up BK260.out)) : gb260 ≠ gb263)); have n8_ := Aside0.mk ((by rw [hg]; exact Nat.ne_of_gt (blk_lt (g := gb260) (o := .cells #[.int .i64 a0_0, .int .i64 a0_1, .int .i64 a0_2, .int .i64 a0_3, .int .i64 a0_4] 31 (0, 0)) (up BK260.out)) : gb263 ≠ gb260)); have n9_ := Aside0.mk ((by rw [hg]; exact Nat.ne_of_lt (blk_lt (g := gb261) (o := .cells #[.int .i64 a1_0, .int .i64 a1_1, .int .i64 a1_2, .int .i64 a1_3, .int .i64 a1_4] 31 (0, 0)) (up BK261.out)) : gb261 ≠ gb263)); have n10_ := Aside0.mk ((by rw [hg]; exact Nat.ne_of_gt (blk_lt (g := gb261) (o := .cells #[.int .i64 a1_0, .int .i64 a1_1, .int .i64 a1_2, .int .i64 a1_3, .int .i64 a1_4] 31 (0, 0)) (up BK261.out)) : gb263 ≠ gb261)); have n11_ := Aside0.mk ((by rw [hg]; exact Nat.ne_of_lt (blk_lt (g := gb262) (o := .cells #[.int .i64 a2_0, .int .u64 a2_1, .int .u64 a2_2, .int .i64 a2_3] 33 (0, 0)) (up BK262.out)) : gb262 ≠ gb263)); have n12_ := Aside0.mk ((by rw [hg]; exact Nat.ne_of_gt (blk_lt (g := gb262) (o := .cells #[.int .i64 a2_0, .int .u64 a2_1, .int .u64 a2_2, .int .i64 a2_3] 33 (0, 0)) (up BK262.out)) : gb263 ≠ gb262)); clear BK260; clear BK261; clear BK262; clear HB; have BK260 := n0_; have BK261 := n1_; have BK262 := n2_; have HB := n3_; have BK263 := n4_; have GW263 := n5_; have GE263 := n6_; have NB260_263 := n7_; have NB263_260 := n8_; have NB261_263 := n9_; have NB263_261 := n10_; have NB262_263 := n11_; have NB263_262 := n12_; clear n0_ n1_ n2_ n3_ n4_ n5_ n6_ n7_ n8_ n9_ n10_ n11_ n12_; clear hb hbox hg) | ((with_reducible refine gate_callee (f := 5) rfl ?_); refine goesL_ (some 30) rfl rfl Tryd.func5 (by kernel_rfl) rfl #[] rfl (by (try simp only [List.map_toArray, List.map_cons, List.map_nil]); first | done | rfl | (simp only [List.length_drop, List.length_take]; rfl)) ?_; (with_reducible refine (revenantlaw32_awake.calls  true _ A7.out HTT.out (upB HB.out)).mono ?_); rintro e w14 ⟨rfl, hb⟩; refine ⟨_, rfl, ?_⟩; have n0_ := Aside0.mk (blk_below (g := gb260) (o := .cells #[.int .i64 a0_0, .int .i64 a0_1, .int .i64 a0_2, .int .i64 a0_3, .int .i64 a0_4] 31 (0, 0)) (up BK260.out) hb); have n1_ := Aside0.mk (blk_below (g := gb261) (o := .cells #[.int .i64 a1_0, .int .i64 a1_1, .int .i64 a1_2, .int .i64 a1_3, .int .i64 a1_4] 31 (0, 0)) (up BK261.out) hb); have n2_ := Aside0.mk (blk_below (g := gb262) (o := .cells #[.int .i64 a2_0, .int .u64 a2_1, .int .u64 a2_2, .int .i64 a2_3] 33 (0, 0)) (up BK262.out) hb); have n3_ := Aside0.mk (blk_below (g := gb263) (o := .cells #[.int .i64 a3_0, .int .u64 a3_1, .int .u64 a3_2, .int .i64 a3_3] 33 (0, 0)) (up BK263.out) hb); have n4_ := Aside0.mk (below_step (upB HB.out) hb); clear BK260; clear BK261; clear BK262; clear BK263; clear HB; have BK260 := n0_; have BK261 := n1_; have BK262 := n2_; have BK263 := n3_; have HB := n4_; clear n0_ n1_ n2_ n3_ n4_; (try clear hb); (try clear hb2); (try clear hk); (try clear hi)))
  (try simp only [Act.put, List.setIfInBounds_toArray, List.set_cons_zero, List.set_cons_succ])
  go_cut [39] (fun v39 wc => ∃ (kq : Nat) (x39_8 : Bool), v39 = .bool x39_8 ∧ Aside0 (revenantlaw32_TaleApart.j0 kq l4 l5 x39_8 a0_0 a0_1 a0_2 a0_3 a0_4 a1_0 a1_1 a1_2 a1_3 a1_4 a2_0 a2_1 a2_2 a2_3 a3_0 a3_1 a3_2 a3_3 = some r) ∧ Aside0 (kq ≤ k) ∧ Aside0 (wc.heap[gb260]? = some (.cells #[.int .i64 a0_0, .int .i64 a0_1, .int .i64 a0_2, .int .i64 a0_3, .int .i64 a0_4] 31 (0, 0))) ∧ Aside0 (wc.heap[gb261]? = some (.cells #[.int .i64 a1_0, .int .i64 a1_1, .int .i64 a1_2, .int .i64 a1_3, .int .i64 a1_4] 31 (0, 0))) ∧ Aside0 (wc.heap[gb262]? = some (.cells #[.int .i64 a2_0, .int .u64 a2_1, .int .u64 a2_2, .int .i64 a2_3] 33 (0, 0))) ∧ Aside0 (wc.heap[gb263]? = some (.cells #[.int .i64 a3_0, .int .u64 a3_1, .int .u64 a3_2, .int .i64 a3_3] 33 (0, 0))) ∧ Aside0 (Below w.heap.size w wc))
  case first =>
   have H := HC9.out
   clear HC9
   by_cases c15 : (l4.length : Int) > 200
   ·rw [if_pos c15] at H
    have c15b0 : decide (200 < (l4.length : Int)) = true := decide_eq_true c15
    have c15b1 : decide (200 < l4.length) = true := decide_eq_true (by omega)
    clear c15
    (first | rw [c15b0] | (simp only [i64_w, i32_w]; rw [c15b0]) | skip)
    have H' := Aside0.mk H
    clear H
    go_wp2
    go_meet
    case rel => exact ⟨_, (true), (by first | rfl | exact congrArg Value.bool (Eq.symm (by assumption)) | (simp; done) | (simp [*]; done)), H', ⟨by first | omega | exact Nat.le_refl _⟩, ⟨up BK260.out⟩, ⟨up BK261.out⟩, ⟨up BK262.out⟩, ⟨up BK263.out⟩, ⟨upB HB.out⟩⟩
   ·rw [if_neg c15] at H
    have c15b0 : decide (200 < (l4.length : Int)) = false := decide_eq_false c15
    have c15b1 : decide (200 < l4.length) = false := decide_eq_false (by omega)
    clear c15
    (first | rw [c15b0] | (simp only [i64_w, i32_w]; rw [c15b0]) | skip)
    have H' := Aside0.mk H
    clear H
    go_wp2
    go_meet
    case rel => exact ⟨_, (decide ((l5.length : Int) > 200)), (by first | rfl | exact congrArg Value.bool (Eq.symm (by assumption)) | (simp; done) | (simp [*]; done)), H', ⟨by first | omega | exact Nat.le_refl _⟩, ⟨up BK260.out⟩, ⟨up BK261.out⟩, ⟨up BK262.out⟩, ⟨up BK263.out⟩, ⟨upB HB.out⟩⟩
  case rest =>
   clear HC9
   try clear c1
   try clear p2
   try clear c4
   try clear c5
   try clear c8
   try clear c15
   try clear c15b0
   try clear c15b1
   obtain ⟨kq, x39_8, rfl, HA, HJ8, BK260, BK261, BK262, BK263, HB⟩ := hcut
   cases kq with
   | zero => exact absurd HA.out (by simp [revenantlaw32_TaleApart.j0])
   | succ kj8 =>
    have H := HA.out
    clear HA
    simp only [revenantlaw32_TaleApart.j0] at H
    by_cases c16 : x39_8 = true
    ·subst c16
     have H1 : (some true) = some r := by rw [if_pos rfl] at H; exact H
     clear H
     have H := H1
     clear H1
     obtain rfl := Option.some.inj H
     go_wp2
     go_ret
     exact ⟨by first | rfl | (simp [errW_none, errW_some] <;> rfl) | (simp [*, errW_none, errW_some] <;> rfl), upB HB.out⟩
    ·replace c16 := Bool.eq_false_iff.mpr c16
     subst c16
     have H1 : ((tale_Conf.f a0_0 a0_1 a0_2 a0_3 a0_4).bind fun bt265 => ((tale_Conf.f a1_0 a1_1 a1_2 a1_3 a1_4).bind fun bt267 => (if bt265.2 = 0 then (if bt267.2 = 0 then (revenantlaw32_TaleApart.j1 kj8 l4 l5 bt265.1 bt265.2 ((bt265.1.toList == bt267.1.toList) != (a0_0 == a1_0 && (a0_1 == a1_1 && (a0_2 == a1_2 && (a0_3 == a1_3 && (a0_4 == a1_4)))))) a0_0 a0_1 a0_2 a0_3 a0_4 a2_0 a2_1 a2_2 a2_3 a3_0 a3_1 a3_2 a3_3) else (revenantlaw32_TaleApart.j1 kj8 l4 l5 bt265.1 bt265.2 false a0_0 a0_1 a0_2 a0_3 a0_4 a2_0 a2_1 a2_2 a2_3 a3_0 a3_1 a3_2 a3_3)) else (revenantlaw32_TaleApart.j1 kj8 l4 l5 bt265.1 bt265.2 false a0_0 a0_1 a0_2 a0_3 a0_4 a2_0 a2_1 a2_2 a2_3 a3_0 a3_1 a3_2 a3_3)))) = some r := by rw [if_neg (show ¬ (false = true) by decide)] at H; exact H
     clear H
     have H := H1
     clear H1
     replace H := Option.bind_eq_some_iff.mp H
     obtain ⟨⟨t265, t266⟩, A170, H⟩ := H
     replace H : ((tale_Conf.f a1_0 a1_1 a1_2 a1_3 a1_4).bind fun bt267 => (if t266 = 0 then (if bt267.2 = 0 then (revenantlaw32_TaleApart.j1 kj8 l4 l5 t265 t266 ((t265.toList == bt267.1.toList) != (a0_0 == a1_0 && (a0_1 == a1_1 && (a0_2 == a1_2 && (a0_3 == a1_3 && (a0_4 == a1_4)))))) a0_0 a0_1 a0_2 a0_3 a0_4 a2_0 a2_1 a2_2 a2_3 a3_0 a3_1 a3_2 a3_3) else (revenantlaw32_TaleApart.j1 kj8 l4 l5 t265 t266 false a0_0 a0_1 a0_2 a0_3 a0_4 a2_0 a2_1 a2_2 a2_3 a3_0 a3_1 a3_2 a3_3)) else (revenantlaw32_TaleApart.j1 kj8 l4 l5 t265 t266 false a0_0 a0_1 a0_2 a0_3 a0_4 a2_0 a2_1 a2_2 a2_3 a3_0 a3_1 a3_2 a3_3))) = some r := H
     have A17 := Aside0.mk A170
     clear A170
     replace H := Option.bind_eq_some_iff.mp H
     obtain ⟨⟨t267, t268⟩, A180, H⟩ := H
     replace H : (if t266 = 0 then (if t268 = 0 then (revenantlaw32_TaleApart.j1 kj8 l4 l5 t265 t266 ((t265.toList == t267.toList) != (a0_0 == a1_0 && (a0_1 == a1_1 && (a0_2 == a1_2 && (a0_3 == a1_3 && (a0_4 == a1_4)))))) a0_0 a0_1 a0_2 a0_3 a0_4 a2_0 a2_1 a2_2 a2_3 a3_0 a3_1 a3_2 a3_3) else (revenantlaw32_TaleApart.j1 kj8 l4 l5 t265 t266 false a0_0 a0_1 a0_2 a0_3 a0_4 a2_0 a2_1 a2_2 a2_3 a3_0 a3_1 a3_2 a3_3)) else (revenantlaw32_TaleApart.j1 kj8 l4 l5 t265 t266 false a0_0 a0_1 a0_2 a0_3 a0_4 a2_0 a2_1 a2_2 a2_3 a3_0 a3_1 a3_2 a3_3)) = some r := H
     have A18 := Aside0.mk A180
     clear A180
     have HC19 := Aside0.mk H
     clear H
     have hnb20 := NB260_261.out
     have hnc20 := NB261_260.out
     have hnb21 := NB260_262.out
     have hnc21 := NB262_260.out
     have hnb22 := NB260_263.out
     have hnc22 := NB263_260.out
     have hcz23_0 : wc.cell? ⟨gb260, 0, none⟩ = some (.int .i64 a0_0) := (blk_cell BK260.out 0).trans rfl
     have hcz23_1 : wc.cell? ⟨gb260, 1, none⟩ = some (.int .i64 a0_1) := (blk_cell BK260.out 1).trans rfl
     have hcz23_2 : wc.cell? ⟨gb260, 2, none⟩ = some (.int .i64 a0_2) := (blk_cell BK260.out 2).trans rfl
     have hcz23_3 : wc.cell? ⟨gb260, 3, none⟩ = some (.int .i64 a0_3) := (blk_cell BK260.out 3).trans rfl
     have hcz23_4 : wc.cell? ⟨gb260, 4, none⟩ = some (.int .i64 a0_4) := (blk_cell BK260.out 4).trans rfl
     have hfz23_0 := blk_frozen BK260.out 0
     have hfz23_1 := blk_frozen BK260.out 1
     have hfz23_2 := blk_frozen BK260.out 2
     have hfz23_3 := blk_frozen BK260.out 3
     have hfz23_4 := blk_frozen BK260.out 4
     go_upto_region 7 with (first | ((with_reducible refine gate_callee (f := 8) rfl ?_); refine goesL_ (some 42) rfl rfl Tryd.func8 (by kernel_rfl) rfl #[.agg #[.int .i64 a0_0, .int .i64 a0_1, .int .i64 a0_2, .int .i64 a0_3, .int .i64 a0_4]] rfl (by (try simp only [List.map_toArray, List.map_cons, List.map_nil]); first | done | rfl | (simp only [List.length_drop, List.length_take]; rfl)) ?_; (with_reducible refine (tale_Conf.calls a0_0 a0_1 a0_2 a0_3 a0_4 t265 t266 _ A17.out HTT.out (upB HB.out)).mono ?_); rintro e w24 ⟨rfl, hb⟩; refine ⟨_, rfl, ?_⟩; have n0_ := Aside0.mk (blk_below (g := gb260) (o := .cells #[.int .i64 a0_0, .int .i64 a0_1, .int .i64 a0_2, .int .i64 a0_3, .int .i64 a0_4] 31 (0, 0)) (up BK260.out) hb); have n1_ := Aside0.mk (blk_below (g := gb261) (o := .cells #[.int .i64 a1_0, .int .i64 a1_1, .int .i64 a1_2, .int .i64 a1_3, .int .i64 a1_4] 31 (0, 0)) (up BK261.out) hb); have n2_ := Aside0.mk (blk_below (g := gb262) (o := .cells #[.int .i64 a2_0, .int .u64 a2_1, .int .u64 a2_2, .int .i64 a2_3] 33 (0, 0)) (up BK262.out) hb); have n3_ := Aside0.mk (blk_below (g := gb263) (o := .cells #[.int .i64 a3_0, .int .u64 a3_1, .int .u64 a3_2, .int .i64 a3_3] 33 (0, 0)) (up BK263.out) hb); have n4_ := Aside0.mk (below_step (upB HB.out) hb); clear BK260; clear BK261; clear BK262; clear BK263; clear HB; have BK260 := n0_; have BK261 := n1_; have BK262 := n2_; have BK263 := n3_; have HB := n4_; clear n0_ n1_ n2_ n3_ n4_; (try clear hb); (try clear hb2); (try clear hk); (try clear hi); have hnb25 := NB261_262.out; have hnc25 := NB262_261.out; have hnb26 := NB261_263.out; have hnc26 := NB263_261.out; have hcz27_0 : w24.cell? ⟨gb261, 0, none⟩ = some (.int .i64 a1_0) := (blk_cell BK261.out 0).trans rfl; have hcz27_1 : w24.cell? ⟨gb261, 1, none⟩ = some (.int .i64 a1_1) := (blk_cell BK261.out 1).trans rfl; have hcz27_2 : w24.cell? ⟨gb261, 2, none⟩ = some (.int .i64 a1_2) := (blk_cell BK261.out 2).trans rfl; have hcz27_3 : w24.cell? ⟨gb261, 3, none⟩ = some (.int .i64 a1_3) := (blk_cell BK261.out 3).trans rfl; have hcz27_4 : w24.cell? ⟨gb261, 4, none⟩ = some (.int .i64 a1_4) := (blk_cell BK261.out 4).trans rfl; have hfz27_0 := blk_frozen BK261.out 0; have hfz27_1 := blk_frozen BK261.out 1; have hfz27_2 := blk_frozen BK261.out 2; have hfz27_3 := blk_frozen BK261.out 3; have hfz27_4 := blk_frozen BK261.out 4) | ((with_reducible refine gate_callee (f := 8) rfl ?_); refine goesL_ (some 47) rfl rfl Tryd.func8 (by kernel_rfl) rfl #[.agg #[.int .i64 a1_0, .int .i64 a1_1, .int .i64 a1_2, .int .i64 a1_3, .int .i64 a1_4]] rfl (by (try simp only [List.map_toArray, List.map_cons, List.map_nil]); first | done | rfl | (simp only [List.length_drop, List.length_take]; rfl)) ?_; (with_reducible refine (tale_Conf.calls a1_0 a1_1 a1_2 a1_3 a1_4 t267 t268 _ A18.out HTT.out (upB HB.out)).mono ?_); rintro e w28 ⟨rfl, hb⟩; refine ⟨_, rfl, ?_⟩; have n0_ := Aside0.mk (blk_below (g := gb260) (o := .cells #[.int .i64 a0_0, .int .i64 a0_1, .int .i64 a0_2, .int .i64 a0_3, .int .i64 a0_4] 31 (0, 0)) (up BK260.out) hb); have n1_ := Aside0.mk (blk_below (g := gb261) (o := .cells #[.int .i64 a1_0, .int .i64 a1_1, .int .i64 a1_2, .int .i64 a1_3, .int .i64 a1_4] 31 (0, 0)) (up BK261.out) hb); have n2_ := Aside0.mk (blk_below (g := gb262) (o := .cells #[.int .i64 a2_0, .int .u64 a2_1, .int .u64 a2_2, .int .i64 a2_3] 33 (0, 0)) (up BK262.out) hb); have n3_ := Aside0.mk (blk_below (g := gb263) (o := .cells #[.int .i64 a3_0, .int .u64 a3_1, .int .u64 a3_2, .int .i64 a3_3] 33 (0, 0)) (up BK263.out) hb); have n4_ := Aside0.mk (below_step (upB HB.out) hb); clear BK260; clear BK261; clear BK262; clear BK263; clear HB; have BK260 := n0_; have BK261 := n1_; have BK262 := n2_; have BK263 := n3_; have HB := n4_; clear n0_ n1_ n2_ n3_ n4_; (try clear hb); (try clear hb2); (try clear hk); (try clear hi)))
     (try simp only [Act.put, List.setIfInBounds_toArray, List.set_cons_zero, List.set_cons_succ])
     go_cut [64] (fun v64 wc => ∃ (kq : Nat) (x64_18 : Bool), v64 = .bool x64_18 ∧ Aside0 (revenantlaw32_TaleApart.j1 kq l4 l5 t265 t266 x64_18 a0_0 a0_1 a0_2 a0_3 a0_4 a2_0 a2_1 a2_2 a2_3 a3_0 a3_1 a3_2 a3_3 = some r) ∧ Aside0 (kq ≤ kj8) ∧ Aside0 (wc.heap[gb260]? = some (.cells #[.int .i64 a0_0, .int .i64 a0_1, .int .i64 a0_2, .int .i64 a0_3, .int .i64 a0_4] 31 (0, 0))) ∧ Aside0 (wc.heap[gb261]? = some (.cells #[.int .i64 a1_0, .int .i64 a1_1, .int .i64 a1_2, .int .i64 a1_3, .int .i64 a1_4] 31 (0, 0))) ∧ Aside0 (wc.heap[gb262]? = some (.cells #[.int .i64 a2_0, .int .u64 a2_1, .int .u64 a2_2, .int .i64 a2_3] 33 (0, 0))) ∧ Aside0 (wc.heap[gb263]? = some (.cells #[.int .i64 a3_0, .int .u64 a3_1, .int .u64 a3_2, .int .i64 a3_3] 33 (0, 0))) ∧ Aside0 (Below w.heap.size w wc))
     case first =>
      have H := HC19.out
      clear HC19
      by_cases c29 : t266 = 0
      ·rw [if_pos c29] at H
       have c29b0 : (t266 == 0) = true := beq_iff_eq.mpr c29
       have c29b1 : (t266 != 0) = false := bne_eq_false_iff_eq.mpr c29
       clear c29
       (first | rw [c29b0] | (simp only [i64_w, i32_w]; rw [c29b0]) | skip)
       by_cases c30 : t268 = 0
       ·rw [if_pos c30] at H
        have c30b0 : (t268 == 0) = true := beq_iff_eq.mpr c30
        have c30b1 : (t268 != 0) = false := bne_eq_false_iff_eq.mpr c30
        clear c30
        have H' := Aside0.mk H
        clear H
        have hnb31 := NB260_261.out
        have hnc31 := NB261_260.out
        have hnb32 := NB260_262.out
        have hnc32 := NB262_260.out
        have hnb33 := NB260_263.out
        have hnc33 := NB263_260.out
        have hcz34_0 : w28.cell? ⟨gb260, 0, none⟩ = some (.int .i64 a0_0) := (blk_cell BK260.out 0).trans rfl
        have hcz34_1 : w28.cell? ⟨gb260, 1, none⟩ = some (.int .i64 a0_1) := (blk_cell BK260.out 1).trans rfl
        have hcz34_2 : w28.cell? ⟨gb260, 2, none⟩ = some (.int .i64 a0_2) := (blk_cell BK260.out 2).trans rfl
        have hcz34_3 : w28.cell? ⟨gb260, 3, none⟩ = some (.int .i64 a0_3) := (blk_cell BK260.out 3).trans rfl
        have hcz34_4 : w28.cell? ⟨gb260, 4, none⟩ = some (.int .i64 a0_4) := (blk_cell BK260.out 4).trans rfl
        have hfz34_0 := blk_frozen BK260.out 0
        have hfz34_1 := blk_frozen BK260.out 1
        have hfz34_2 := blk_frozen BK260.out 2
        have hfz34_3 := blk_frozen BK260.out 3
        have hfz34_4 := blk_frozen BK260.out 4
        have hnb35 := NB261_262.out
        have hnc35 := NB262_261.out
        have hnb36 := NB261_263.out
        have hnc36 := NB263_261.out
        have hcz37_0 : w28.cell? ⟨gb261, 0, none⟩ = some (.int .i64 a1_0) := (blk_cell BK261.out 0).trans rfl
        have hcz37_1 : w28.cell? ⟨gb261, 1, none⟩ = some (.int .i64 a1_1) := (blk_cell BK261.out 1).trans rfl
        have hcz37_2 : w28.cell? ⟨gb261, 2, none⟩ = some (.int .i64 a1_2) := (blk_cell BK261.out 2).trans rfl
        have hcz37_3 : w28.cell? ⟨gb261, 3, none⟩ = some (.int .i64 a1_3) := (blk_cell BK261.out 3).trans rfl
        have hcz37_4 : w28.cell? ⟨gb261, 4, none⟩ = some (.int .i64 a1_4) := (blk_cell BK261.out 4).trans rfl
        have hfz37_0 := blk_frozen BK261.out 0
        have hfz37_1 := blk_frozen BK261.out 1
        have hfz37_2 := blk_frozen BK261.out 2
        have hfz37_3 := blk_frozen BK261.out 3
        have hfz37_4 := blk_frozen BK261.out 4
        by_cases dd0 : a0_0 = a1_0
        ·subst dd0
         by_cases dd1 : a0_1 = a1_1
         ·subst dd1
          by_cases dd2 : a0_2 = a1_2
          ·subst dd2
           by_cases dd3 : a0_3 = a1_3
           ·subst dd3
            by_cases dd4 : a0_4 = a1_4
            ·subst dd4
             go_wp2
             go_meet
             case rel => exact ⟨_, (((t265.toList == t267.toList) != (a0_0 == a0_0 && (a0_1 == a0_1 && (a0_2 == a0_2 && (a0_3 == a0_3 && (a0_4 == a0_4))))))), (by first | rfl | exact congrArg Value.bool (Eq.symm (by assumption)) | (simp; done) | (simp [*]; done)), H', ⟨by have := HJ8.out; first | omega | exact Nat.le_refl _⟩, ⟨up BK260.out⟩, ⟨up BK261.out⟩, ⟨up BK262.out⟩, ⟨up BK263.out⟩, ⟨upB HB.out⟩⟩
            ·have df4 := eq_false dd4
             have dg4 : (a0_4 == a1_4) = false := beq_eq_false_iff_ne.mpr dd4
             clear dd4
             go_wp2
             go_meet
             case rel => exact ⟨_, (((t265.toList == t267.toList) != (a0_0 == a0_0 && (a0_1 == a0_1 && (a0_2 == a0_2 && (a0_3 == a0_3 && (a0_4 == a1_4))))))), (by first | rfl | exact congrArg Value.bool (Eq.symm (by assumption)) | (simp; done) | (simp [*]; done)), H', ⟨by have := HJ8.out; first | omega | exact Nat.le_refl _⟩, ⟨up BK260.out⟩, ⟨up BK261.out⟩, ⟨up BK262.out⟩, ⟨up BK263.out⟩, ⟨upB HB.out⟩⟩
           ·have df3 := eq_false dd3
            have dg3 : (a0_3 == a1_3) = false := beq_eq_false_iff_ne.mpr dd3
            clear dd3
            go_wp2
            go_meet
            case rel => exact ⟨_, (((t265.toList == t267.toList) != (a0_0 == a0_0 && (a0_1 == a0_1 && (a0_2 == a0_2 && (a0_3 == a1_3 && (a0_4 == a1_4))))))), (by first | rfl | exact congrArg Value.bool (Eq.symm (by assumption)) | (simp; done) | (simp [*]; done)), H', ⟨by have := HJ8.out; first | omega | exact Nat.le_refl _⟩, ⟨up BK260.out⟩, ⟨up BK261.out⟩, ⟨up BK262.out⟩, ⟨up BK263.out⟩, ⟨upB HB.out⟩⟩
          ·have df2 := eq_false dd2
           have dg2 : (a0_2 == a1_2) = false := beq_eq_false_iff_ne.mpr dd2
           clear dd2
           go_wp2
           go_meet
           case rel => exact ⟨_, (((t265.toList == t267.toList) != (a0_0 == a0_0 && (a0_1 == a0_1 && (a0_2 == a1_2 && (a0_3 == a1_3 && (a0_4 == a1_4))))))), (by first | rfl | exact congrArg Value.bool (Eq.symm (by assumption)) | (simp; done) | (simp [*]; done)), H', ⟨by have := HJ8.out; first | omega | exact Nat.le_refl _⟩, ⟨up BK260.out⟩, ⟨up BK261.out⟩, ⟨up BK262.out⟩, ⟨up BK263.out⟩, ⟨upB HB.out⟩⟩
         ·have df1 := eq_false dd1
          have dg1 : (a0_1 == a1_1) = false := beq_eq_false_iff_ne.mpr dd1
          clear dd1
          go_wp2
          go_meet
          case rel => exact ⟨_, (((t265.toList == t267.toList) != (a0_0 == a0_0 && (a0_1 == a1_1 && (a0_2 == a1_2 && (a0_3 == a1_3 && (a0_4 == a1_4))))))), (by first | rfl | exact congrArg Value.bool (Eq.symm (by assumption)) | (simp; done) | (simp [*]; done)), H', ⟨by have := HJ8.out; first | omega | exact Nat.le_refl _⟩, ⟨up BK260.out⟩, ⟨up BK261.out⟩, ⟨up BK262.out⟩, ⟨up BK263.out⟩, ⟨upB HB.out⟩⟩
        ·have df0 := eq_false dd0
         have dg0 : (a0_0 == a1_0) = false := beq_eq_false_iff_ne.mpr dd0
         clear dd0
         go_wp2
         go_meet
         case rel => exact ⟨_, (((t265.toList == t267.toList) != (a0_0 == a1_0 && (a0_1 == a1_1 && (a0_2 == a1_2 && (a0_3 == a1_3 && (a0_4 == a1_4))))))), (by first | rfl | exact congrArg Value.bool (Eq.symm (by assumption)) | (simp; done) | (simp [*]; done)), H', ⟨by have := HJ8.out; first | omega | exact Nat.le_refl _⟩, ⟨up BK260.out⟩, ⟨up BK261.out⟩, ⟨up BK262.out⟩, ⟨up BK263.out⟩, ⟨upB HB.out⟩⟩
       ·rw [if_neg c30] at H
        have c30b0 : (t268 == 0) = false := beq_eq_false_iff_ne.mpr c30
        have c30b1 : (t268 != 0) = true := bne_iff_ne.mpr c30
        have H' := Aside0.mk H
        clear H
        go_wp2
        go_meet
        case rel => exact ⟨_, (false), (by first | rfl | exact congrArg Value.bool (Eq.symm (by assumption)) | (simp; done) | (simp [*]; done)), H', ⟨by have := HJ8.out; first | omega | exact Nat.le_refl _⟩, ⟨up BK260.out⟩, ⟨up BK261.out⟩, ⟨up BK262.out⟩, ⟨up BK263.out⟩, ⟨upB HB.out⟩⟩
      ·rw [if_neg c29] at H
       have c29b0 : (t266 == 0) = false := beq_eq_false_iff_ne.mpr c29
       have c29b1 : (t266 != 0) = true := bne_iff_ne.mpr c29
       (first | rw [c29b0] | (simp only [i64_w, i32_w]; rw [c29b0]) | skip)
       have H' := Aside0.mk H
       clear H
       go_wp2
       go_meet
       case rel => exact ⟨_, (false), (by first | rfl | exact congrArg Value.bool (Eq.symm (by assumption)) | (simp; done) | (simp [*]; done)), H', ⟨by have := HJ8.out; first | omega | exact Nat.le_refl _⟩, ⟨up BK260.out⟩, ⟨up BK261.out⟩, ⟨up BK262.out⟩, ⟨up BK263.out⟩, ⟨upB HB.out⟩⟩
     case rest =>
      clear HC19
      try clear c1
      try clear c2
      try clear p2
      try clear c3
      try clear c4
      try clear c5
      try clear c8
      try clear c15
      try clear c15b0
      try clear c15b1
      try clear c16
      try clear c20
      try clear c21
      try clear c22
      try clear c25
      try clear c26
      try clear c29
      try clear c29b0
      try clear c29b1
      try clear c30
      try clear c30b0
      try clear c30b1
      try clear c31
      try clear c32
      try clear c33
      try clear c35
      try clear c36
      try clear hcz23_0
      try clear hcz23_1
      try clear hcz23_2
      try clear hcz23_3
      try clear hcz23_4
      try clear hcz27_0
      try clear hcz27_1
      try clear hcz27_2
      try clear hcz27_3
      try clear hcz27_4
      try clear hcz34_0
      try clear hcz34_1
      try clear hcz34_2
      try clear hcz34_3
      try clear hcz34_4
      try clear hcz37_0
      try clear hcz37_1
      try clear hcz37_2
      try clear hcz37_3
      try clear hcz37_4
      try clear hfz23_0
      try clear hfz23_1
      try clear hfz23_2
      try clear hfz23_3
      try clear hfz23_4
      try clear hfz27_0
      try clear hfz27_1
      try clear hfz27_2
      try clear hfz27_3
      try clear hfz27_4
      try clear hfz34_0
      try clear hfz34_1
      try clear hfz34_2
      try clear hfz34_3
      try clear hfz34_4
      try clear hfz37_0
      try clear hfz37_1
      try clear hfz37_2
      try clear hfz37_3
      try clear hfz37_4
      try clear p2
      obtain ⟨kq, x64_18, rfl, HA, HJ18, BK260, BK261, BK262, BK263, HB⟩ := hcut
      cases kq with
      | zero => exact absurd HA.out (by simp [revenantlaw32_TaleApart.j1])
      | succ kj18 =>
       have H := HA.out
       clear HA
       simp only [revenantlaw32_TaleApart.j1] at H
       by_cases c38 : x64_18 = true
       ·subst c38
        have H1 : (some false) = some r := by rw [if_pos rfl] at H; exact H
        clear H
        have H := H1
        clear H1
        obtain rfl := Option.some.inj H
        go_wp2
        go_ret
        exact ⟨by first | rfl | (simp [errW_none, errW_some] <;> rfl) | (simp [*, errW_none, errW_some] <;> rfl), upB HB.out⟩
       ·replace c38 := Bool.eq_false_iff.mpr c38
        subst c38
        have H1 : ((tale_Op.f a0_0 a0_1 a0_2 a0_3 a0_4 1 a2_0 a2_1 a2_2 a2_3).bind fun bt269 => ((tale_Op.f a0_0 a0_1 a0_2 a0_3 a0_4 1 a3_0 a3_1 a3_2 a3_3).bind fun bt271 => (if bt269.2 = 0 then (if bt271.2 = 0 then (revenantlaw32_TaleApart.j2 kj18 l4 l5 t265 t266 ((bt269.1.toList == bt271.1.toList) != (a2_0 == a3_0 && (a2_1 == a3_1 && (a2_2 == a3_2 && (a2_3 == a3_3))))) a0_0 a0_1 a0_2 a0_3 a0_4) else (revenantlaw32_TaleApart.j2 kj18 l4 l5 t265 t266 false a0_0 a0_1 a0_2 a0_3 a0_4)) else (revenantlaw32_TaleApart.j2 kj18 l4 l5 t265 t266 false a0_0 a0_1 a0_2 a0_3 a0_4)))) = some r := by rw [if_neg (show ¬ (false = true) by decide)] at H; exact H
        clear H
        have H := H1
        clear H1
        replace H := Option.bind_eq_some_iff.mp H
        obtain ⟨⟨t269, t270⟩, A390, H⟩ := H
        replace H : ((tale_Op.f a0_0 a0_1 a0_2 a0_3 a0_4 1 a3_0 a3_1 a3_2 a3_3).bind fun bt271 => (if t270 = 0 then (if bt271.2 = 0 then (revenantlaw32_TaleApart.j2 kj18 l4 l5 t265 t266 ((t269.toList == bt271.1.toList) != (a2_0 == a3_0 && (a2_1 == a3_1 && (a2_2 == a3_2 && (a2_3 == a3_3))))) a0_0 a0_1 a0_2 a0_3 a0_4) else (revenantlaw32_TaleApart.j2 kj18 l4 l5 t265 t266 false a0_0 a0_1 a0_2 a0_3 a0_4)) else (revenantlaw32_TaleApart.j2 kj18 l4 l5 t265 t266 false a0_0 a0_1 a0_2 a0_3 a0_4))) = some r := H
        have A39 := Aside0.mk A390
        clear A390
        replace H := Option.bind_eq_some_iff.mp H
        obtain ⟨⟨t271, t272⟩, A400, H⟩ := H
        replace H : (if t270 = 0 then (if t272 = 0 then (revenantlaw32_TaleApart.j2 kj18 l4 l5 t265 t266 ((t269.toList == t271.toList) != (a2_0 == a3_0 && (a2_1 == a3_1 && (a2_2 == a3_2 && (a2_3 == a3_3))))) a0_0 a0_1 a0_2 a0_3 a0_4) else (revenantlaw32_TaleApart.j2 kj18 l4 l5 t265 t266 false a0_0 a0_1 a0_2 a0_3 a0_4)) else (revenantlaw32_TaleApart.j2 kj18 l4 l5 t265 t266 false a0_0 a0_1 a0_2 a0_3 a0_4)) = some r := H
        have A40 := Aside0.mk A400
        clear A400
        have HC41 := Aside0.mk H
        clear H
        have hnb42 := NB260_261.out
        have hnc42 := NB261_260.out
        have hnb43 := NB260_262.out
        have hnc43 := NB262_260.out
        have hnb44 := NB260_263.out
        have hnc44 := NB263_260.out
        have hcz45_0 : wc.cell? ⟨gb260, 0, none⟩ = some (.int .i64 a0_0) := (blk_cell BK260.out 0).trans rfl
        have hcz45_1 : wc.cell? ⟨gb260, 1, none⟩ = some (.int .i64 a0_1) := (blk_cell BK260.out 1).trans rfl
        have hcz45_2 : wc.cell? ⟨gb260, 2, none⟩ = some (.int .i64 a0_2) := (blk_cell BK260.out 2).trans rfl
        have hcz45_3 : wc.cell? ⟨gb260, 3, none⟩ = some (.int .i64 a0_3) := (blk_cell BK260.out 3).trans rfl
        have hcz45_4 : wc.cell? ⟨gb260, 4, none⟩ = some (.int .i64 a0_4) := (blk_cell BK260.out 4).trans rfl
        have hfz45_0 := blk_frozen BK260.out 0
        have hfz45_1 := blk_frozen BK260.out 1
        have hfz45_2 := blk_frozen BK260.out 2
        have hfz45_3 := blk_frozen BK260.out 3
        have hfz45_4 := blk_frozen BK260.out 4
        have hnb46 := NB262_261.out
        have hnc46 := NB261_262.out
        have hnb47 := NB262_263.out
        have hnc47 := NB263_262.out
        have hcz48_0 : wc.cell? ⟨gb262, 0, none⟩ = some (.int .i64 a2_0) := (blk_cell BK262.out 0).trans rfl
        have hcz48_1 : wc.cell? ⟨gb262, 1, none⟩ = some (.int .u64 a2_1) := (blk_cell BK262.out 1).trans rfl
        have hcz48_2 : wc.cell? ⟨gb262, 2, none⟩ = some (.int .u64 a2_2) := (blk_cell BK262.out 2).trans rfl
        have hcz48_3 : wc.cell? ⟨gb262, 3, none⟩ = some (.int .i64 a2_3) := (blk_cell BK262.out 3).trans rfl
        have hfz48_0 := blk_frozen BK262.out 0
        have hfz48_1 := blk_frozen BK262.out 1
        have hfz48_2 := blk_frozen BK262.out 2
        have hfz48_3 := blk_frozen BK262.out 3
        go_upto_region 11 with (first | ((with_reducible refine gate_callee (f := 9) rfl ?_); refine goesL_ (some 68) rfl rfl Tryd.func9 (by kernel_rfl) rfl #[.agg #[.int .i64 a0_0, .int .i64 a0_1, .int .i64 a0_2, .int .i64 a0_3, .int .i64 a0_4], .int .i64 1, .agg #[.int .i64 a2_0, .int .u64 a2_1, .int .u64 a2_2, .int .i64 a2_3]] rfl (by (try simp only [List.map_toArray, List.map_cons, List.map_nil]); first | done | rfl | (simp only [List.length_drop, List.length_take]; rfl)) ?_; (with_reducible refine (tale_Op.calls a0_0 a0_1 a0_2 a0_3 a0_4 1 a2_0 a2_1 a2_2 a2_3 t269 t270 _ A39.out HTT.out (upB HB.out)).mono ?_); rintro e w49 ⟨rfl, hb⟩; refine ⟨_, rfl, ?_⟩; have n0_ := Aside0.mk (blk_below (g := gb260) (o := .cells #[.int .i64 a0_0, .int .i64 a0_1, .int .i64 a0_2, .int .i64 a0_3, .int .i64 a0_4] 31 (0, 0)) (up BK260.out) hb); have n1_ := Aside0.mk (blk_below (g := gb261) (o := .cells #[.int .i64 a1_0, .int .i64 a1_1, .int .i64 a1_2, .int .i64 a1_3, .int .i64 a1_4] 31 (0, 0)) (up BK261.out) hb); have n2_ := Aside0.mk (blk_below (g := gb262) (o := .cells #[.int .i64 a2_0, .int .u64 a2_1, .int .u64 a2_2, .int .i64 a2_3] 33 (0, 0)) (up BK262.out) hb); have n3_ := Aside0.mk (blk_below (g := gb263) (o := .cells #[.int .i64 a3_0, .int .u64 a3_1, .int .u64 a3_2, .int .i64 a3_3] 33 (0, 0)) (up BK263.out) hb); have n4_ := Aside0.mk (below_step (upB HB.out) hb); clear BK260; clear BK261; clear BK262; clear BK263; clear HB; have BK260 := n0_; have BK261 := n1_; have BK262 := n2_; have BK263 := n3_; have HB := n4_; clear n0_ n1_ n2_ n3_ n4_; (try clear hb); (try clear hb2); (try clear hk); (try clear hi); have hcz50_0 : w49.cell? ⟨gb260, 0, none⟩ = some (.int .i64 a0_0) := (blk_cell BK260.out 0).trans rfl; have hcz50_1 : w49.cell? ⟨gb260, 1, none⟩ = some (.int .i64 a0_1) := (blk_cell BK260.out 1).trans rfl; have hcz50_2 : w49.cell? ⟨gb260, 2, none⟩ = some (.int .i64 a0_2) := (blk_cell BK260.out 2).trans rfl; have hcz50_3 : w49.cell? ⟨gb260, 3, none⟩ = some (.int .i64 a0_3) := (blk_cell BK260.out 3).trans rfl; have hcz50_4 : w49.cell? ⟨gb260, 4, none⟩ = some (.int .i64 a0_4) := (blk_cell BK260.out 4).trans rfl; have hfz50_0 := blk_frozen BK260.out 0; have hfz50_1 := blk_frozen BK260.out 1; have hfz50_2 := blk_frozen BK260.out 2; have hfz50_3 := blk_frozen BK260.out 3; have hfz50_4 := blk_frozen BK260.out 4; have hnb51 := NB263_261.out; have hnc51 := NB261_263.out; have hcz52_0 : w49.cell? ⟨gb263, 0, none⟩ = some (.int .i64 a3_0) := (blk_cell BK263.out 0).trans rfl; have hcz52_1 : w49.cell? ⟨gb263, 1, none⟩ = some (.int .u64 a3_1) := (blk_cell BK263.out 1).trans rfl; have hcz52_2 : w49.cell? ⟨gb263, 2, none⟩ = some (.int .u64 a3_2) := (blk_cell BK263.out 2).trans rfl; have hcz52_3 : w49.cell? ⟨gb263, 3, none⟩ = some (.int .i64 a3_3) := (blk_cell BK263.out 3).trans rfl; have hfz52_0 := blk_frozen BK263.out 0; have hfz52_1 := blk_frozen BK263.out 1; have hfz52_2 := blk_frozen BK263.out 2; have hfz52_3 := blk_frozen BK263.out 3) | ((with_reducible refine gate_callee (f := 9) rfl ?_); refine goesL_ (some 74) rfl rfl Tryd.func9 (by kernel_rfl) rfl #[.agg #[.int .i64 a0_0, .int .i64 a0_1, .int .i64 a0_2, .int .i64 a0_3, .int .i64 a0_4], .int .i64 1, .agg #[.int .i64 a3_0, .int .u64 a3_1, .int .u64 a3_2, .int .i64 a3_3]] rfl (by (try simp only [List.map_toArray, List.map_cons, List.map_nil]); first | done | rfl | (simp only [List.length_drop, List.length_take]; rfl)) ?_; (with_reducible refine (tale_Op.calls a0_0 a0_1 a0_2 a0_3 a0_4 1 a3_0 a3_1 a3_2 a3_3 t271 t272 _ A40.out HTT.out (upB HB.out)).mono ?_); rintro e w53 ⟨rfl, hb⟩; refine ⟨_, rfl, ?_⟩; have n0_ := Aside0.mk (blk_below (g := gb260) (o := .cells #[.int .i64 a0_0, .int .i64 a0_1, .int .i64 a0_2, .int .i64 a0_3, .int .i64 a0_4] 31 (0, 0)) (up BK260.out) hb); have n1_ := Aside0.mk (blk_below (g := gb261) (o := .cells #[.int .i64 a1_0, .int .i64 a1_1, .int .i64 a1_2, .int .i64 a1_3, .int .i64 a1_4] 31 (0, 0)) (up BK261.out) hb); have n2_ := Aside0.mk (blk_below (g := gb262) (o := .cells #[.int .i64 a2_0, .int .u64 a2_1, .int .u64 a2_2, .int .i64 a2_3] 33 (0, 0)) (up BK262.out) hb); have n3_ := Aside0.mk (blk_below (g := gb263) (o := .cells #[.int .i64 a3_0, .int .u64 a3_1, .int .u64 a3_2, .int .i64 a3_3] 33 (0, 0)) (up BK263.out) hb); have n4_ := Aside0.mk (below_step (upB HB.out) hb); clear BK260; clear BK261; clear BK262; clear BK263; clear HB; have BK260 := n0_; have BK261 := n1_; have BK262 := n2_; have BK263 := n3_; have HB := n4_; clear n0_ n1_ n2_ n3_ n4_; (try clear hb); (try clear hb2); (try clear hk); (try clear hi)))
        (try simp only [Act.put, List.setIfInBounds_toArray, List.set_cons_zero, List.set_cons_succ])
        go_cut [91] (fun v91 wc => ∃ (kq : Nat) (x91_40 : Bool), v91 = .bool x91_40 ∧ Aside0 (revenantlaw32_TaleApart.j2 kq l4 l5 t265 t266 x91_40 a0_0 a0_1 a0_2 a0_3 a0_4 = some r) ∧ Aside0 (kq ≤ kj18) ∧ Aside0 (wc.heap[gb260]? = some (.cells #[.int .i64 a0_0, .int .i64 a0_1, .int .i64 a0_2, .int .i64 a0_3, .int .i64 a0_4] 31 (0, 0))) ∧ Aside0 (wc.heap[gb261]? = some (.cells #[.int .i64 a1_0, .int .i64 a1_1, .int .i64 a1_2, .int .i64 a1_3, .int .i64 a1_4] 31 (0, 0))) ∧ Aside0 (wc.heap[gb262]? = some (.cells #[.int .i64 a2_0, .int .u64 a2_1, .int .u64 a2_2, .int .i64 a2_3] 33 (0, 0))) ∧ Aside0 (wc.heap[gb263]? = some (.cells #[.int .i64 a3_0, .int .u64 a3_1, .int .u64 a3_2, .int .i64 a3_3] 33 (0, 0))) ∧ Aside0 (Below w.heap.size w wc))
        case first =>
         have H := HC41.out
         clear HC41
         by_cases c54 : t270 = 0
         ·rw [if_pos c54] at H
          have c54b0 : (t270 == 0) = true := beq_iff_eq.mpr c54
          have c54b1 : (t270 != 0) = false := bne_eq_false_iff_eq.mpr c54
          clear c54
          (first | rw [c54b0] | (simp only [i64_w, i32_w]; rw [c54b0]) | skip)
          by_cases c55 : t272 = 0
          ·rw [if_pos c55] at H
           have c55b0 : (t272 == 0) = true := beq_iff_eq.mpr c55
           have c55b1 : (t272 != 0) = false := bne_eq_false_iff_eq.mpr c55
           clear c55
           have H' := Aside0.mk H
           clear H
           have hnb56 := NB262_260.out
           have hnc56 := NB260_262.out
           have hnb57 := NB262_261.out
           have hnc57 := NB261_262.out
           have hnb58 := NB262_263.out
           have hnc58 := NB263_262.out
           have hcz59_0 : w53.cell? ⟨gb262, 0, none⟩ = some (.int .i64 a2_0) := (blk_cell BK262.out 0).trans rfl
           have hcz59_1 : w53.cell? ⟨gb262, 1, none⟩ = some (.int .u64 a2_1) := (blk_cell BK262.out 1).trans rfl
           have hcz59_2 : w53.cell? ⟨gb262, 2, none⟩ = some (.int .u64 a2_2) := (blk_cell BK262.out 2).trans rfl
           have hcz59_3 : w53.cell? ⟨gb262, 3, none⟩ = some (.int .i64 a2_3) := (blk_cell BK262.out 3).trans rfl
           have hfz59_0 := blk_frozen BK262.out 0
           have hfz59_1 := blk_frozen BK262.out 1
           have hfz59_2 := blk_frozen BK262.out 2
           have hfz59_3 := blk_frozen BK262.out 3
           have hnb60 := NB263_260.out
           have hnc60 := NB260_263.out
           have hnb61 := NB263_261.out
           have hnc61 := NB261_263.out
           have hcz62_0 : w53.cell? ⟨gb263, 0, none⟩ = some (.int .i64 a3_0) := (blk_cell BK263.out 0).trans rfl
           have hcz62_1 : w53.cell? ⟨gb263, 1, none⟩ = some (.int .u64 a3_1) := (blk_cell BK263.out 1).trans rfl
           have hcz62_2 : w53.cell? ⟨gb263, 2, none⟩ = some (.int .u64 a3_2) := (blk_cell BK263.out 2).trans rfl
           have hcz62_3 : w53.cell? ⟨gb263, 3, none⟩ = some (.int .i64 a3_3) := (blk_cell BK263.out 3).trans rfl
           have hfz62_0 := blk_frozen BK263.out 0
           have hfz62_1 := blk_frozen BK263.out 1
           have hfz62_2 := blk_frozen BK263.out 2
           have hfz62_3 := blk_frozen BK263.out 3
           by_cases dd0 : a2_0 = a3_0
           ·subst dd0
            by_cases dd1 : a2_1 = a3_1
            ·subst dd1
             by_cases dd2 : a2_2 = a3_2
             ·subst dd2
              by_cases dd3 : a2_3 = a3_3
              ·subst dd3
               go_wp2
               go_meet
               case rel => exact ⟨_, (((t269.toList == t271.toList) != (a2_0 == a2_0 && (a2_1 == a2_1 && (a2_2 == a2_2 && (a2_3 == a2_3)))))), (by first | rfl | exact congrArg Value.bool (Eq.symm (by assumption)) | (simp; done) | (simp [*]; done)), H', ⟨by have := HJ8.out; have := HJ18.out; first | omega | exact Nat.le_refl _⟩, ⟨up BK260.out⟩, ⟨up BK261.out⟩, ⟨up BK262.out⟩, ⟨up BK263.out⟩, ⟨upB HB.out⟩⟩
              ·have df3 := eq_false dd3
               have dg3 : (a2_3 == a3_3) = false := beq_eq_false_iff_ne.mpr dd3
               clear dd3
               go_wp2
               go_meet
               case rel => exact ⟨_, (((t269.toList == t271.toList) != (a2_0 == a2_0 && (a2_1 == a2_1 && (a2_2 == a2_2 && (a2_3 == a3_3)))))), (by first | rfl | exact congrArg Value.bool (Eq.symm (by assumption)) | (simp; done) | (simp [*]; done)), H', ⟨by have := HJ8.out; have := HJ18.out; first | omega | exact Nat.le_refl _⟩, ⟨up BK260.out⟩, ⟨up BK261.out⟩, ⟨up BK262.out⟩, ⟨up BK263.out⟩, ⟨upB HB.out⟩⟩
             ·have df2 := eq_false dd2
              have dg2 : (a2_2 == a3_2) = false := beq_eq_false_iff_ne.mpr dd2
              clear dd2
              go_wp2
              go_meet
              case rel => exact ⟨_, (((t269.toList == t271.toList) != (a2_0 == a2_0 && (a2_1 == a2_1 && (a2_2 == a3_2 && (a2_3 == a3_3)))))), (by first | rfl | exact congrArg Value.bool (Eq.symm (by assumption)) | (simp; done) | (simp [*]; done)), H', ⟨by have := HJ8.out; have := HJ18.out; first | omega | exact Nat.le_refl _⟩, ⟨up BK260.out⟩, ⟨up BK261.out⟩, ⟨up BK262.out⟩, ⟨up BK263.out⟩, ⟨upB HB.out⟩⟩
            ·have df1 := eq_false dd1
             have dg1 : (a2_1 == a3_1) = false := beq_eq_false_iff_ne.mpr dd1
             clear dd1
             go_wp2
             go_meet
             case rel => exact ⟨_, (((t269.toList == t271.toList) != (a2_0 == a2_0 && (a2_1 == a3_1 && (a2_2 == a3_2 && (a2_3 == a3_3)))))), (by first | rfl | exact congrArg Value.bool (Eq.symm (by assumption)) | (simp; done) | (simp [*]; done)), H', ⟨by have := HJ8.out; have := HJ18.out; first | omega | exact Nat.le_refl _⟩, ⟨up BK260.out⟩, ⟨up BK261.out⟩, ⟨up BK262.out⟩, ⟨up BK263.out⟩, ⟨upB HB.out⟩⟩
           ·have df0 := eq_false dd0
            have dg0 : (a2_0 == a3_0) = false := beq_eq_false_iff_ne.mpr dd0
            clear dd0
            go_wp2
            go_meet
            case rel => exact ⟨_, (((t269.toList == t271.toList) != (a2_0 == a3_0 && (a2_1 == a3_1 && (a2_2 == a3_2 && (a2_3 == a3_3)))))), (by first | rfl | exact congrArg Value.bool (Eq.symm (by assumption)) | (simp; done) | (simp [*]; done)), H', ⟨by have := HJ8.out; have := HJ18.out; first | omega | exact Nat.le_refl _⟩, ⟨up BK260.out⟩, ⟨up BK261.out⟩, ⟨up BK262.out⟩, ⟨up BK263.out⟩, ⟨upB HB.out⟩⟩
          ·rw [if_neg c55] at H
           have c55b0 : (t272 == 0) = false := beq_eq_false_iff_ne.mpr c55
           have c55b1 : (t272 != 0) = true := bne_iff_ne.mpr c55
           have H' := Aside0.mk H
           clear H
           go_wp2
           go_meet
           case rel => exact ⟨_, (false), (by first | rfl | exact congrArg Value.bool (Eq.symm (by assumption)) | (simp; done) | (simp [*]; done)), H', ⟨by have := HJ8.out; have := HJ18.out; first | omega | exact Nat.le_refl _⟩, ⟨up BK260.out⟩, ⟨up BK261.out⟩, ⟨up BK262.out⟩, ⟨up BK263.out⟩, ⟨upB HB.out⟩⟩
         ·rw [if_neg c54] at H
          have c54b0 : (t270 == 0) = false := beq_eq_false_iff_ne.mpr c54
          have c54b1 : (t270 != 0) = true := bne_iff_ne.mpr c54
          (first | rw [c54b0] | (simp only [i64_w, i32_w]; rw [c54b0]) | skip)
          have H' := Aside0.mk H
          clear H
          go_wp2
          go_meet
          case rel => exact ⟨_, (false), (by first | rfl | exact congrArg Value.bool (Eq.symm (by assumption)) | (simp; done) | (simp [*]; done)), H', ⟨by have := HJ8.out; have := HJ18.out; first | omega | exact Nat.le_refl _⟩, ⟨up BK260.out⟩, ⟨up BK261.out⟩, ⟨up BK262.out⟩, ⟨up BK263.out⟩, ⟨upB HB.out⟩⟩
        case rest =>
         clear HC41
         try clear c1
         try clear c2
         try clear p2
         try clear c3
         try clear c4
         try clear c5
         try clear c6
         try clear c8
         try clear c9
         try clear c15
         try clear c15b0
         try clear c15b1
         try clear c16
         try clear c20
         try clear c21
         try clear c22
         try clear c25
         try clear c26
         try clear c29
         try clear c29b0
         try clear c29b1
         try clear c30
         try clear c30b0
         try clear c30b1
         try clear c31
         try clear c32
         try clear c33
         try clear c35
         try clear c36
         try clear c38
         try clear c42
         try clear c43
         try clear c44
         try clear c46
         try clear c47
         try clear c51
         try clear c54
         try clear c54b0
         try clear c54b1
         try clear c55
         try clear c55b0
         try clear c55b1
         try clear c56
         try clear c57
         try clear c58
         try clear c60
         try clear c61
         try clear hcz23_0
         try clear hcz23_1
         try clear hcz23_2
         try clear hcz23_3
         try clear hcz23_4
         try clear hcz27_0
         try clear hcz27_1
         try clear hcz27_2
         try clear hcz27_3
         try clear hcz27_4
         try clear hcz34_0
         try clear hcz34_1
         try clear hcz34_2
         try clear hcz34_3
         try clear hcz34_4
         try clear hcz37_0
         try clear hcz37_1
         try clear hcz37_2
         try clear hcz37_3
         try clear hcz37_4
         try clear hcz45_0
         try clear hcz45_1
         try clear hcz45_2
         try clear hcz45_3
         try clear hcz45_4
         try clear hcz48_0
         try clear hcz48_1
         try clear hcz48_2
         try clear hcz48_3
         try clear hcz50_0
         try clear hcz50_1
         try clear hcz50_2
         try clear hcz50_3
         try clear hcz50_4
         try clear hcz52_0
         try clear hcz52_1
         try clear hcz52_2
         try clear hcz52_3
         try clear hcz59_0
         try clear hcz59_1
         try clear hcz59_2
         try clear hcz59_3
         try clear hcz62_0
         try clear hcz62_1
         try clear hcz62_2
         try clear hcz62_3
         try clear hfz23_0
         try clear hfz23_1
         try clear hfz23_2
         try clear hfz23_3
         try clear hfz23_4
         try clear hfz27_0
         try clear hfz27_1
         try clear hfz27_2
         try clear hfz27_3
         try clear hfz27_4
         try clear hfz34_0
         try clear hfz34_1
         try clear hfz34_2
         try clear hfz34_3
         try clear hfz34_4
         try clear hfz37_0
         try clear hfz37_1
         try clear hfz37_2
         try clear hfz37_3
         try clear hfz37_4
         try clear hfz45_0
         try clear hfz45_1
         try clear hfz45_2
         try clear hfz45_3
         try clear hfz45_4
         try clear hfz48_0
         try clear hfz48_1
         try clear hfz48_2
         try clear hfz48_3
         try clear hfz50_0
         try clear hfz50_1
         try clear hfz50_2
         try clear hfz50_3
         try clear hfz50_4
         try clear hfz52_0
         try clear hfz52_1
         try clear hfz52_2
         try clear hfz52_3
         try clear hfz59_0
         try clear hfz59_1
         try clear hfz59_2
         try clear hfz59_3
         try clear hfz62_0
         try clear hfz62_1
         try clear hfz62_2
         try clear hfz62_3
         try clear p2
         obtain ⟨kq, x91_40, rfl, HA, HJ40, BK260, BK261, BK262, BK263, HB⟩ := hcut
         cases kq with
         | zero => exact absurd HA.out (by simp [revenantlaw32_TaleApart.j2])
         | succ kj40 =>
          have H := HA.out
          clear HA
          simp only [revenantlaw32_TaleApart.j2] at H
          by_cases c63 : x91_40 = true
          ·subst c63
           have H1 : (some false) = some r := by rw [if_pos rfl] at H; exact H
           clear H
           have H := H1
           clear H1
           obtain rfl := Option.some.inj H
           go_wp2
           go_ret
           exact ⟨by first | rfl | (simp [errW_none, errW_some] <;> rfl) | (simp [*, errW_none, errW_some] <;> rfl), upB HB.out⟩
          ·replace c63 := Bool.eq_false_iff.mpr c63
           subst c63
           have H1 : ((tale_Picks.f l4).bind fun bt273 => ((tale_Picks.f l5).bind fun bt275 => (if bt273.2 = 0 then (if bt275.2 = 0 then ((revenantlaw32_ints.f kj40 l4 l5).bind fun t277 => (revenantlaw32_TaleApart.j3 kj40 t265 t266 bt273.1 bt273.2 ((bt273.1.toList == bt275.1.toList) != t277) a0_0 a0_1 a0_2 a0_3 a0_4)) else (revenantlaw32_TaleApart.j3 kj40 t265 t266 bt273.1 bt273.2 false a0_0 a0_1 a0_2 a0_3 a0_4)) else (revenantlaw32_TaleApart.j3 kj40 t265 t266 bt273.1 bt273.2 false a0_0 a0_1 a0_2 a0_3 a0_4)))) = some r := by rw [if_neg (show ¬ (false = true) by decide)] at H; exact H
           clear H
           have H := H1
           clear H1
           replace H := Option.bind_eq_some_iff.mp H
           obtain ⟨⟨t273, t274⟩, A640, H⟩ := H
           replace H : ((tale_Picks.f l5).bind fun bt275 => (if t274 = 0 then (if bt275.2 = 0 then ((revenantlaw32_ints.f kj40 l4 l5).bind fun t277 => (revenantlaw32_TaleApart.j3 kj40 t265 t266 t273 t274 ((t273.toList == bt275.1.toList) != t277) a0_0 a0_1 a0_2 a0_3 a0_4)) else (revenantlaw32_TaleApart.j3 kj40 t265 t266 t273 t274 false a0_0 a0_1 a0_2 a0_3 a0_4)) else (revenantlaw32_TaleApart.j3 kj40 t265 t266 t273 t274 false a0_0 a0_1 a0_2 a0_3 a0_4))) = some r := H
           have A64 := Aside0.mk A640
           clear A640
           replace H := Option.bind_eq_some_iff.mp H
           obtain ⟨⟨t275, t276⟩, A650, H⟩ := H
           replace H : (if t274 = 0 then (if t276 = 0 then ((revenantlaw32_ints.f kj40 l4 l5).bind fun t277 => (revenantlaw32_TaleApart.j3 kj40 t265 t266 t273 t274 ((t273.toList == t275.toList) != t277) a0_0 a0_1 a0_2 a0_3 a0_4)) else (revenantlaw32_TaleApart.j3 kj40 t265 t266 t273 t274 false a0_0 a0_1 a0_2 a0_3 a0_4)) else (revenantlaw32_TaleApart.j3 kj40 t265 t266 t273 t274 false a0_0 a0_1 a0_2 a0_3 a0_4)) = some r := H
           have A65 := Aside0.mk A650
           clear A650
           have HC66 := Aside0.mk H
           clear H
           go_upto_region 15 with (first | ((with_reducible refine gate_callee (f := 10) rfl ?_); refine goesL_ (some 94) rfl rfl Tryd.func10 (by kernel_rfl) rfl #[.slice A4 l4.length c4] rfl (by (try simp only [List.map_toArray, List.map_cons, List.map_nil]); first | done | rfl | (simp only [List.length_drop, List.length_take]; rfl)) ?_; (with_reducible refine (tale_Picks.calls _ _ l4 t273 t274 _ ?side1 ?side2 A64.out HTT.out (upB HB.out)).mono ?_); (case side1 => repeat (first | exact (Kd.C_below HR4.out HB.out) | (with_reducible refine Kd.C_alloc ?_ _) | (with_reducible refine Kd.C_drewN ?_ _) | (with_reducible refine Kd.C_drew ?_))); (case side2 => exact HC4.out); rintro e w67 ⟨rfl, hb⟩; refine ⟨_, rfl, ?_⟩; have n0_ := Aside0.mk (blk_below (g := gb260) (o := .cells #[.int .i64 a0_0, .int .i64 a0_1, .int .i64 a0_2, .int .i64 a0_3, .int .i64 a0_4] 31 (0, 0)) (up BK260.out) hb); have n1_ := Aside0.mk (blk_below (g := gb261) (o := .cells #[.int .i64 a1_0, .int .i64 a1_1, .int .i64 a1_2, .int .i64 a1_3, .int .i64 a1_4] 31 (0, 0)) (up BK261.out) hb); have n2_ := Aside0.mk (blk_below (g := gb262) (o := .cells #[.int .i64 a2_0, .int .u64 a2_1, .int .u64 a2_2, .int .i64 a2_3] 33 (0, 0)) (up BK262.out) hb); have n3_ := Aside0.mk (blk_below (g := gb263) (o := .cells #[.int .i64 a3_0, .int .u64 a3_1, .int .u64 a3_2, .int .i64 a3_3] 33 (0, 0)) (up BK263.out) hb); have n4_ := Aside0.mk (below_step (upB HB.out) hb); clear BK260; clear BK261; clear BK262; clear BK263; clear HB; have BK260 := n0_; have BK261 := n1_; have BK262 := n2_; have BK263 := n3_; have HB := n4_; clear n0_ n1_ n2_ n3_ n4_; (try clear hb); (try clear hb2); (try clear hk); (try clear hi)) | ((with_reducible refine gate_callee (f := 10) rfl ?_); refine goesL_ (some 99) rfl rfl Tryd.func10 (by kernel_rfl) rfl #[.slice A5 l5.length c5] rfl (by (try simp only [List.map_toArray, List.map_cons, List.map_nil]); first | done | rfl | (simp only [List.length_drop, List.length_take]; rfl)) ?_; (with_reducible refine (tale_Picks.calls _ _ l5 t275 t276 _ ?side1 ?side2 A65.out HTT.out (upB HB.out)).mono ?_); (case side1 => repeat (first | exact (Kd.C_below HR5.out HB.out) | (with_reducible refine Kd.C_alloc ?_ _) | (with_reducible refine Kd.C_drewN ?_ _) | (with_reducible refine Kd.C_drew ?_))); (case side2 => exact HC5.out); rintro e w68 ⟨rfl, hb⟩; refine ⟨_, rfl, ?_⟩; have n0_ := Aside0.mk (blk_below (g := gb260) (o := .cells #[.int .i64 a0_0, .int .i64 a0_1, .int .i64 a0_2, .int .i64 a0_3, .int .i64 a0_4] 31 (0, 0)) (up BK260.out) hb); have n1_ := Aside0.mk (blk_below (g := gb261) (o := .cells #[.int .i64 a1_0, .int .i64 a1_1, .int .i64 a1_2, .int .i64 a1_3, .int .i64 a1_4] 31 (0, 0)) (up BK261.out) hb); have n2_ := Aside0.mk (blk_below (g := gb262) (o := .cells #[.int .i64 a2_0, .int .u64 a2_1, .int .u64 a2_2, .int .i64 a2_3] 33 (0, 0)) (up BK262.out) hb); have n3_ := Aside0.mk (blk_below (g := gb263) (o := .cells #[.int .i64 a3_0, .int .u64 a3_1, .int .u64 a3_2, .int .i64 a3_3] 33 (0, 0)) (up BK263.out) hb); have n4_ := Aside0.mk (below_step (upB HB.out) hb); clear BK260; clear BK261; clear BK262; clear BK263; clear HB; have BK260 := n0_; have BK261 := n1_; have BK262 := n2_; have BK263 := n3_; have HB := n4_; clear n0_ n1_ n2_ n3_ n4_; (try clear hb); (try clear hb2); (try clear hk); (try clear hi)))
           (try simp only [Act.put, List.setIfInBounds_toArray, List.set_cons_zero, List.set_cons_succ])
           go_cut [116] (fun v116 wc => ∃ (kq : Nat) (x116_65 : Bool), v116 = .bool x116_65 ∧ Aside0 (revenantlaw32_TaleApart.j3 kq t265 t266 t273 t274 x116_65 a0_0 a0_1 a0_2 a0_3 a0_4 = some r) ∧ Aside0 (kq ≤ kj40) ∧ Aside0 (wc.heap[gb260]? = some (.cells #[.int .i64 a0_0, .int .i64 a0_1, .int .i64 a0_2, .int .i64 a0_3, .int .i64 a0_4] 31 (0, 0))) ∧ Aside0 (wc.heap[gb261]? = some (.cells #[.int .i64 a1_0, .int .i64 a1_1, .int .i64 a1_2, .int .i64 a1_3, .int .i64 a1_4] 31 (0, 0))) ∧ Aside0 (wc.heap[gb262]? = some (.cells #[.int .i64 a2_0, .int .u64 a2_1, .int .u64 a2_2, .int .i64 a2_3] 33 (0, 0))) ∧ Aside0 (wc.heap[gb263]? = some (.cells #[.int .i64 a3_0, .int .u64 a3_1, .int .u64 a3_2, .int .i64 a3_3] 33 (0, 0))) ∧ Aside0 (Below w.heap.size w wc))
           case first =>
            have H := HC66.out
            clear HC66
            by_cases c69 : t274 = 0
            ·rw [if_pos c69] at H
             have c69b0 : (t274 == 0) = true := beq_iff_eq.mpr c69
             have c69b1 : (t274 != 0) = false := bne_eq_false_iff_eq.mpr c69
             clear c69
             (first | rw [c69b0] | (simp only [i64_w, i32_w]; rw [c69b0]) | skip)
             by_cases c70 : t276 = 0
             ·rw [if_pos c70] at H
              have c70b0 : (t276 == 0) = true := beq_iff_eq.mpr c70
              have c70b1 : (t276 != 0) = false := bne_eq_false_iff_eq.mpr c70
              clear c70
              replace H := Option.bind_eq_some_iff.mp H
              obtain ⟨t277, A710, H⟩ := H
              replace H : (revenantlaw32_TaleApart.j3 kj40 t265 t266 t273 t274 ((t273.toList == t275.toList) != t277) a0_0 a0_1 a0_2 a0_3 a0_4) = some r := H
              have A71 := Aside0.mk A710
              clear A710
              have H' := Aside0.mk H
              clear H
              go_wp2_with (first | (go_at_call 11; (with_reducible refine (revenantlaw32_ints.calls kj40 _ _ l4 _ _ l5 t277 _ ?side1 ?side2 ?side3 ?side4 A71.out).mono ?_); (case side1 => repeat (first | exact (Kd.C_below HR4.out HB.out) | (with_reducible refine Kd.C_alloc ?_ _) | (with_reducible refine Kd.C_drewN ?_ _) | (with_reducible refine Kd.C_drew ?_))); (case side2 => exact HC4.out); (case side3 => repeat (first | exact (Kd.C_below HR5.out HB.out) | (with_reducible refine Kd.C_alloc ?_ _) | (with_reducible refine Kd.C_drewN ?_ _) | (with_reducible refine Kd.C_drew ?_))); (case side4 => exact HC5.out); rintro e w' ⟨rfl, ⟨nd, rfl⟩⟩))
              go_meet
              case rel => exact ⟨_, (((t273.toList == t275.toList) != t277)), (by first | rfl | exact congrArg Value.bool (Eq.symm (by assumption)) | (simp; done) | (simp [*]; done)), H', ⟨by have := HJ8.out; have := HJ18.out; have := HJ40.out; first | omega | exact Nat.le_refl _⟩, ⟨up BK260.out⟩, ⟨up BK261.out⟩, ⟨up BK262.out⟩, ⟨up BK263.out⟩, ⟨upB HB.out⟩⟩
             ·rw [if_neg c70] at H
              have c70b0 : (t276 == 0) = false := beq_eq_false_iff_ne.mpr c70
              have c70b1 : (t276 != 0) = true := bne_iff_ne.mpr c70
              have H' := Aside0.mk H
              clear H
              go_wp2
              go_meet
              case rel => exact ⟨_, (false), (by first | rfl | exact congrArg Value.bool (Eq.symm (by assumption)) | (simp; done) | (simp [*]; done)), H', ⟨by have := HJ8.out; have := HJ18.out; have := HJ40.out; first | omega | exact Nat.le_refl _⟩, ⟨up BK260.out⟩, ⟨up BK261.out⟩, ⟨up BK262.out⟩, ⟨up BK263.out⟩, ⟨upB HB.out⟩⟩
            ·rw [if_neg c69] at H
             have c69b0 : (t274 == 0) = false := beq_eq_false_iff_ne.mpr c69
             have c69b1 : (t274 != 0) = true := bne_iff_ne.mpr c69
             (first | rw [c69b0] | (simp only [i64_w, i32_w]; rw [c69b0]) | skip)
             have H' := Aside0.mk H
             clear H
             go_wp2
             go_meet
             case rel => exact ⟨_, (false), (by first | rfl | exact congrArg Value.bool (Eq.symm (by assumption)) | (simp; done) | (simp [*]; done)), H', ⟨by have := HJ8.out; have := HJ18.out; have := HJ40.out; first | omega | exact Nat.le_refl _⟩, ⟨up BK260.out⟩, ⟨up BK261.out⟩, ⟨up BK262.out⟩, ⟨up BK263.out⟩, ⟨upB HB.out⟩⟩
           case rest =>
            clear HC66
            try clear c1
            try clear c2
            try clear p2
            try clear c3
            try clear c4
            try clear c5
            try clear c6
            try clear c7
            try clear c8
            try clear c9
            try clear c10
            try clear c15
            try clear c15b0
            try clear c15b1
            try clear c16
            try clear c20
            try clear c21
            try clear c22
            try clear c25
            try clear c26
            try clear c29
            try clear c29b0
            try clear c29b1
            try clear c30
            try clear c30b0
            try clear c30b1
            try clear c31
            try clear c32
            try clear c33
            try clear c35
            try clear c36
            try clear c38
            try clear c42
            try clear c43
            try clear c44
            try clear c46
            try clear c47
            try clear c51
            try clear c54
            try clear c54b0
            try clear c54b1
            try clear c55
            try clear c55b0
            try clear c55b1
            try clear c56
            try clear c57
            try clear c58
            try clear c60
            try clear c61
            try clear c63
            try clear c69
            try clear c69b0
            try clear c69b1
            try clear c70
            try clear c70b0
            try clear c70b1
            try clear hcz23_0
            try clear hcz23_1
            try clear hcz23_2
            try clear hcz23_3
            try clear hcz23_4
            try clear hcz27_0
            try clear hcz27_1
            try clear hcz27_2
            try clear hcz27_3
            try clear hcz27_4
            try clear hcz34_0
            try clear hcz34_1
            try clear hcz34_2
            try clear hcz34_3
            try clear hcz34_4
            try clear hcz37_0
            try clear hcz37_1
            try clear hcz37_2
            try clear hcz37_3
            try clear hcz37_4
            try clear hcz45_0
            try clear hcz45_1
            try clear hcz45_2
            try clear hcz45_3
            try clear hcz45_4
            try clear hcz48_0
            try clear hcz48_1
            try clear hcz48_2
            try clear hcz48_3
            try clear hcz50_0
            try clear hcz50_1
            try clear hcz50_2
            try clear hcz50_3
            try clear hcz50_4
            try clear hcz52_0
            try clear hcz52_1
            try clear hcz52_2
            try clear hcz52_3
            try clear hcz59_0
            try clear hcz59_1
            try clear hcz59_2
            try clear hcz59_3
            try clear hcz62_0
            try clear hcz62_1
            try clear hcz62_2
            try clear hcz62_3
            try clear hfz23_0
            try clear hfz23_1
            try clear hfz23_2
            try clear hfz23_3
            try clear hfz23_4
            try clear hfz27_0
            try clear hfz27_1
            try clear hfz27_2
            try clear hfz27_3
            try clear hfz27_4
            try clear hfz34_0
            try clear hfz34_1
            try clear hfz34_2
            try clear hfz34_3
            try clear hfz34_4
            try clear hfz37_0
            try clear hfz37_1
            try clear hfz37_2
            try clear hfz37_3
            try clear hfz37_4
            try clear hfz45_0
            try clear hfz45_1
            try clear hfz45_2
            try clear hfz45_3
            try clear hfz45_4
            try clear hfz48_0
            try clear hfz48_1
            try clear hfz48_2
            try clear hfz48_3
            try clear hfz50_0
            try clear hfz50_1
            try clear hfz50_2
            try clear hfz50_3
            try clear hfz50_4
            try clear hfz52_0
            try clear hfz52_1
            try clear hfz52_2
            try clear hfz52_3
            try clear hfz59_0
            try clear hfz59_1
            try clear hfz59_2
            try clear hfz59_3
            try clear hfz62_0
            try clear hfz62_1
            try clear hfz62_2
            try clear hfz62_3
            try clear p2
            obtain ⟨kq, x116_65, rfl, HA, HJ65, BK260, BK261, BK262, BK263, HB⟩ := hcut
            cases kq with
            | zero => exact absurd HA.out (by simp [revenantlaw32_TaleApart.j3])
            | succ kj65 =>
             have H := HA.out
             clear HA
             simp only [revenantlaw32_TaleApart.j3] at H
             by_cases c72 : x116_65 = true
             ·subst c72
              have H1 : (some false) = some r := by rw [if_pos rfl] at H; exact H
              clear H
              have H := H1
              clear H1
              obtain rfl := Option.some.inj H
              go_wp2
              go_ret
              exact ⟨by first | rfl | (simp [errW_none, errW_some] <;> rfl) | (simp [*, errW_none, errW_some] <;> rfl), upB HB.out⟩
             ·replace c72 := Bool.eq_false_iff.mpr c72
              subst c72
              have H1 : (if t266 = 0 then ((tale_ReadOp.f kj65 a0_0 a0_1 a0_2 a0_3 a0_4 t265).bind fun bt278 => (if bt278.2.2.2.2.2 = 0 then (some false) else (revenantlaw32_TaleApart.j4 kj65 t273 t274))) else (revenantlaw32_TaleApart.j4 kj65 t273 t274)) = some r := by rw [if_neg (show ¬ (false = true) by decide)] at H; exact H
              clear H
              have H := H1
              clear H1
              have HC73 := Aside0.mk H
              clear H
              go_upto_if 118 with (fail)
              go_cut [] (fun wc => ∃ (kq : Nat), Aside0 (revenantlaw32_TaleApart.j4 kq t273 t274 = some r) ∧ Aside0 (kq ≤ kj65) ∧ Aside0 (wc.heap[gb260]? = some (.cells #[.int .i64 a0_0, .int .i64 a0_1, .int .i64 a0_2, .int .i64 a0_3, .int .i64 a0_4] 31 (0, 0))) ∧ Aside0 (wc.heap[gb261]? = some (.cells #[.int .i64 a1_0, .int .i64 a1_1, .int .i64 a1_2, .int .i64 a1_3, .int .i64 a1_4] 31 (0, 0))) ∧ Aside0 (wc.heap[gb262]? = some (.cells #[.int .i64 a2_0, .int .u64 a2_1, .int .u64 a2_2, .int .i64 a2_3] 33 (0, 0))) ∧ Aside0 (wc.heap[gb263]? = some (.cells #[.int .i64 a3_0, .int .u64 a3_1, .int .u64 a3_2, .int .i64 a3_3] 33 (0, 0))) ∧ Aside0 (Below w.heap.size w wc))
              case first =>
               have H := HC73.out
               clear HC73
               by_cases c74 : t266 = 0
               ·rw [if_pos c74] at H
                have c74b0 : (t266 == 0) = true := beq_iff_eq.mpr c74
                have c74b1 : (t266 != 0) = false := bne_eq_false_iff_eq.mpr c74
                clear c74
                (first | rw [c74b0] | (simp only [i64_w, i32_w]; rw [c74b0]) | skip)
                replace H := Option.bind_eq_some_iff.mp H
                obtain ⟨⟨t278, t279, t280, t281, t282, t283⟩, A750, H⟩ := H
                replace H : (if t283 = 0 then (some false) else (revenantlaw32_TaleApart.j4 kj65 t273 t274)) = some r := H
                have A75 := Aside0.mk A750
                clear A750
                by_cases c76 : t283 = 0
                ·rw [if_pos c76] at H
                 have c76b0 : (t283 == 0) = true := beq_iff_eq.mpr c76
                 have c76b1 : (t283 != 0) = false := bne_eq_false_iff_eq.mpr c76
                 clear c76
                 obtain rfl := Option.some.inj H
                 have hnb77 := NB260_261.out
                 have hnc77 := NB261_260.out
                 have hnb78 := NB260_262.out
                 have hnc78 := NB262_260.out
                 have hnb79 := NB260_263.out
                 have hnc79 := NB263_260.out
                 have hcz80_0 : wc.cell? ⟨gb260, 0, none⟩ = some (.int .i64 a0_0) := (blk_cell BK260.out 0).trans rfl
                 have hcz80_1 : wc.cell? ⟨gb260, 1, none⟩ = some (.int .i64 a0_1) := (blk_cell BK260.out 1).trans rfl
                 have hcz80_2 : wc.cell? ⟨gb260, 2, none⟩ = some (.int .i64 a0_2) := (blk_cell BK260.out 2).trans rfl
                 have hcz80_3 : wc.cell? ⟨gb260, 3, none⟩ = some (.int .i64 a0_3) := (blk_cell BK260.out 3).trans rfl
                 have hcz80_4 : wc.cell? ⟨gb260, 4, none⟩ = some (.int .i64 a0_4) := (blk_cell BK260.out 4).trans rfl
                 have hfz80_0 := blk_frozen BK260.out 0
                 have hfz80_1 := blk_frozen BK260.out 1
                 have hfz80_2 := blk_frozen BK260.out 2
                 have hfz80_3 := blk_frozen BK260.out 3
                 have hfz80_4 := blk_frozen BK260.out 4
                 go_wp2_with (first | ((with_reducible refine gate_callee (f := 12) rfl ?_); refine goesL_ (some 122) rfl rfl Tryd.func12 (by kernel_rfl) rfl #[.agg #[.int .i64 a0_0, .int .i64 a0_1, .int .i64 a0_2, .int .i64 a0_3, .int .i64 a0_4], .string t265] rfl (by (try simp only [List.map_toArray, List.map_cons, List.map_nil]); first | done | rfl | (simp only [List.length_drop, List.length_take]; rfl)) ?_; (with_reducible refine (tale_ReadOp.calls kj65 a0_0 a0_1 a0_2 a0_3 a0_4 t265 t278 t279 t280 t281 t282 t283 _ A75.out HTT.out (upB HB.out)).mono ?_); rintro e w81 ⟨rfl, hb⟩; refine ⟨_, rfl, ?_⟩; have n0_ := Aside0.mk (blk_below (g := gb260) (o := .cells #[.int .i64 a0_0, .int .i64 a0_1, .int .i64 a0_2, .int .i64 a0_3, .int .i64 a0_4] 31 (0, 0)) (up BK260.out) hb); have n1_ := Aside0.mk (blk_below (g := gb261) (o := .cells #[.int .i64 a1_0, .int .i64 a1_1, .int .i64 a1_2, .int .i64 a1_3, .int .i64 a1_4] 31 (0, 0)) (up BK261.out) hb); have n2_ := Aside0.mk (blk_below (g := gb262) (o := .cells #[.int .i64 a2_0, .int .u64 a2_1, .int .u64 a2_2, .int .i64 a2_3] 33 (0, 0)) (up BK262.out) hb); have n3_ := Aside0.mk (blk_below (g := gb263) (o := .cells #[.int .i64 a3_0, .int .u64 a3_1, .int .u64 a3_2, .int .i64 a3_3] 33 (0, 0)) (up BK263.out) hb); have n4_ := Aside0.mk (below_step (upB HB.out) hb); clear BK260; clear BK261; clear BK262; clear BK263; clear HB; have BK260 := n0_; have BK261 := n1_; have BK262 := n2_; have BK263 := n3_; have HB := n4_; clear n0_ n1_ n2_ n3_ n4_; (try clear hb); (try clear hb2); (try clear hk); (try clear hi)) | ((with_reducible refine gate_dst (N := 26) rfl ?_); (try (refine gate_guard (by rfl) ?_; dsimp only)); refine box_event ?hg (N := 26) ?hd (cs := #[.int .i64 0, .int .u64 0, .int .u64 0, .int .i64 0]) (t := 33) ?hr ?_; (case hd => rfl); (case hg => rfl); (case hr => first | (go_simp; done) | (go_simp; rfl)); intro gb284 hg w82 hbox hb; have n0_ := Aside0.mk (blk_below (g := gb260) (o := .cells #[.int .i64 a0_0, .int .i64 a0_1, .int .i64 a0_2, .int .i64 a0_3, .int .i64 a0_4] 31 (0, 0)) (up BK260.out) hb); have n1_ := Aside0.mk (blk_below (g := gb261) (o := .cells #[.int .i64 a1_0, .int .i64 a1_1, .int .i64 a1_2, .int .i64 a1_3, .int .i64 a1_4] 31 (0, 0)) (up BK261.out) hb); have n2_ := Aside0.mk (blk_below (g := gb262) (o := .cells #[.int .i64 a2_0, .int .u64 a2_1, .int .u64 a2_2, .int .i64 a2_3] 33 (0, 0)) (up BK262.out) hb); have n3_ := Aside0.mk (blk_below (g := gb263) (o := .cells #[.int .i64 a3_0, .int .u64 a3_1, .int .u64 a3_2, .int .i64 a3_3] 33 (0, 0)) (up BK263.out) hb); have n4_ := Aside0.mk (below_step (upB HB.out) hb); have n5_ := Aside0.mk (hbox); have n6_ := Aside0.mk ((by rw [hg]; exact (below_size (upB HB.out)) : w.heap.size ≤ gb284)); have n7_ := Aside0.mk ((by rw [hg]; exact (below_size (upB HB.out)) : w.heap.size ≤ gb284)); have n8_ := Aside0.mk ((by rw [hg]; exact Nat.ne_of_lt (blk_lt (g := gb260) (o := .cells #[.int .i64 a0_0, .int .i64 a0_1, .int .i64 a0_2, .int .i64 a0_3, .int .i64 a0_4] 31 (0, 0)) (up BK260.out)) : gb260 ≠ gb284)); have n9_ := Aside0.mk ((by rw [hg]; exact Nat.ne_of_gt (blk_lt (g := gb260) (o := .cells #[.int .i64 a0_0, .int .i64 a0_1, .int .i64 a0_2, .int .i64 a0_3, .int .i64 a0_4] 31 (0, 0)) (up BK260.out)) : gb284 ≠ gb260)); have n10_ := Aside0.mk ((by rw [hg]; exact Nat.ne_of_lt (blk_lt (g := gb261) (o := .cells #[.int .i64 a1_0, .int .i64 a1_1, .int .i64 a1_2, .int .i64 a1_3, .int .i64 a1_4] 31 (0, 0)) (up BK261.out)) : gb261 ≠ gb284)); have n11_ := Aside0.mk ((by rw [hg]; exact Nat.ne_of_gt (blk_lt (g := gb261) (o := .cells #[.int .i64 a1_0, .int .i64 a1_1, .int .i64 a1_2, .int .i64 a1_3, .int .i64 a1_4] 31 (0, 0)) (up BK261.out)) : gb284 ≠ gb261)); have n12_ := Aside0.mk ((by rw [hg]; exact Nat.ne_of_lt (blk_lt (g := gb262) (o := .cells #[.int .i64 a2_0, .int .u64 a2_1, .int .u64 a2_2, .int .i64 a2_3] 33 (0, 0)) (up BK262.out)) : gb262 ≠ gb284)); have n13_ := Aside0.mk ((by rw [hg]; exact Nat.ne_of_gt (blk_lt (g := gb262) (o := .cells #[.int .i64 a2_0, .int .u64 a2_1, .int .u64 a2_2, .int .i64 a2_3] 33 (0, 0)) (up BK262.out)) : gb284 ≠ gb262)); have n14_ := Aside0.mk ((by rw [hg]; exact Nat.ne_of_lt (blk_lt (g := gb263) (o := .cells #[.int .i64 a3_0, .int .u64 a3_1, .int .u64 a3_2, .int .i64 a3_3] 33 (0, 0)) (up BK263.out)) : gb263 ≠ gb284)); have n15_ := Aside0.mk ((by rw [hg]; exact Nat.ne_of_gt (blk_lt (g := gb263) (o := .cells #[.int .i64 a3_0, .int .u64 a3_1, .int .u64 a3_2, .int .i64 a3_3] 33 (0, 0)) (up BK263.out)) : gb284 ≠ gb263)); clear BK260; clear BK261; clear BK262; clear BK263; clear HB; have BK260 := n0_; have BK261 := n1_; have BK262 := n2_; have BK263 := n3_; have HB := n4_; have BK284 := n5_; have GW284 := n6_; have GE284 := n7_; have NB260_284 := n8_; have NB284_260 := n9_; have NB261_284 := n10_; have NB284_261 := n11_; have NB262_284 := n12_; have NB284_262 := n13_; have NB263_284 := n14_; have NB284_263 := n15_; clear n0_ n1_ n2_ n3_ n4_ n5_ n6_ n7_ n8_ n9_ n10_ n11_ n12_ n13_ n14_ n15_; clear hb hbox hg; have hnb83 := NB284_260.out; have hnc83 := NB260_284.out; have hnb84 := NB284_261.out; have hnc84 := NB261_284.out; have hnb85 := NB284_262.out; have hnc85 := NB262_284.out; have hnb86 := NB284_263.out; have hnc86 := NB263_284.out; have hcz87_0 : w82.cell? ⟨gb284, 0, none⟩ = some (.int .i64 0) := (blk_cell BK284.out 0).trans rfl; have hcz87_1 : w82.cell? ⟨gb284, 1, none⟩ = some (.int .u64 0) := (blk_cell BK284.out 1).trans rfl; have hcz87_2 : w82.cell? ⟨gb284, 2, none⟩ = some (.int .u64 0) := (blk_cell BK284.out 2).trans rfl; have hcz87_3 : w82.cell? ⟨gb284, 3, none⟩ = some (.int .i64 0) := (blk_cell BK284.out 3).trans rfl; have hfz87_0 := blk_frozen BK284.out 0; have hfz87_1 := blk_frozen BK284.out 1; have hfz87_2 := blk_frozen BK284.out 2; have hfz87_3 := blk_frozen BK284.out 3))
                 go_ret
                 exact ⟨by first | rfl | (simp [errW_none, errW_some] <;> rfl) | (simp [*, errW_none, errW_some] <;> rfl), by repeat (first | (with_reducible first | exact HB.out | apply below_alloc | apply pw_below_drewN | apply below_drew1 | refine below_set ?_ GE260.out | refine below_set ?_ GE261.out | refine below_set ?_ GE262.out | refine below_set ?_ GE263.out | refine below_set ?_ GE284.out) | exact HB.out)⟩
                ·rw [if_neg c76] at H
                 have c76b0 : (t283 == 0) = false := beq_eq_false_iff_ne.mpr c76
                 have c76b1 : (t283 != 0) = true := bne_iff_ne.mpr c76
                 have H' := Aside0.mk H
                 clear H
                 have hnb88 := NB260_261.out
                 have hnc88 := NB261_260.out
                 have hnb89 := NB260_262.out
                 have hnc89 := NB262_260.out
                 have hnb90 := NB260_263.out
                 have hnc90 := NB263_260.out
                 have hcz91_0 : wc.cell? ⟨gb260, 0, none⟩ = some (.int .i64 a0_0) := (blk_cell BK260.out 0).trans rfl
                 have hcz91_1 : wc.cell? ⟨gb260, 1, none⟩ = some (.int .i64 a0_1) := (blk_cell BK260.out 1).trans rfl
                 have hcz91_2 : wc.cell? ⟨gb260, 2, none⟩ = some (.int .i64 a0_2) := (blk_cell BK260.out 2).trans rfl
                 have hcz91_3 : wc.cell? ⟨gb260, 3, none⟩ = some (.int .i64 a0_3) := (blk_cell BK260.out 3).trans rfl
                 have hcz91_4 : wc.cell? ⟨gb260, 4, none⟩ = some (.int .i64 a0_4) := (blk_cell BK260.out 4).trans rfl
                 have hfz91_0 := blk_frozen BK260.out 0
                 have hfz91_1 := blk_frozen BK260.out 1
                 have hfz91_2 := blk_frozen BK260.out 2
                 have hfz91_3 := blk_frozen BK260.out 3
                 have hfz91_4 := blk_frozen BK260.out 4
                 go_wp2_with (first | ((with_reducible refine gate_callee (f := 12) rfl ?_); refine goesL_ (some 122) rfl rfl Tryd.func12 (by kernel_rfl) rfl #[.agg #[.int .i64 a0_0, .int .i64 a0_1, .int .i64 a0_2, .int .i64 a0_3, .int .i64 a0_4], .string t265] rfl (by (try simp only [List.map_toArray, List.map_cons, List.map_nil]); first | done | rfl | (simp only [List.length_drop, List.length_take]; rfl)) ?_; (with_reducible refine (tale_ReadOp.calls kj65 a0_0 a0_1 a0_2 a0_3 a0_4 t265 t278 t279 t280 t281 t282 t283 _ A75.out HTT.out (upB HB.out)).mono ?_); rintro e w92 ⟨rfl, hb⟩; refine ⟨_, rfl, ?_⟩; have n0_ := Aside0.mk (blk_below (g := gb260) (o := .cells #[.int .i64 a0_0, .int .i64 a0_1, .int .i64 a0_2, .int .i64 a0_3, .int .i64 a0_4] 31 (0, 0)) (up BK260.out) hb); have n1_ := Aside0.mk (blk_below (g := gb261) (o := .cells #[.int .i64 a1_0, .int .i64 a1_1, .int .i64 a1_2, .int .i64 a1_3, .int .i64 a1_4] 31 (0, 0)) (up BK261.out) hb); have n2_ := Aside0.mk (blk_below (g := gb262) (o := .cells #[.int .i64 a2_0, .int .u64 a2_1, .int .u64 a2_2, .int .i64 a2_3] 33 (0, 0)) (up BK262.out) hb); have n3_ := Aside0.mk (blk_below (g := gb263) (o := .cells #[.int .i64 a3_0, .int .u64 a3_1, .int .u64 a3_2, .int .i64 a3_3] 33 (0, 0)) (up BK263.out) hb); have n4_ := Aside0.mk (below_step (upB HB.out) hb); clear BK260; clear BK261; clear BK262; clear BK263; clear HB; have BK260 := n0_; have BK261 := n1_; have BK262 := n2_; have BK263 := n3_; have HB := n4_; clear n0_ n1_ n2_ n3_ n4_; (try clear hb); (try clear hb2); (try clear hk); (try clear hi)) | ((with_reducible refine gate_dst (N := 26) rfl ?_); (try (refine gate_guard (by rfl) ?_; dsimp only)); refine box_event ?hg (N := 26) ?hd (cs := #[.int .i64 0, .int .u64 0, .int .u64 0, .int .i64 0]) (t := 33) ?hr ?_; (case hd => rfl); (case hg => rfl); (case hr => first | (go_simp; done) | (go_simp; rfl)); intro gb284 hg w93 hbox hb; have n0_ := Aside0.mk (blk_below (g := gb260) (o := .cells #[.int .i64 a0_0, .int .i64 a0_1, .int .i64 a0_2, .int .i64 a0_3, .int .i64 a0_4] 31 (0, 0)) (up BK260.out) hb); have n1_ := Aside0.mk (blk_below (g := gb261) (o := .cells #[.int .i64 a1_0, .int .i64 a1_1, .int .i64 a1_2, .int .i64 a1_3, .int .i64 a1_4] 31 (0, 0)) (up BK261.out) hb); have n2_ := Aside0.mk (blk_below (g := gb262) (o := .cells #[.int .i64 a2_0, .int .u64 a2_1, .int .u64 a2_2, .int .i64 a2_3] 33 (0, 0)) (up BK262.out) hb); have n3_ := Aside0.mk (blk_below (g := gb263) (o := .cells #[.int .i64 a3_0, .int .u64 a3_1, .int .u64 a3_2, .int .i64 a3_3] 33 (0, 0)) (up BK263.out) hb); have n4_ := Aside0.mk (below_step (upB HB.out) hb); have n5_ := Aside0.mk (hbox); have n6_ := Aside0.mk ((by rw [hg]; exact (below_size (upB HB.out)) : w.heap.size ≤ gb284)); have n7_ := Aside0.mk ((by rw [hg]; exact (below_size (upB HB.out)) : w.heap.size ≤ gb284)); have n8_ := Aside0.mk ((by rw [hg]; exact Nat.ne_of_lt (blk_lt (g := gb260) (o := .cells #[.int .i64 a0_0, .int .i64 a0_1, .int .i64 a0_2, .int .i64 a0_3, .int .i64 a0_4] 31 (0, 0)) (up BK260.out)) : gb260 ≠ gb284)); have n9_ := Aside0.mk ((by rw [hg]; exact Nat.ne_of_gt (blk_lt (g := gb260) (o := .cells #[.int .i64 a0_0, .int .i64 a0_1, .int .i64 a0_2, .int .i64 a0_3, .int .i64 a0_4] 31 (0, 0)) (up BK260.out)) : gb284 ≠ gb260)); have n10_ := Aside0.mk ((by rw [hg]; exact Nat.ne_of_lt (blk_lt (g := gb261) (o := .cells #[.int .i64 a1_0, .int .i64 a1_1, .int .i64 a1_2, .int .i64 a1_3, .int .i64 a1_4] 31 (0, 0)) (up BK261.out)) : gb261 ≠ gb284)); have n11_ := Aside0.mk ((by rw [hg]; exact Nat.ne_of_gt (blk_lt (g := gb261) (o := .cells #[.int .i64 a1_0, .int .i64 a1_1, .int .i64 a1_2, .int .i64 a1_3, .int .i64 a1_4] 31 (0, 0)) (up BK261.out)) : gb284 ≠ gb261)); have n12_ := Aside0.mk ((by rw [hg]; exact Nat.ne_of_lt (blk_lt (g := gb262) (o := .cells #[.int .i64 a2_0, .int .u64 a2_1, .int .u64 a2_2, .int .i64 a2_3] 33 (0, 0)) (up BK262.out)) : gb262 ≠ gb284)); have n13_ := Aside0.mk ((by rw [hg]; exact Nat.ne_of_gt (blk_lt (g := gb262) (o := .cells #[.int .i64 a2_0, .int .u64 a2_1, .int .u64 a2_2, .int .i64 a2_3] 33 (0, 0)) (up BK262.out)) : gb284 ≠ gb262)); have n14_ := Aside0.mk ((by rw [hg]; exact Nat.ne_of_lt (blk_lt (g := gb263) (o := .cells #[.int .i64 a3_0, .int .u64 a3_1, .int .u64 a3_2, .int .i64 a3_3] 33 (0, 0)) (up BK263.out)) : gb263 ≠ gb284)); have n15_ := Aside0.mk ((by rw [hg]; exact Nat.ne_of_gt (blk_lt (g := gb263) (o := .cells #[.int .i64 a3_0, .int .u64 a3_1, .int .u64 a3_2, .int .i64 a3_3] 33 (0, 0)) (up BK263.out)) : gb284 ≠ gb263)); clear BK260; clear BK261; clear BK262; clear BK263; clear HB; have BK260 := n0_; have BK261 := n1_; have BK262 := n2_; have BK263 := n3_; have HB := n4_; have BK284 := n5_; have GW284 := n6_; have GE284 := n7_; have NB260_284 := n8_; have NB284_260 := n9_; have NB261_284 := n10_; have NB284_261 := n11_; have NB262_284 := n12_; have NB284_262 := n13_; have NB263_284 := n14_; have NB284_263 := n15_; clear n0_ n1_ n2_ n3_ n4_ n5_ n6_ n7_ n8_ n9_ n10_ n11_ n12_ n13_ n14_ n15_; clear hb hbox hg; have hnb94 := NB284_260.out; have hnc94 := NB260_284.out; have hnb95 := NB284_261.out; have hnc95 := NB261_284.out; have hnb96 := NB284_262.out; have hnc96 := NB262_284.out; have hnb97 := NB284_263.out; have hnc97 := NB263_284.out; have hcz98_0 : w93.cell? ⟨gb284, 0, none⟩ = some (.int .i64 0) := (blk_cell BK284.out 0).trans rfl; have hcz98_1 : w93.cell? ⟨gb284, 1, none⟩ = some (.int .u64 0) := (blk_cell BK284.out 1).trans rfl; have hcz98_2 : w93.cell? ⟨gb284, 2, none⟩ = some (.int .u64 0) := (blk_cell BK284.out 2).trans rfl; have hcz98_3 : w93.cell? ⟨gb284, 3, none⟩ = some (.int .i64 0) := (blk_cell BK284.out 3).trans rfl; have hfz98_0 := blk_frozen BK284.out 0; have hfz98_1 := blk_frozen BK284.out 1; have hfz98_2 := blk_frozen BK284.out 2; have hfz98_3 := blk_frozen BK284.out 3))
                 go_meet
                 case rel => exact ⟨_, H', ⟨by have := HJ8.out; have := HJ18.out; have := HJ40.out; have := HJ65.out; first | omega | exact Nat.le_refl _⟩, ⟨by (with_reducible repeat (first | refine blk_drewN ?_ _ | refine blk_drew ?_ | refine blk_alloc ?_ _)); refine blk_far ?_ NB260_284.out _; (with_reducible repeat (first | refine blk_drewN ?_ _ | refine blk_drew ?_ | refine blk_alloc ?_ _)); refine blk_far ?_ NB260_284.out _; (with_reducible repeat (first | refine blk_drewN ?_ _ | refine blk_drew ?_ | refine blk_alloc ?_ _)); refine blk_far ?_ NB260_284.out _; (with_reducible repeat (first | refine blk_drewN ?_ _ | refine blk_drew ?_ | refine blk_alloc ?_ _)); refine blk_far ?_ NB260_284.out _; (with_reducible repeat (first | refine blk_drewN ?_ _ | refine blk_drew ?_ | refine blk_alloc ?_ _)); exact BK260.out⟩, ⟨by (with_reducible repeat (first | refine blk_drewN ?_ _ | refine blk_drew ?_ | refine blk_alloc ?_ _)); refine blk_far ?_ NB261_284.out _; (with_reducible repeat (first | refine blk_drewN ?_ _ | refine blk_drew ?_ | refine blk_alloc ?_ _)); refine blk_far ?_ NB261_284.out _; (with_reducible repeat (first | refine blk_drewN ?_ _ | refine blk_drew ?_ | refine blk_alloc ?_ _)); refine blk_far ?_ NB261_284.out _; (with_reducible repeat (first | refine blk_drewN ?_ _ | refine blk_drew ?_ | refine blk_alloc ?_ _)); refine blk_far ?_ NB261_284.out _; (with_reducible repeat (first | refine blk_drewN ?_ _ | refine blk_drew ?_ | refine blk_alloc ?_ _)); exact BK261.out⟩, ⟨by (with_reducible repeat (first | refine blk_drewN ?_ _ | refine blk_drew ?_ | refine blk_alloc ?_ _)); refine blk_far ?_ NB262_284.out _; (with_reducible repeat (first | refine blk_drewN ?_ _ | refine blk_drew ?_ | refine blk_alloc ?_ _)); refine blk_far ?_ NB262_284.out _; (with_reducible repeat (first | refine blk_drewN ?_ _ | refine blk_drew ?_ | refine blk_alloc ?_ _)); refine blk_far ?_ NB262_284.out _; (with_reducible repeat (first | refine blk_drewN ?_ _ | refine blk_drew ?_ | refine blk_alloc ?_ _)); refine blk_far ?_ NB262_284.out _; (with_reducible repeat (first | refine blk_drewN ?_ _ | refine blk_drew ?_ | refine blk_alloc ?_ _)); exact BK262.out⟩, ⟨by (with_reducible repeat (first | refine blk_drewN ?_ _ | refine blk_drew ?_ | refine blk_alloc ?_ _)); refine blk_far ?_ NB263_284.out _; (with_reducible repeat (first | refine blk_drewN ?_ _ | refine blk_drew ?_ | refine blk_alloc ?_ _)); refine blk_far ?_ NB263_284.out _; (with_reducible repeat (first | refine blk_drewN ?_ _ | refine blk_drew ?_ | refine blk_alloc ?_ _)); refine blk_far ?_ NB263_284.out _; (with_reducible repeat (first | refine blk_drewN ?_ _ | refine blk_drew ?_ | refine blk_alloc ?_ _)); refine blk_far ?_ NB263_284.out _; (with_reducible repeat (first | refine blk_drewN ?_ _ | refine blk_drew ?_ | refine blk_alloc ?_ _)); exact BK263.out⟩, ⟨by repeat (first | (with_reducible first | exact HB.out | apply below_alloc | apply pw_below_drewN | apply below_drew1 | refine below_set ?_ GE260.out | refine below_set ?_ GE261.out | refine below_set ?_ GE262.out | refine below_set ?_ GE263.out | refine below_set ?_ GE284.out) | exact HB.out)⟩⟩
               ·rw [if_neg c74] at H
                have c74b0 : (t266 == 0) = false := beq_eq_false_iff_ne.mpr c74
                have c74b1 : (t266 != 0) = true := bne_iff_ne.mpr c74
                (first | rw [c74b0] | (simp only [i64_w, i32_w]; rw [c74b0]) | skip)
                have H' := Aside0.mk H
                clear H
                go_wp2
                go_meet
                case rel => exact ⟨_, H', ⟨by have := HJ8.out; have := HJ18.out; have := HJ40.out; have := HJ65.out; first | omega | exact Nat.le_refl _⟩, ⟨up BK260.out⟩, ⟨up BK261.out⟩, ⟨up BK262.out⟩, ⟨up BK263.out⟩, ⟨upB HB.out⟩⟩
              case rest =>
               clear HC73
               try clear c1
               try clear c2
               try clear p2
               try clear c3
               try clear c4
               try clear c5
               try clear c6
               try clear c7
               try clear c8
               try clear c9
               try clear c10
               try clear c12
               try clear c15
               try clear c15b0
               try clear c15b1
               try clear c16
               try clear c20
               try clear c21
               try clear c22
               try clear c25
               try clear c26
               try clear c29
               try clear c29b0
               try clear c29b1
               try clear c30
               try clear c30b0
               try clear c30b1
               try clear c31
               try clear c32
               try clear c33
               try clear c35
               try clear c36
               try clear c38
               try clear c42
               try clear c43
               try clear c44
               try clear c46
               try clear c47
               try clear c51
               try clear c54
               try clear c54b0
               try clear c54b1
               try clear c55
               try clear c55b0
               try clear c55b1
               try clear c56
               try clear c57
               try clear c58
               try clear c60
               try clear c61
               try clear c63
               try clear c69
               try clear c69b0
               try clear c69b1
               try clear c70
               try clear c70b0
               try clear c70b1
               try clear c72
               try clear c74
               try clear c74b0
               try clear c74b1
               try clear c76
               try clear c76b0
               try clear c76b1
               try clear c77
               try clear c78
               try clear c79
               try clear c83
               try clear c84
               try clear c85
               try clear c86
               try clear c88
               try clear c89
               try clear c90
               try clear c94
               try clear c95
               try clear c96
               try clear c97
               try clear hcz23_0
               try clear hcz23_1
               try clear hcz23_2
               try clear hcz23_3
               try clear hcz23_4
               try clear hcz27_0
               try clear hcz27_1
               try clear hcz27_2
               try clear hcz27_3
               try clear hcz27_4
               try clear hcz34_0
               try clear hcz34_1
               try clear hcz34_2
               try clear hcz34_3
               try clear hcz34_4
               try clear hcz37_0
               try clear hcz37_1
               try clear hcz37_2
               try clear hcz37_3
               try clear hcz37_4
               try clear hcz45_0
               try clear hcz45_1
               try clear hcz45_2
               try clear hcz45_3
               try clear hcz45_4
               try clear hcz48_0
               try clear hcz48_1
               try clear hcz48_2
               try clear hcz48_3
               try clear hcz50_0
               try clear hcz50_1
               try clear hcz50_2
               try clear hcz50_3
               try clear hcz50_4
               try clear hcz52_0
               try clear hcz52_1
               try clear hcz52_2
               try clear hcz52_3
               try clear hcz59_0
               try clear hcz59_1
               try clear hcz59_2
               try clear hcz59_3
               try clear hcz62_0
               try clear hcz62_1
               try clear hcz62_2
               try clear hcz62_3
               try clear hcz80_0
               try clear hcz80_1
               try clear hcz80_2
               try clear hcz80_3
               try clear hcz80_4
               try clear hcz87_0
               try clear hcz87_1
               try clear hcz87_2
               try clear hcz87_3
               try clear hcz91_0
               try clear hcz91_1
               try clear hcz91_2
               try clear hcz91_3
               try clear hcz91_4
               try clear hcz98_0
               try clear hcz98_1
               try clear hcz98_2
               try clear hcz98_3
               try clear hfz23_0
               try clear hfz23_1
               try clear hfz23_2
               try clear hfz23_3
               try clear hfz23_4
               try clear hfz27_0
               try clear hfz27_1
               try clear hfz27_2
               try clear hfz27_3
               try clear hfz27_4
               try clear hfz34_0
               try clear hfz34_1
               try clear hfz34_2
               try clear hfz34_3
               try clear hfz34_4
               try clear hfz37_0
               try clear hfz37_1
               try clear hfz37_2
               try clear hfz37_3
               try clear hfz37_4
               try clear hfz45_0
               try clear hfz45_1
               try clear hfz45_2
               try clear hfz45_3
               try clear hfz45_4
               try clear hfz48_0
               try clear hfz48_1
               try clear hfz48_2
               try clear hfz48_3
               try clear hfz50_0
               try clear hfz50_1
               try clear hfz50_2
               try clear hfz50_3
               try clear hfz50_4
               try clear hfz52_0
               try clear hfz52_1
               try clear hfz52_2
               try clear hfz52_3
               try clear hfz59_0
               try clear hfz59_1
               try clear hfz59_2
               try clear hfz59_3
               try clear hfz62_0
               try clear hfz62_1
               try clear hfz62_2
               try clear hfz62_3
               try clear hfz80_0
               try clear hfz80_1
               try clear hfz80_2
               try clear hfz80_3
               try clear hfz80_4
               try clear hfz87_0
               try clear hfz87_1
               try clear hfz87_2
               try clear hfz87_3
               try clear hfz91_0
               try clear hfz91_1
               try clear hfz91_2
               try clear hfz91_3
               try clear hfz91_4
               try clear hfz98_0
               try clear hfz98_1
               try clear hfz98_2
               try clear hfz98_3
               try clear p2
               obtain ⟨kq, HA, HJ72, BK260, BK261, BK262, BK263, HB⟩ := hcut
               cases kq with
               | zero => exact absurd HA.out (by simp [revenantlaw32_TaleApart.j4])
               | succ kj72 =>
                have H := HA.out
                clear HA
                simp only [revenantlaw32_TaleApart.j4] at H
                by_cases c99 : t274 = 0
                ·rw [if_pos c99] at H
                 have c99b0 : (t274 == 0) = true := beq_iff_eq.mpr c99
                 have c99b1 : (t274 != 0) = false := bne_eq_false_iff_eq.mpr c99
                 clear c99
                 replace H := Option.bind_eq_some_iff.mp H
                 obtain ⟨⟨t285, t286, t287, t288, t289, t290⟩, A1000, H⟩ := H
                 replace H : (if t290 = 0 then (some false) else (some true)) = some r := H
                 have A100 := Aside0.mk A1000
                 clear A1000
                 by_cases c101 : t290 = 0
                 ·rw [if_pos c101] at H
                  have c101b0 : (t290 == 0) = true := beq_iff_eq.mpr c101
                  have c101b1 : (t290 != 0) = false := bne_eq_false_iff_eq.mpr c101
                  clear c101
                  obtain rfl := Option.some.inj H
                  go_wp2_with (first | ((with_reducible refine gate_callee (f := 13) rfl ?_); refine goesL_ (some 132) rfl rfl Tryd.func13 (by kernel_rfl) rfl #[.string t273] rfl (by (try simp only [List.map_toArray, List.map_cons, List.map_nil]); first | done | rfl | (simp only [List.length_drop, List.length_take]; rfl)) ?_; (with_reducible refine (tale_ReadConf.calls kj72 t273 t285 t286 t287 t288 t289 t290 _ A100.out HTT.out (upB HB.out)).mono ?_); rintro e w102 ⟨rfl, hb⟩; refine ⟨_, rfl, ?_⟩; have n0_ := Aside0.mk (blk_below (g := gb260) (o := .cells #[.int .i64 a0_0, .int .i64 a0_1, .int .i64 a0_2, .int .i64 a0_3, .int .i64 a0_4] 31 (0, 0)) (up BK260.out) hb); have n1_ := Aside0.mk (blk_below (g := gb261) (o := .cells #[.int .i64 a1_0, .int .i64 a1_1, .int .i64 a1_2, .int .i64 a1_3, .int .i64 a1_4] 31 (0, 0)) (up BK261.out) hb); have n2_ := Aside0.mk (blk_below (g := gb262) (o := .cells #[.int .i64 a2_0, .int .u64 a2_1, .int .u64 a2_2, .int .i64 a2_3] 33 (0, 0)) (up BK262.out) hb); have n3_ := Aside0.mk (blk_below (g := gb263) (o := .cells #[.int .i64 a3_0, .int .u64 a3_1, .int .u64 a3_2, .int .i64 a3_3] 33 (0, 0)) (up BK263.out) hb); have n4_ := Aside0.mk (below_step (upB HB.out) hb); clear BK260; clear BK261; clear BK262; clear BK263; clear HB; have BK260 := n0_; have BK261 := n1_; have BK262 := n2_; have BK263 := n3_; have HB := n4_; clear n0_ n1_ n2_ n3_ n4_; (try clear hb); (try clear hb2); (try clear hk); (try clear hi)) | ((with_reducible refine gate_dst (N := 28) rfl ?_); (try (refine gate_guard (by rfl) ?_; dsimp only)); refine box_event ?hg (N := 28) ?hd (cs := #[.int .i64 0, .int .i64 0, .int .i64 0, .int .i64 0, .int .i64 0]) (t := 31) ?hr ?_; (case hd => rfl); (case hg => rfl); (case hr => first | (go_simp; done) | (go_simp; rfl)); intro gb291 hg w103 hbox hb; have n0_ := Aside0.mk (blk_below (g := gb260) (o := .cells #[.int .i64 a0_0, .int .i64 a0_1, .int .i64 a0_2, .int .i64 a0_3, .int .i64 a0_4] 31 (0, 0)) (up BK260.out) hb); have n1_ := Aside0.mk (blk_below (g := gb261) (o := .cells #[.int .i64 a1_0, .int .i64 a1_1, .int .i64 a1_2, .int .i64 a1_3, .int .i64 a1_4] 31 (0, 0)) (up BK261.out) hb); have n2_ := Aside0.mk (blk_below (g := gb262) (o := .cells #[.int .i64 a2_0, .int .u64 a2_1, .int .u64 a2_2, .int .i64 a2_3] 33 (0, 0)) (up BK262.out) hb); have n3_ := Aside0.mk (blk_below (g := gb263) (o := .cells #[.int .i64 a3_0, .int .u64 a3_1, .int .u64 a3_2, .int .i64 a3_3] 33 (0, 0)) (up BK263.out) hb); have n4_ := Aside0.mk (below_step (upB HB.out) hb); have n5_ := Aside0.mk (hbox); have n6_ := Aside0.mk ((by rw [hg]; exact (below_size (upB HB.out)) : w.heap.size ≤ gb291)); have n7_ := Aside0.mk ((by rw [hg]; exact (below_size (upB HB.out)) : w.heap.size ≤ gb291)); have n8_ := Aside0.mk ((by rw [hg]; exact Nat.ne_of_lt (blk_lt (g := gb260) (o := .cells #[.int .i64 a0_0, .int .i64 a0_1, .int .i64 a0_2, .int .i64 a0_3, .int .i64 a0_4] 31 (0, 0)) (up BK260.out)) : gb260 ≠ gb291)); have n9_ := Aside0.mk ((by rw [hg]; exact Nat.ne_of_gt (blk_lt (g := gb260) (o := .cells #[.int .i64 a0_0, .int .i64 a0_1, .int .i64 a0_2, .int .i64 a0_3, .int .i64 a0_4] 31 (0, 0)) (up BK260.out)) : gb291 ≠ gb260)); have n10_ := Aside0.mk ((by rw [hg]; exact Nat.ne_of_lt (blk_lt (g := gb261) (o := .cells #[.int .i64 a1_0, .int .i64 a1_1, .int .i64 a1_2, .int .i64 a1_3, .int .i64 a1_4] 31 (0, 0)) (up BK261.out)) : gb261 ≠ gb291)); have n11_ := Aside0.mk ((by rw [hg]; exact Nat.ne_of_gt (blk_lt (g := gb261) (o := .cells #[.int .i64 a1_0, .int .i64 a1_1, .int .i64 a1_2, .int .i64 a1_3, .int .i64 a1_4] 31 (0, 0)) (up BK261.out)) : gb291 ≠ gb261)); have n12_ := Aside0.mk ((by rw [hg]; exact Nat.ne_of_lt (blk_lt (g := gb262) (o := .cells #[.int .i64 a2_0, .int .u64 a2_1, .int .u64 a2_2, .int .i64 a2_3] 33 (0, 0)) (up BK262.out)) : gb262 ≠ gb291)); have n13_ := Aside0.mk ((by rw [hg]; exact Nat.ne_of_gt (blk_lt (g := gb262) (o := .cells #[.int .i64 a2_0, .int .u64 a2_1, .int .u64 a2_2, .int .i64 a2_3] 33 (0, 0)) (up BK262.out)) : gb291 ≠ gb262)); have n14_ := Aside0.mk ((by rw [hg]; exact Nat.ne_of_lt (blk_lt (g := gb263) (o := .cells #[.int .i64 a3_0, .int .u64 a3_1, .int .u64 a3_2, .int .i64 a3_3] 33 (0, 0)) (up BK263.out)) : gb263 ≠ gb291)); have n15_ := Aside0.mk ((by rw [hg]; exact Nat.ne_of_gt (blk_lt (g := gb263) (o := .cells #[.int .i64 a3_0, .int .u64 a3_1, .int .u64 a3_2, .int .i64 a3_3] 33 (0, 0)) (up BK263.out)) : gb291 ≠ gb263)); clear BK260; clear BK261; clear BK262; clear BK263; clear HB; have BK260 := n0_; have BK261 := n1_; have BK262 := n2_; have BK263 := n3_; have HB := n4_; have BK291 := n5_; have GW291 := n6_; have GE291 := n7_; have NB260_291 := n8_; have NB291_260 := n9_; have NB261_291 := n10_; have NB291_261 := n11_; have NB262_291 := n12_; have NB291_262 := n13_; have NB263_291 := n14_; have NB291_263 := n15_; clear n0_ n1_ n2_ n3_ n4_ n5_ n6_ n7_ n8_ n9_ n10_ n11_ n12_ n13_ n14_ n15_; clear hb hbox hg; have hnb104 := NB291_260.out; have hnc104 := NB260_291.out; have hnb105 := NB291_261.out; have hnc105 := NB261_291.out; have hnb106 := NB291_262.out; have hnc106 := NB262_291.out; have hnb107 := NB291_263.out; have hnc107 := NB263_291.out; have hcz108_0 : w103.cell? ⟨gb291, 0, none⟩ = some (.int .i64 0) := (blk_cell BK291.out 0).trans rfl; have hcz108_1 : w103.cell? ⟨gb291, 1, none⟩ = some (.int .i64 0) := (blk_cell BK291.out 1).trans rfl; have hcz108_2 : w103.cell? ⟨gb291, 2, none⟩ = some (.int .i64 0) := (blk_cell BK291.out 2).trans rfl; have hcz108_3 : w103.cell? ⟨gb291, 3, none⟩ = some (.int .i64 0) := (blk_cell BK291.out 3).trans rfl; have hcz108_4 : w103.cell? ⟨gb291, 4, none⟩ = some (.int .i64 0) := (blk_cell BK291.out 4).trans rfl; have hfz108_0 := blk_frozen BK291.out 0; have hfz108_1 := blk_frozen BK291.out 1; have hfz108_2 := blk_frozen BK291.out 2; have hfz108_3 := blk_frozen BK291.out 3; have hfz108_4 := blk_frozen BK291.out 4))
                  go_ret
                  exact ⟨by first | rfl | (simp [errW_none, errW_some] <;> rfl) | (simp [*, errW_none, errW_some] <;> rfl), by repeat (first | (with_reducible first | exact HB.out | apply below_alloc | apply pw_below_drewN | apply below_drew1 | refine below_set ?_ GE260.out | refine below_set ?_ GE261.out | refine below_set ?_ GE262.out | refine below_set ?_ GE263.out | refine below_set ?_ GE291.out) | exact HB.out)⟩
                 ·rw [if_neg c101] at H
                  have c101b0 : (t290 == 0) = false := beq_eq_false_iff_ne.mpr c101
                  have c101b1 : (t290 != 0) = true := bne_iff_ne.mpr c101
                  obtain rfl := Option.some.inj H
                  go_wp2_with (first | ((with_reducible refine gate_callee (f := 13) rfl ?_); refine goesL_ (some 132) rfl rfl Tryd.func13 (by kernel_rfl) rfl #[.string t273] rfl (by (try simp only [List.map_toArray, List.map_cons, List.map_nil]); first | done | rfl | (simp only [List.length_drop, List.length_take]; rfl)) ?_; (with_reducible refine (tale_ReadConf.calls kj72 t273 t285 t286 t287 t288 t289 t290 _ A100.out HTT.out (upB HB.out)).mono ?_); rintro e w109 ⟨rfl, hb⟩; refine ⟨_, rfl, ?_⟩; have n0_ := Aside0.mk (blk_below (g := gb260) (o := .cells #[.int .i64 a0_0, .int .i64 a0_1, .int .i64 a0_2, .int .i64 a0_3, .int .i64 a0_4] 31 (0, 0)) (up BK260.out) hb); have n1_ := Aside0.mk (blk_below (g := gb261) (o := .cells #[.int .i64 a1_0, .int .i64 a1_1, .int .i64 a1_2, .int .i64 a1_3, .int .i64 a1_4] 31 (0, 0)) (up BK261.out) hb); have n2_ := Aside0.mk (blk_below (g := gb262) (o := .cells #[.int .i64 a2_0, .int .u64 a2_1, .int .u64 a2_2, .int .i64 a2_3] 33 (0, 0)) (up BK262.out) hb); have n3_ := Aside0.mk (blk_below (g := gb263) (o := .cells #[.int .i64 a3_0, .int .u64 a3_1, .int .u64 a3_2, .int .i64 a3_3] 33 (0, 0)) (up BK263.out) hb); have n4_ := Aside0.mk (below_step (upB HB.out) hb); clear BK260; clear BK261; clear BK262; clear BK263; clear HB; have BK260 := n0_; have BK261 := n1_; have BK262 := n2_; have BK263 := n3_; have HB := n4_; clear n0_ n1_ n2_ n3_ n4_; (try clear hb); (try clear hb2); (try clear hk); (try clear hi)) | ((with_reducible refine gate_dst (N := 28) rfl ?_); (try (refine gate_guard (by rfl) ?_; dsimp only)); refine box_event ?hg (N := 28) ?hd (cs := #[.int .i64 0, .int .i64 0, .int .i64 0, .int .i64 0, .int .i64 0]) (t := 31) ?hr ?_; (case hd => rfl); (case hg => rfl); (case hr => first | (go_simp; done) | (go_simp; rfl)); intro gb291 hg w110 hbox hb; have n0_ := Aside0.mk (blk_below (g := gb260) (o := .cells #[.int .i64 a0_0, .int .i64 a0_1, .int .i64 a0_2, .int .i64 a0_3, .int .i64 a0_4] 31 (0, 0)) (up BK260.out) hb); have n1_ := Aside0.mk (blk_below (g := gb261) (o := .cells #[.int .i64 a1_0, .int .i64 a1_1, .int .i64 a1_2, .int .i64 a1_3, .int .i64 a1_4] 31 (0, 0)) (up BK261.out) hb); have n2_ := Aside0.mk (blk_below (g := gb262) (o := .cells #[.int .i64 a2_0, .int .u64 a2_1, .int .u64 a2_2, .int .i64 a2_3] 33 (0, 0)) (up BK262.out) hb); have n3_ := Aside0.mk (blk_below (g := gb263) (o := .cells #[.int .i64 a3_0, .int .u64 a3_1, .int .u64 a3_2, .int .i64 a3_3] 33 (0, 0)) (up BK263.out) hb); have n4_ := Aside0.mk (below_step (upB HB.out) hb); have n5_ := Aside0.mk (hbox); have n6_ := Aside0.mk ((by rw [hg]; exact (below_size (upB HB.out)) : w.heap.size ≤ gb291)); have n7_ := Aside0.mk ((by rw [hg]; exact (below_size (upB HB.out)) : w.heap.size ≤ gb291)); have n8_ := Aside0.mk ((by rw [hg]; exact Nat.ne_of_lt (blk_lt (g := gb260) (o := .cells #[.int .i64 a0_0, .int .i64 a0_1, .int .i64 a0_2, .int .i64 a0_3, .int .i64 a0_4] 31 (0, 0)) (up BK260.out)) : gb260 ≠ gb291)); have n9_ := Aside0.mk ((by rw [hg]; exact Nat.ne_of_gt (blk_lt (g := gb260) (o := .cells #[.int .i64 a0_0, .int .i64 a0_1, .int .i64 a0_2, .int .i64 a0_3, .int .i64 a0_4] 31 (0, 0)) (up BK260.out)) : gb291 ≠ gb260)); have n10_ := Aside0.mk ((by rw [hg]; exact Nat.ne_of_lt (blk_lt (g := gb261) (o := .cells #[.int .i64 a1_0, .int .i64 a1_1, .int .i64 a1_2, .int .i64 a1_3, .int .i64 a1_4] 31 (0, 0)) (up BK261.out)) : gb261 ≠ gb291)); have n11_ := Aside0.mk ((by rw [hg]; exact Nat.ne_of_gt (blk_lt (g := gb261) (o := .cells #[.int .i64 a1_0, .int .i64 a1_1, .int .i64 a1_2, .int .i64 a1_3, .int .i64 a1_4] 31 (0, 0)) (up BK261.out)) : gb291 ≠ gb261)); have n12_ := Aside0.mk ((by rw [hg]; exact Nat.ne_of_lt (blk_lt (g := gb262) (o := .cells #[.int .i64 a2_0, .int .u64 a2_1, .int .u64 a2_2, .int .i64 a2_3] 33 (0, 0)) (up BK262.out)) : gb262 ≠ gb291)); have n13_ := Aside0.mk ((by rw [hg]; exact Nat.ne_of_gt (blk_lt (g := gb262) (o := .cells #[.int .i64 a2_0, .int .u64 a2_1, .int .u64 a2_2, .int .i64 a2_3] 33 (0, 0)) (up BK262.out)) : gb291 ≠ gb262)); have n14_ := Aside0.mk ((by rw [hg]; exact Nat.ne_of_lt (blk_lt (g := gb263) (o := .cells #[.int .i64 a3_0, .int .u64 a3_1, .int .u64 a3_2, .int .i64 a3_3] 33 (0, 0)) (up BK263.out)) : gb263 ≠ gb291)); have n15_ := Aside0.mk ((by rw [hg]; exact Nat.ne_of_gt (blk_lt (g := gb263) (o := .cells #[.int .i64 a3_0, .int .u64 a3_1, .int .u64 a3_2, .int .i64 a3_3] 33 (0, 0)) (up BK263.out)) : gb291 ≠ gb263)); clear BK260; clear BK261; clear BK262; clear BK263; clear HB; have BK260 := n0_; have BK261 := n1_; have BK262 := n2_; have BK263 := n3_; have HB := n4_; have BK291 := n5_; have GW291 := n6_; have GE291 := n7_; have NB260_291 := n8_; have NB291_260 := n9_; have NB261_291 := n10_; have NB291_261 := n11_; have NB262_291 := n12_; have NB291_262 := n13_; have NB263_291 := n14_; have NB291_263 := n15_; clear n0_ n1_ n2_ n3_ n4_ n5_ n6_ n7_ n8_ n9_ n10_ n11_ n12_ n13_ n14_ n15_; clear hb hbox hg; have hnb111 := NB291_260.out; have hnc111 := NB260_291.out; have hnb112 := NB291_261.out; have hnc112 := NB261_291.out; have hnb113 := NB291_262.out; have hnc113 := NB262_291.out; have hnb114 := NB291_263.out; have hnc114 := NB263_291.out; have hcz115_0 : w110.cell? ⟨gb291, 0, none⟩ = some (.int .i64 0) := (blk_cell BK291.out 0).trans rfl; have hcz115_1 : w110.cell? ⟨gb291, 1, none⟩ = some (.int .i64 0) := (blk_cell BK291.out 1).trans rfl; have hcz115_2 : w110.cell? ⟨gb291, 2, none⟩ = some (.int .i64 0) := (blk_cell BK291.out 2).trans rfl; have hcz115_3 : w110.cell? ⟨gb291, 3, none⟩ = some (.int .i64 0) := (blk_cell BK291.out 3).trans rfl; have hcz115_4 : w110.cell? ⟨gb291, 4, none⟩ = some (.int .i64 0) := (blk_cell BK291.out 4).trans rfl; have hfz115_0 := blk_frozen BK291.out 0; have hfz115_1 := blk_frozen BK291.out 1; have hfz115_2 := blk_frozen BK291.out 2; have hfz115_3 := blk_frozen BK291.out 3; have hfz115_4 := blk_frozen BK291.out 4))
                  go_ret
                  exact ⟨by first | rfl | (simp [errW_none, errW_some] <;> rfl) | (simp [*, errW_none, errW_some] <;> rfl), by repeat (first | (with_reducible first | exact HB.out | apply below_alloc | apply pw_below_drewN | apply below_drew1 | refine below_set ?_ GE260.out | refine below_set ?_ GE261.out | refine below_set ?_ GE262.out | refine below_set ?_ GE263.out | refine below_set ?_ GE291.out) | exact HB.out)⟩
                ·rw [if_neg c99] at H
                 have c99b0 : (t274 == 0) = false := beq_eq_false_iff_ne.mpr c99
                 have c99b1 : (t274 != 0) = true := bne_iff_ne.mpr c99
                 obtain rfl := Option.some.inj H
                 go_wp2
                 go_ret
                 exact ⟨by first | rfl | (simp [errW_none, errW_some] <;> rfl) | (simp [*, errW_none, errW_some] <;> rfl), upB HB.out⟩
 ·replace c8 := Bool.eq_false_iff.mpr c8
  subst c8
  have H1 : (some false) = some r := by rw [if_neg (show ¬ (false = true) by decide)] at H; exact H
  clear H
  have H := H1
  clear H1
  obtain rfl := Option.some.inj H
  go_enter Tryd.func4, Tryd.ntmps4
  go_wp2_with (first | ((with_reducible refine gate_dst (N := 6) rfl ?_); (try (refine gate_guard (by rfl) ?_; dsimp only)); refine box_event ?hg (N := 6) ?hd (cs := #[.int .i64 a0_0, .int .i64 a0_1, .int .i64 a0_2, .int .i64 a0_3, .int .i64 a0_4]) (t := 31) ?hr ?_; (case hd => rfl); (case hg => rfl); (case hr => first | (go_simp; done) | (go_simp; rfl)); intro gb260 hg w116 hbox hb; have n0_ := Aside0.mk (below_step (upB HB.out) hb); have n1_ := Aside0.mk (hbox); have n2_ := Aside0.mk ((by rw [hg]; exact (below_size (upB HB.out)) : w.heap.size ≤ gb260)); have n3_ := Aside0.mk ((by rw [hg]; exact (below_size (upB HB.out)) : w.heap.size ≤ gb260)); clear HB; have HB := n0_; have BK260 := n1_; have GW260 := n2_; have GE260 := n3_; clear n0_ n1_ n2_ n3_; clear hb hbox hg) | ((with_reducible refine gate_dst (N := 7) rfl ?_); (try (refine gate_guard (by rfl) ?_; dsimp only)); refine box_event ?hg (N := 7) ?hd (cs := #[.int .i64 a1_0, .int .i64 a1_1, .int .i64 a1_2, .int .i64 a1_3, .int .i64 a1_4]) (t := 31) ?hr ?_; (case hd => rfl); (case hg => rfl); (case hr => first | (go_simp; done) | (go_simp; rfl)); intro gb261 hg w117 hbox hb; have n0_ := Aside0.mk (blk_below (g := gb260) (o := .cells #[.int .i64 a0_0, .int .i64 a0_1, .int .i64 a0_2, .int .i64 a0_3, .int .i64 a0_4] 31 (0, 0)) (up BK260.out) hb); have n1_ := Aside0.mk (below_step (upB HB.out) hb); have n2_ := Aside0.mk (hbox); have n3_ := Aside0.mk ((by rw [hg]; exact (below_size (upB HB.out)) : w.heap.size ≤ gb261)); have n4_ := Aside0.mk ((by rw [hg]; exact (below_size (upB HB.out)) : w.heap.size ≤ gb261)); have n5_ := Aside0.mk ((by rw [hg]; exact Nat.ne_of_lt (blk_lt (g := gb260) (o := .cells #[.int .i64 a0_0, .int .i64 a0_1, .int .i64 a0_2, .int .i64 a0_3, .int .i64 a0_4] 31 (0, 0)) (up BK260.out)) : gb260 ≠ gb261)); have n6_ := Aside0.mk ((by rw [hg]; exact Nat.ne_of_gt (blk_lt (g := gb260) (o := .cells #[.int .i64 a0_0, .int .i64 a0_1, .int .i64 a0_2, .int .i64 a0_3, .int .i64 a0_4] 31 (0, 0)) (up BK260.out)) : gb261 ≠ gb260)); clear BK260; clear HB; have BK260 := n0_; have HB := n1_; have BK261 := n2_; have GW261 := n3_; have GE261 := n4_; have NB260_261 := n5_; have NB261_260 := n6_; clear n0_ n1_ n2_ n3_ n4_ n5_ n6_; clear hb hbox hg) | ((with_reducible refine gate_dst (N := 8) rfl ?_); (try (refine gate_guard (by rfl) ?_; dsimp only)); refine box_event ?hg (N := 8) ?hd (cs := #[.int .i64 a2_0, .int .u64 a2_1, .int .u64 a2_2, .int .i64 a2_3]) (t := 33) ?hr ?_; (case hd => rfl); (case hg => rfl); (case hr => first | (go_simp; done) | (go_simp; rfl)); intro gb262 hg w118 hbox hb; have n0_ := Aside0.mk (blk_below (g := gb260) (o := .cells #[.int .i64 a0_0, .int .i64 a0_1, .int .i64 a0_2, .int .i64 a0_3, .int .i64 a0_4] 31 (0, 0)) (up BK260.out) hb); have n1_ := Aside0.mk (blk_below (g := gb261) (o := .cells #[.int .i64 a1_0, .int .i64 a1_1, .int .i64 a1_2, .int .i64 a1_3, .int .i64 a1_4] 31 (0, 0)) (up BK261.out) hb); have n2_ := Aside0.mk (below_step (upB HB.out) hb); have n3_ := Aside0.mk (hbox); have n4_ := Aside0.mk ((by rw [hg]; exact (below_size (upB HB.out)) : w.heap.size ≤ gb262)); have n5_ := Aside0.mk ((by rw [hg]; exact (below_size (upB HB.out)) : w.heap.size ≤ gb262)); have n6_ := Aside0.mk ((by rw [hg]; exact Nat.ne_of_lt (blk_lt (g := gb260) (o := .cells #[.int .i64 a0_0, .int .i64 a0_1, .int .i64 a0_2, .int .i64 a0_3, .int .i64 a0_4] 31 (0, 0)) (up BK260.out)) : gb260 ≠ gb262)); have n7_ := Aside0.mk ((by rw [hg]; exact Nat.ne_of_gt (blk_lt (g := gb260) (o := .cells #[.int .i64 a0_0, .int .i64 a0_1, .int .i64 a0_2, .int .i64 a0_3, .int .i64 a0_4] 31 (0, 0)) (up BK260.out)) : gb262 ≠ gb260)); have n8_ := Aside0.mk ((by rw [hg]; exact Nat.ne_of_lt (blk_lt (g := gb261) (o := .cells #[.int .i64 a1_0, .int .i64 a1_1, .int .i64 a1_2, .int .i64 a1_3, .int .i64 a1_4] 31 (0, 0)) (up BK261.out)) : gb261 ≠ gb262)); have n9_ := Aside0.mk ((by rw [hg]; exact Nat.ne_of_gt (blk_lt (g := gb261) (o := .cells #[.int .i64 a1_0, .int .i64 a1_1, .int .i64 a1_2, .int .i64 a1_3, .int .i64 a1_4] 31 (0, 0)) (up BK261.out)) : gb262 ≠ gb261)); clear BK260; clear BK261; clear HB; have BK260 := n0_; have BK261 := n1_; have HB := n2_; have BK262 := n3_; have GW262 := n4_; have GE262 := n5_; have NB260_262 := n6_; have NB262_260 := n7_; have NB261_262 := n8_; have NB262_261 := n9_; clear n0_ n1_ n2_ n3_ n4_ n5_ n6_ n7_ n8_ n9_; clear hb hbox hg) | ((with_reducible refine gate_dst (N := 9) rfl ?_); (try (refine gate_guard (by rfl) ?_; dsimp only)); refine box_event ?hg (N := 9) ?hd (cs := #[.int .i64 a3_0, .int .u64 a3_1, .int .u64 a3_2, .int .i64 a3_3]) (t := 33) ?hr ?_; (case hd => rfl); (case hg => rfl); (case hr => first | (go_simp; done) | (go_simp; rfl)); intro gb263 hg w119 hbox hb; have n0_ := Aside0.mk (blk_below (g := gb260) (o := .cells #[.int .i64 a0_0, .int .i64 a0_1, .int .i64 a0_2, .int .i64 a0_3, .int .i64 a0_4] 31 (0, 0)) (up BK260.out) hb); have n1_ := Aside0.mk (blk_below (g := gb261) (o := .cells #[.int .i64 a1_0, .int .i64 a1_1, .int .i64 a1_2, .int .i64 a1_3, .int .i64 a1_4] 31 (0, 0)) (up BK261.out) hb); have n2_ := Aside0.mk (blk_below (g := gb262) (o := .cells #[.int .i64 a2_0, .int .u64 a2_1, .int .u64 a2_2, .int .i64 a2_3] 33 (0, 0)) (up BK262.out) hb); have n3_ := Aside0.mk (below_step (upB HB.out) hb); have n4_ := Aside0.mk (hbox); have n5_ := Aside0.mk ((by rw [hg]; exact (below_size (upB HB.out)) : w.heap.size ≤ gb263)); have n6_ := Aside0.mk ((by rw [hg]; exact (below_size (upB HB.out)) : w.heap.size ≤ gb263)); have n7_ := Aside0.mk ((by rw [hg]; exact Nat.ne_of_lt (blk_lt (g := gb260) (o := .cells #[.int .i64 a0_0, .int .i64 a0_1, .int .i64 a0_2, .int .i64 a0_3, .int .i64 a0_4] 31 (0, 0)) (up BK260.out)) : gb260 ≠ gb263)); have n8_ := Aside0.mk ((by rw [hg]; exact Nat.ne_of_gt (blk_lt (g := gb260) (o := .cells #[.int .i64 a0_0, .int .i64 a0_1, .int .i64 a0_2, .int .i64 a0_3, .int .i64 a0_4] 31 (0, 0)) (up BK260.out)) : gb263 ≠ gb260)); have n9_ := Aside0.mk ((by rw [hg]; exact Nat.ne_of_lt (blk_lt (g := gb261) (o := .cells #[.int .i64 a1_0, .int .i64 a1_1, .int .i64 a1_2, .int .i64 a1_3, .int .i64 a1_4] 31 (0, 0)) (up BK261.out)) : gb261 ≠ gb263)); have n10_ := Aside0.mk ((by rw [hg]; exact Nat.ne_of_gt (blk_lt (g := gb261) (o := .cells #[.int .i64 a1_0, .int .i64 a1_1, .int .i64 a1_2, .int .i64 a1_3, .int .i64 a1_4] 31 (0, 0)) (up BK261.out)) : gb263 ≠ gb261)); have n11_ := Aside0.mk ((by rw [hg]; exact Nat.ne_of_lt (blk_lt (g := gb262) (o := .cells #[.int .i64 a2_0, .int .u64 a2_1, .int .u64 a2_2, .int .i64 a2_3] 33 (0, 0)) (up BK262.out)) : gb262 ≠ gb263)); have n12_ := Aside0.mk ((by rw [hg]; exact Nat.ne_of_gt (blk_lt (g := gb262) (o := .cells #[.int .i64 a2_0, .int .u64 a2_1, .int .u64 a2_2, .int .i64 a2_3] 33 (0, 0)) (up BK262.out)) : gb263 ≠ gb262)); clear BK260; clear BK261; clear BK262; clear HB; have BK260 := n0_; have BK261 := n1_; have BK262 := n2_; have HB := n3_; have BK263 := n4_; have GW263 := n5_; have GE263 := n6_; have NB260_263 := n7_; have NB263_260 := n8_; have NB261_263 := n9_; have NB263_261 := n10_; have NB262_263 := n11_; have NB263_262 := n12_; clear n0_ n1_ n2_ n3_ n4_ n5_ n6_ n7_ n8_ n9_ n10_ n11_ n12_; clear hb hbox hg) | ((with_reducible refine gate_callee (f := 5) rfl ?_); refine goesL_ (some 30) rfl rfl Tryd.func5 (by kernel_rfl) rfl #[] rfl (by (try simp only [List.map_toArray, List.map_cons, List.map_nil]); first | done | rfl | (simp only [List.length_drop, List.length_take]; rfl)) ?_; (with_reducible refine (revenantlaw32_awake.calls  false _ A7.out HTT.out (upB HB.out)).mono ?_); rintro e w120 ⟨rfl, hb⟩; refine ⟨_, rfl, ?_⟩; have n0_ := Aside0.mk (blk_below (g := gb260) (o := .cells #[.int .i64 a0_0, .int .i64 a0_1, .int .i64 a0_2, .int .i64 a0_3, .int .i64 a0_4] 31 (0, 0)) (up BK260.out) hb); have n1_ := Aside0.mk (blk_below (g := gb261) (o := .cells #[.int .i64 a1_0, .int .i64 a1_1, .int .i64 a1_2, .int .i64 a1_3, .int .i64 a1_4] 31 (0, 0)) (up BK261.out) hb); have n2_ := Aside0.mk (blk_below (g := gb262) (o := .cells #[.int .i64 a2_0, .int .u64 a2_1, .int .u64 a2_2, .int .i64 a2_3] 33 (0, 0)) (up BK262.out) hb); have n3_ := Aside0.mk (blk_below (g := gb263) (o := .cells #[.int .i64 a3_0, .int .u64 a3_1, .int .u64 a3_2, .int .i64 a3_3] 33 (0, 0)) (up BK263.out) hb); have n4_ := Aside0.mk (below_step (upB HB.out) hb); clear BK260; clear BK261; clear BK262; clear BK263; clear HB; have BK260 := n0_; have BK261 := n1_; have BK262 := n2_; have BK263 := n3_; have HB := n4_; clear n0_ n1_ n2_ n3_ n4_; (try clear hb); (try clear hb2); (try clear hk); (try clear hi)))
  go_ret
  exact ⟨by first | rfl | (simp [errW_none, errW_some] <;> rfl) | (simp [*, errW_none, errW_some] <;> rfl), upB HB.out⟩
end Go.Proofs.YtinmmnljicmppaaDoor.PTaleApart
