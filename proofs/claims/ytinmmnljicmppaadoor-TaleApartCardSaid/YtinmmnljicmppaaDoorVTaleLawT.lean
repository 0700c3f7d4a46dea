import Derived.Test.YtinmmnljicmppaaDoorVPTaleApartx0
import Derived.Test.YtinmmnljicmppaaDoorVTaleW
/- Words of this proof. -/
namespace Go.Proofs.YtinmmnljicmppaaDoor.PTaleApart
open Go.RowKit Go.Proofs.YtinmmnljicmppaaDoorW.PrintWords Go.Proofs.YtinmmnljicmppaaDoorW.PrintLast Go.Proofs.YtinmmnljicmppaaDoorW.PrintMore Go.Proofs.YtinmmnljicmppaaDoor.Str
attribute [local go_sem] max2_int min2_int max_two min_two max_three min_three max_four min_four
set_option linter.unusedVariables false
set_option linter.unusedSimpArgs false
def revenantref32_Num.l0 : Nat → Int → ByteArray → Option (ByteArray)
 | 0, _, _ => none
 | k + 1, x0, x3 => if x0 ≥ 10 then ((some (([(IntKind.u64.wrap (48 + (Int.tmod (IntKind.u64.wrap (Int.tdiv x0 10)) 10))) % 256] : List Int) : List Int)).bind fun y261 => (if (strOfNums y261).size + x3.size ≤ 9223372036854775807 then (revenantref32_Num.l0 k (IntKind.u64.wrap (Int.tdiv x0 10)) ((strOfNums y261) ++ x3)) else (none))) else (some x3)
def revenantref32_Num.f (k : Nat) (a0 : Int) : Option (ByteArray) := revenantref32_Num.l0 k a0 (strOfNums (([(IntKind.u64.wrap (48 + (Int.tmod a0 10))) % 256] : List Int)))
theorem revenantref32_Num.mono_l : ∀ k, (∀ y0 y1, LeO (revenantref32_Num.l0 k y0 y1) (revenantref32_Num.l0 (k + 1) y0 y1))
 | 0 => fun _ _ r h => by simp [revenantref32_Num.l0] at h
 | k + 1 => by
  have ih0 := revenantref32_Num.mono_l k
  ·intro y0 y1
   unfold revenantref32_Num.l0
   repeat' first
   | (with_reducible exact ih0 _ _)
   | (with_reducible exact LeO.refl _)
   | (with_reducible exact LeO.none _)
   | (with_reducible refine LeO.ite ?_ ?_)
   | (with_reducible refine LeO.bind ?_ (fun _ => ?_))
   | exact ih0 _ _
   | exact LeO.none _
   | refine LeO.ite ?_ ?_
   | refine LeO.bind ?_ (fun _ => ?_)
theorem revenantref32_Num.mono : ∀ a0 k, LeO (revenantref32_Num.f k a0) (revenantref32_Num.f (k + 1) a0) := by
 intro a0 k
 have ih0 := revenantref32_Num.mono_l k
 unfold revenantref32_Num.f
 repeat' first
   | (with_reducible exact ih0 _ _)
   | (with_reducible exact LeO.refl _)
   | (with_reducible exact LeO.none _)
   | (with_reducible refine LeO.ite ?_ ?_)
   | (with_reducible refine LeO.bind ?_ (fun _ => ?_))
   | exact ih0 _ _
   | exact LeO.none _
   | refine LeO.ite ?_ ?_
   | refine LeO.bind ?_ (fun _ => ?_)
set_option maxHeartbeats 8000000 in
set_option maxRecDepth 100000 in
theorem revenantref32_Num.calls (k : Nat) (a0 : Int) (r : ByteArray) (w : World) (h : revenantref32_Num.f k a0 = some r) :
  Calls Tryd.prog 6 #[.int .u64 a0] w fun e w' => e = .returned (.string r) ∧ Below w.heap.size w w' := by
 have HB := Aside0.mk (Below.refl w.heap.size w)
 have H : (revenantref32_Num.l0 k a0 (strOfNums (([(IntKind.u64.wrap (48 + (Int.tmod a0 10))) % 256] : List Int)))) = some r := h
 clear h
 obtain ⟨y258, hy258⟩ : ∃ y_ : List Int, y_ = (([(IntKind.u64.wrap (48 + (Int.tmod a0 10))) % 256] : List Int)) := ⟨_, rfl⟩
 replace H : (revenantref32_Num.l0 k a0 (strOfNums y258)) = some r := by first | (rw [hy258]; with_reducible exact H) | (have H2_ := (Option.bind_some _ _).symm.trans H; rw [hy258]; with_reducible exact H2_) | (have H2_ := (Option.bind_some _ _).symm.trans H; with_reducible exact H2_) | with_reducible exact H | (rw [hy258]; exact H) | exact H
 have Ny258 := Aside0.mk hy258
 clear hy258
 have H' := Aside0.mk H
 clear H
 go_enter Tryd.func6, Tryd.ntmps6
 go_wp2_with (first | ((with_reducible refine gate_dst (N := 8) rfl ?_); refine Kd.R_lit (Kd.int .u8) _ 5 ?hg (N := 8) ?hd (xs := ([(IntKind.u64.wrap (48 + (Int.tmod a0 10))) % 256] : List Int)) (inner := [.int .u8 ((IntKind.u64.wrap (48 + (Int.tmod a0 10))) % 256)]) (ok := fun _ => True) (okp := fun _ => True) ?hr ?hp (fun _ hk => hk) trivial (Below.refl _ _) (Nat.le_refl _) (by simp) ?_; (case hd => rfl); (case hg => rfl); (case hr => first | (go_simp; done) | (go_simp; rfl)); (case hp => exact (Reps.one (show Kd.M (Kd.int .u8) _ _ _ ((IntKind.u64.wrap (48 + (Int.tmod a0 10))) % 256) [.int .u8 ((IntKind.u64.wrap (48 + (Int.tmod a0 10))) % 256)] from rfl) (Reps.none _ _))); intro v259 w2 ho3 hb hg_ hnew_; clear hg_ hnew_; (first | rw [← Ny258.out] at ho3 | (simp only [Int.reduceToNat] at ho3; rw [← Ny258.out] at ho3)); have n0_ := Aside0.mk (Kd.R_lower ho3 (below_size (upB HB.out))); have n1_ := Aside0.mk (below_step (upB HB.out) hb); clear HB; have HO260 := n0_; have HB := n1_; clear n0_ n1_; clear hb ho3; have hcv4 := own_string (P := Tryd.prog) Tryd.underlying51 Tryd.underlying5 Tryd.underlying9 (Kd.own_of_R HO260.out)))
 go_loopg [0, 3] k (fun kq v0 v3 w' => ∃ (x0_1 : Int) (x3_1 : ByteArray), v0 = .int .u64 x0_1 ∧ v3 = .string x3_1 ∧ Aside0 (revenantref32_Num.l0 kq x0_1 x3_1 = some r) ∧ Aside0 (kq ≤ k) ∧ Aside0 (Below w.heap.size w w'))
 case atStart => exact ⟨(a0), (strOfNums y258), (by first | rfl | exact congrArg Value.bool (Eq.symm (by assumption)) | (simp; done) | (simp [*]; done)), (by first | rfl | exact congrArg Value.bool (Eq.symm (by assumption)) | (simp; done) | (simp [*]; done)), H', ⟨Nat.le_refl _⟩, ⟨upB HB.out⟩⟩
 case round =>
  clear H'
  try clear p2
  try clear hcv4
  obtain ⟨x0_1, x3_1, rfl, rfl, HA, HK1, HB⟩ := hrel
  cases gk with
  | zero => exact absurd HA.out (by simp [revenantref32_Num.l0])
  | succ k1 =>
   have H := HA.out
   clear HA
   simp only [revenantref32_Num.l0] at H
   by_cases c5 : x0_1 ≥ 10
   ·rw [if_pos c5] at H
    have c5b0 : decide (10 ≤ x0_1) = true := decide_eq_true c5
    clear c5
    obtain ⟨y261, hy261⟩ : ∃ y_ : List Int, y_ = (([(IntKind.u64.wrap (48 + (Int.tmod (IntKind.u64.wrap (Int.tdiv x0_1 10)) 10))) % 256] : List Int)) := ⟨_, rfl⟩
    replace H : (if (strOfNums y261).size + x3_1.size ≤ 9223372036854775807 then (revenantref32_Num.l0 k1 (IntKind.u64.wrap (Int.tdiv x0_1 10)) ((strOfNums y261) ++ x3_1)) else (none)) = some r := by first | (rw [hy261]; with_reducible exact H) | (have H2_ := (Option.bind_some _ _).symm.trans H; rw [hy261]; with_reducible exact H2_) | (have H2_ := (Option.bind_some _ _).symm.trans H; with_reducible exact H2_) | with_reducible exact H | (rw [hy261]; exact H) | exact H
    have Ny261 := Aside0.mk hy261
    clear hy261
    by_cases c6 : (strOfNums y261).size + x3_1.size ≤ 9223372036854775807
    ·rw [if_pos c6] at H
     have c6b0 := eq_true c6
     have c6b1 : decide ((strOfNums y261).size + x3_1.size ≤ 9223372036854775807) = true := decide_eq_true c6
     try have c6b2 : (9223372036854775807 < (strOfNums y261).size + x3_1.size) = False := eq_false (Nat.not_lt.2 c6)
     have H' := Aside0.mk H
     clear H
     go_wp2_with (first | ((with_reducible refine gate_dst (N := 18) rfl ?_); refine Kd.R_lit (Kd.int .u8) _ 5 ?hg (N := 18) ?hd (xs := ([(IntKind.u64.wrap (48 + (Int.tmod (IntKind.u64.wrap (Int.tdiv x0_1 10)) 10))) % 256] : List Int)) (inner := [.int .u8 ((IntKind.u64.wrap (48 + (Int.tmod (IntKind.u64.wrap (Int.tdiv x0_1 10)) 10))) % 256)]) (ok := fun _ => True) (okp := fun _ => True) ?hr ?hp (fun _ hk => hk) trivial (Below.refl _ _) (Nat.le_refl _) (by simp) ?_; (case hd => rfl); (case hg => rfl); (case hr => first | (go_simp; done) | (go_simp; rfl)); (case hp => exact (Reps.one (show Kd.M (Kd.int .u8) _ _ _ ((IntKind.u64.wrap (48 + (Int.tmod (IntKind.u64.wrap (Int.tdiv x0_1 10)) 10))) % 256) [.int .u8 ((IntKind.u64.wrap (48 + (Int.tmod (IntKind.u64.wrap (Int.tdiv x0_1 10)) 10))) % 256)] from rfl) (Reps.none _ _))); intro v262 w7 ho8 hb hg_ hnew_; clear hg_ hnew_; (first | rw [← Ny261.out] at ho8 | (simp only [Int.reduceToNat] at ho8; rw [← Ny261.out] at ho8)); have n0_ := Aside0.mk (Kd.R_lower ho8 (below_size (upB HB.out))); have n1_ := Aside0.mk (below_step (upB HB.out) hb); clear HB; have HO263 := n0_; have HB := n1_; clear n0_ n1_; clear hb ho8; have hcv9 := own_string (P := Tryd.prog) Tryd.underlying51 Tryd.underlying5 Tryd.underlying9 (Kd.own_of_R HO263.out)))
     go_roundg k1
     case measure => have := HK1.out; omega
     case rel => exact ⟨(IntKind.u64.wrap (Int.tdiv x0_1 10)), ((strOfNums y261) ++ x3_1), (by first | rfl | exact congrArg Value.bool (Eq.symm (by assumption)) | (simp; done) | (simp [*]; done)), (by first | rfl | exact congrArg Value.bool (Eq.symm (by assumption)) | (simp; done) | (simp [*]; done)), H', ⟨by have := HK1.out; omega⟩, ⟨upB HB.out⟩⟩
    ·rw [if_neg c6] at H
     exact absurd H (by simp)
   ·rw [if_neg c5] at H
    have c5b0 : decide (10 ≤ x0_1) = false := decide_eq_false c5
    clear c5
    obtain rfl := Option.some.inj H
    go_wp2
    go_ret
    exact ⟨by first | rfl | (simp [errW_none, errW_some] <;> rfl) | (simp [*, errW_none, errW_some] <;> rfl), upB HB.out⟩
mutual
def revenantlaw32_TaleTells.j0 : Nat → ByteArray → Int → Bool → Int → Option (Bool)
 | 0, _, _, _, _ => none
 | k + 1, x3, x265000, x265001, x265002 => if x265002 = 0 then (revenantlaw32_TaleTells.j1 k x3 x265000 x265001 x265002) else (if x3.size + 1 ≤ 9223372036854775807 then ((revenantref32_Num.f k x265002).bind fun t266 => (if (x3 ++ (⟨#[32]⟩ : ByteArray)).size + t266.size ≤ 9223372036854775807 then (revenantlaw32_TaleTells.j1 k ((x3 ++ (⟨#[32]⟩ : ByteArray)) ++ t266) x265000 x265001 x265002) else (none))) else (none))
def revenantlaw32_TaleTells.j1 : Nat → ByteArray → Int → Bool → Int → Option (Bool)
 | 0, _, _, _, _ => none
 | k + 1, x3, x265000, x265001, x265002 => if x265000 > 0 then ((revenantref32_Num.f k (IntKind.u64.wrap (x265000))).bind fun t267 => (if 6 + t267.size ≤ 9223372036854775807 then (revenantlaw32_TaleTells.j2 k ((⟨#[101, 114, 114, 111, 114, 32]⟩ : ByteArray) ++ t267) x265000 x265001 x265002) else (none))) else (revenantlaw32_TaleTells.j2 k x3 x265000 x265001 x265002)
def revenantlaw32_TaleTells.j2 : Nat → ByteArray → Int → Bool → Int → Option (Bool)
 | 0, _, _, _, _ => none
 | k + 1, x3, x265000, x265001, x265002 => if x265000 < 0 then ((revenantref32_Num.f k (IntKind.u64.wrap (-(IntKind.u64.wrap (x265000))))).bind fun t268 => (if 7 + t268.size ≤ 9223372036854775807 then (revenantlaw32_TaleTells.j3 k ((⟨#[101, 114, 114, 111, 114, 32, 45]⟩ : ByteArray) ++ t268) x265000 x265001 x265002) else (none))) else (revenantlaw32_TaleTells.j3 k x3 x265000 x265001 x265002)
def revenantlaw32_TaleTells.j3 : Nat → ByteArray → Int → Bool → Int → Option (Bool)
 | 0, _, _, _, _ => none
 | k + 1, x3, x265000, x265001, x265002 => if x265000 = 6 then (if x265000 = 7 then ((tale_Tell.f k x265000 x265001 x265002).bind fun t269 => (some (t269.toList == ([101, 112, 111, 99, 104] : List UInt8)))) else ((tale_Tell.f k x265000 x265001 x265002).bind fun t270 => (some (t270.toList == ([102, 117, 108, 108] : List UInt8))))) else (if x265000 = 7 then ((tale_Tell.f k x265000 x265001 x265002).bind fun t271 => (some (t271.toList == ([101, 112, 111, 99, 104] : List UInt8)))) else ((tale_Tell.f k x265000 x265001 x265002).bind fun t272 => (some (t272.toList == x3.toList))))
end
def revenantlaw32_TaleTells.f (k : Nat) (a0_0 : Int) (a0_1 : Bool) (a0_2 : Int) : Option (Bool) := (revenantlaw32_awake.f).bind fun t265 => (if t265 = true then (if a0_1 = true then (revenantlaw32_TaleTells.j0 k (⟨#[121, 101, 115]⟩ : ByteArray) a0_0 a0_1 a0_2) else (revenantlaw32_TaleTells.j0 k (⟨#[110, 111]⟩ : ByteArray) a0_0 a0_1 a0_2)) else (some false))
theorem revenantlaw32_TaleTells.mono_l : ∀ k, (∀ y0 y1 y2 y3, LeO (revenantlaw32_TaleTells.j0 k y0 y1 y2 y3) (revenantlaw32_TaleTells.j0 (k + 1) y0 y1 y2 y3)) ∧ (∀ y0 y1 y2 y3, LeO (revenantlaw32_TaleTells.j1 k y0 y1 y2 y3) (revenantlaw32_TaleTells.j1 (k + 1) y0 y1 y2 y3)) ∧ (∀ y0 y1 y2 y3, LeO (revenantlaw32_TaleTells.j2 k y0 y1 y2 y3) (revenantlaw32_TaleTells.j2 (k + 1) y0 y1 y2 y3)) ∧ (∀ y0 y1 y2 y3, LeO (revenantlaw32_TaleTells.j3 k y0 y1 y2 y3) (revenantlaw32_TaleTells.j3 (k + 1) y0 y1 y2 y3))
 | 0 => ⟨fun _ _ _ _ r h => by simp [revenantlaw32_TaleTells.j0] at h, fun _ _ _ _ r h => by simp [revenantlaw32_TaleTells.j1] at h, fun _ _ _ _ r h => by simp [revenantlaw32_TaleTells.j2] at h, fun _ _ _ _ r h => by simp [revenantlaw32_TaleTells.j3] at h⟩
 | k + 1 => by
  obtain ⟨ih0, ih1, ih2, ih3⟩ := revenantlaw32_TaleTells.mono_l k
  refine ⟨?_, ?_, ?_, ?_⟩
  ·intro y0 y1 y2 y3
   unfold revenantlaw32_TaleTells.j0
   repeat' first
   | (with_reducible exact ih0 _ _ _ _)
   | (with_reducible exact ih1 _ _ _ _)
   | (with_reducible exact ih2 _ _ _ _)
   | (with_reducible exact ih3 _ _ _ _)
   | (with_reducible exact revenantref32_Num.mono _ _)
   | (with_reducible exact tale_Tell.mono _ _ _ _)
   | (with_reducible exact LeO.refl _)
   | (with_reducible exact LeO.none _)
   | (with_reducible refine LeO.ite ?_ ?_)
   | (with_reducible refine LeO.bind ?_ (fun _ => ?_))
   | exact ih0 _ _ _ _
   | exact ih1 _ _ _ _
   | exact ih2 _ _ _ _
   | exact ih3 _ _ _ _
   | exact revenantref32_Num.mono _ _
   | exact tale_Tell.mono _ _ _ _
   | exact LeO.none _
   | refine LeO.ite ?_ ?_
   | refine LeO.bind ?_ (fun _ => ?_)
  ·intro y0 y1 y2 y3
   unfold revenantlaw32_TaleTells.j1
   repeat' first
   | (with_reducible exact ih0 _ _ _ _)
   | (with_reducible exact ih1 _ _ _ _)
   | (with_reducible exact ih2 _ _ _ _)
   | (with_reducible exact ih3 _ _ _ _)
   | (with_reducible exact revenantref32_Num.mono _ _)
   | (with_reducible exact tale_Tell.mono _ _ _ _)
   | (with_reducible exact LeO.refl _)
   | (with_reducible exact LeO.none _)
   | (with_reducible refine LeO.ite ?_ ?_)
   | (with_reducible refine LeO.bind ?_ (fun _ => ?_))
   | exact ih0 _ _ _ _
   | exact ih1 _ _ _ _
   | exact ih2 _ _ _ _
   | exact ih3 _ _ _ _
   | exact revenantref32_Num.mono _ _
   | exact tale_Tell.mono _ _ _ _
   | exact LeO.none _
   | refine LeO.ite ?_ ?_
   | refine LeO.bind ?_ (fun _ => ?_)
  ·intro y0 y1 y2 y3
   unfold revenantlaw32_TaleTells.j2
   repeat' first
   | (with_reducible exact ih0 _ _ _ _)
   | (with_reducible exact ih1 _ _ _ _)
   | (with_reducible exact ih2 _ _ _ _)
   | (with_reducible exact ih3 _ _ _ _)
   | (with_reducible exact revenantref32_Num.mono _ _)
   | (with_reducible exact tale_Tell.mono _ _ _ _)
   | (with_reducible exact LeO.refl _)
   | (with_reducible exact LeO.none _)
   | (with_reducible refine LeO.ite ?_ ?_)
   | (with_reducible refine LeO.bind ?_ (fun _ => ?_))
   | exact ih0 _ _ _ _
   | exact ih1 _ _ _ _
   | exact ih2 _ _ _ _
   | exact ih3 _ _ _ _
   | exact revenantref32_Num.mono _ _
   | exact tale_Tell.mono _ _ _ _
   | exact LeO.none _
   | refine LeO.ite ?_ ?_
   | refine LeO.bind ?_ (fun _ => ?_)
  ·intro y0 y1 y2 y3
   unfold revenantlaw32_TaleTells.j3
   repeat' first
   | (with_reducible exact ih0 _ _ _ _)
   | (with_reducible exact ih1 _ _ _ _)
   | (with_reducible exact ih2 _ _ _ _)
   | (with_reducible exact ih3 _ _ _ _)
   | (with_reducible exact revenantref32_Num.mono _ _)
   | (with_reducible exact tale_Tell.mono _ _ _ _)
   | (with_reducible exact LeO.refl _)
   | (with_reducible exact LeO.none _)
   | (with_reducible refine LeO.ite ?_ ?_)
   | (with_reducible refine LeO.bind ?_ (fun _ => ?_))
   | exact ih0 _ _ _ _
   | exact ih1 _ _ _ _
   | exact ih2 _ _ _ _
   | exact ih3 _ _ _ _
   | exact revenantref32_Num.mono _ _
   | exact tale_Tell.mono _ _ _ _
   | exact LeO.none _
   | refine LeO.ite ?_ ?_
   | refine LeO.bind ?_ (fun _ => ?_)
theorem revenantlaw32_TaleTells.mono : ∀ a0 a1 a2 k, LeO (revenantlaw32_TaleTells.f k a0 a1 a2) (revenantlaw32_TaleTells.f (k + 1) a0 a1 a2) := by
 intro a0 a1 a2 k
 obtain ⟨ih0, ih1, ih2, ih3⟩ := revenantlaw32_TaleTells.mono_l k
 unfold revenantlaw32_TaleTells.f
 repeat' first
   | (with_reducible exact ih0 _ _ _ _)
   | (with_reducible exact ih1 _ _ _ _)
   | (with_reducible exact ih2 _ _ _ _)
   | (with_reducible exact ih3 _ _ _ _)
   | (with_reducible exact revenantref32_Num.mono _ _)
   | (with_reducible exact tale_Tell.mono _ _ _ _)
   | (with_reducible exact LeO.refl _)
   | (with_reducible exact LeO.none _)
   | (with_reducible refine LeO.ite ?_ ?_)
   | (with_reducible refine LeO.bind ?_ (fun _ => ?_))
   | exact ih0 _ _ _ _
   | exact ih1 _ _ _ _
   | exact ih2 _ _ _ _
   | exact ih3 _ _ _ _
   | exact revenantref32_Num.mono _ _
   | exact tale_Tell.mono _ _ _ _
   | exact LeO.none _
   | refine LeO.ite ?_ ?_
   | refine LeO.bind ?_ (fun _ => ?_)
set_option maxHeartbeats 8000000 in
set_option maxRecDepth 100000 in
theorem revenantlaw32_TaleTells.calls (k : Nat) (a0_0 : Int) (a0_1 : Bool) (a0_2 : Int) (r : Bool) (w : World) (h : revenantlaw32_TaleTells.f k a0_0 a0_1 a0_2 = some r) {w0 : World} (ht0 : WT w0) (hb0 : Below w0.heap.size w0 w) :
  Calls Tryd.prog 3 #[.agg #[.int .i64 a0_0, .bool a0_1, .int .u64 a0_2]] w fun e w' => e = .returned (.bool r) ∧ Below w.heap.size w w' := by
 have hu25 := Tryd.underlying25
 have HTT := Aside0.mk (WT.below ht0 hb0)
 clear ht0 hb0
 have HB := Aside0.mk (Below.refl w.heap.size w)
 have H : ((revenantlaw32_awake.f).bind fun t265 => (if t265 = true then (if a0_1 = true then (revenantlaw32_TaleTells.j0 k (⟨#[121, 101, 115]⟩ : ByteArray) a0_0 a0_1 a0_2) else (revenantlaw32_TaleTells.j0 k (⟨#[110, 111]⟩ : ByteArray) a0_0 a0_1 a0_2)) else (some false))) = some r := h
 clear h
 replace H := Option.bind_eq_some_iff.mp H
 obtain ⟨t265, A20, H⟩ := H
 replace H : (if t265 = true then (if a0_1 = true then (revenantlaw32_TaleTells.j0 k (⟨#[121, 101, 115]⟩ : ByteArray) a0_0 a0_1 a0_2) else (revenantlaw32_TaleTells.j0 k (⟨#[110, 111]⟩ : ByteArray) a0_0 a0_1 a0_2)) else (some false)) = some r := H
 have A2 := Aside0.mk A20
 clear A20
 by_cases c3 : t265 = true
 ·subst c3
  have H1 : (if a0_1 = true then (revenantlaw32_TaleTells.j0 k (⟨#[121, 101, 115]⟩ : ByteArray) a0_0 a0_1 a0_2) else (revenantlaw32_TaleTells.j0 k (⟨#[110, 111]⟩ : ByteArray) a0_0 a0_1 a0_2)) = some r := by rw [if_pos rfl] at H; exact H
  clear H
  have H := H1
  clear H1
  have HC4 := Aside0.mk H
  clear H
  go_enter Tryd.func3, Tryd.ntmps3
  go_upto_if 7 with (first | ((with_reducible refine gate_dst (N := 1) rfl ?_); refine box_event ?hg (N := 1) ?hd (cs := #[.int .i64 a0_0, .bool a0_1, .int .u64 a0_2]) (t := 25) ?hr ?_; (case hd => rfl); (case hg => rfl); (case hr => first | (go_simp; done) | (go_simp; rfl)); intro gb264 hg w5 hbox hb; have n0_ := Aside0.mk (below_step (upB HB.out) hb); have n1_ := Aside0.mk (hbox); have n2_ := Aside0.mk ((by rw [hg]; exact (below_size (upB HB.out)) : w.heap.size ≤ gb264)); have n3_ := Aside0.mk ((by rw [hg]; exact (below_size (upB HB.out)) : w.heap.size ≤ gb264)); clear HB; have HB := n0_; have BK264 := n1_; have GW264 := n2_; have GE264 := n3_; clear n0_ n1_ n2_ n3_; clear hb hbox hg) | ((with_reducible refine gate_callee (f := 5) rfl ?_); refine goesL_ (some 4) rfl rfl Tryd.func5 (by kernel_rfl) rfl #[] rfl (by (try simp only [List.map_toArray, List.map_cons, List.map_nil]); first | done | rfl | (simp only [List.length_drop, List.length_take]; rfl)) ?_; (with_reducible refine (revenantlaw32_awake.calls  true _ A2.out HTT.out (upB HB.out)).mono ?_); rintro e w6 ⟨rfl, hb⟩; refine ⟨_, rfl, ?_⟩; have n0_ := Aside0.mk (blk_below (g := gb264) (o := .cells #[.int .i64 a0_0, .bool a0_1, .int .u64 a0_2] 25 (0, 0)) (up BK264.out) hb); have n1_ := Aside0.mk (below_step (upB HB.out) hb); clear BK264; clear HB; have BK264 := n0_; have HB := n1_; clear n0_ n1_; (try clear hb); (try clear hb2); (try clear hk); (try clear hi); have hcz7_0 : w6.cell? ⟨gb264, 0, none⟩ = some (.int .i64 a0_0) := (blk_cell BK264.out 0).trans rfl; have hcz7_1 : w6.cell? ⟨gb264, 1, none⟩ = some (.bool a0_1) := (blk_cell BK264.out 1).trans rfl; have hcz7_2 : w6.cell? ⟨gb264, 2, none⟩ = some (.int .u64 a0_2) := (blk_cell BK264.out 2).trans rfl; have hfz7_0 := blk_frozen BK264.out 0; have hfz7_1 := blk_frozen BK264.out 1; have hfz7_2 := blk_frozen BK264.out 2))
  (try simp only [Act.put, List.setIfInBounds_toArray, List.set_cons_zero, List.set_cons_succ])
  go_cut [3] (fun v3 wc => ∃ (kq : Nat) (x3_3 : ByteArray), v3 = .string x3_3 ∧ Aside0 (revenantlaw32_TaleTells.j0 kq x3_3 a0_0 a0_1 a0_2 = some r) ∧ Aside0 (kq ≤ k) ∧ Aside0 (wc.heap[gb264]? = some (.cells #[.int .i64 a0_0, .bool a0_1, .int .u64 a0_2] 25 (0, 0))) ∧ Aside0 (Below w.heap.size w wc))
  case first =>
   have H := HC4.out
   clear HC4
   by_cases c8 : a0_1 = true
   ·subst c8
    have H1 : (revenantlaw32_TaleTells.j0 k (⟨#[121, 101, 115]⟩ : ByteArray) a0_0 true a0_2) = some r := by rw [if_pos rfl] at H; exact H
    clear H
    have H := H1
    clear H1
    have H' := Aside0.mk H
    clear H
    go_wp2
    go_meet
    case rel => exact ⟨_, ((⟨#[121, 101, 115]⟩ : ByteArray)), (by first | rfl | exact congrArg Value.bool (Eq.symm (by assumption)) | (simp; done) | (simp [*]; done)), H', ⟨by first | omega | exact Nat.le_refl _⟩, ⟨up BK264.out⟩, ⟨upB HB.out⟩⟩
   ·replace c8 := Bool.eq_false_iff.mpr c8
    subst c8
    have H1 : (revenantlaw32_TaleTells.j0 k (⟨#[110, 111]⟩ : ByteArray) a0_0 false a0_2) = some r := by rw [if_neg (show ¬ (false = true) by decide)] at H; exact H
    clear H
    have H := H1
    clear H1
    have H' := Aside0.mk H
    clear H
    go_wp2
    go_meet
    case rel => exact ⟨_, ((⟨#[110, 111]⟩ : ByteArray)), (by first | rfl | exact congrArg Value.bool (Eq.symm (by assumption)) | (simp; done) | (simp [*]; done)), H', ⟨by first | omega | exact Nat.le_refl _⟩, ⟨up BK264.out⟩, ⟨upB HB.out⟩⟩
  case rest =>
   clear HC4
   try clear p2
   try clear c3
   try clear c5
   try clear c8
   try clear hcz7_0
   try clear hcz7_1
   try clear hcz7_2
   try clear hfz7_0
   try clear hfz7_1
   try clear hfz7_2
   obtain ⟨kq, x3_3, rfl, HA, HJ3, BK264, HB⟩ := hcut
   cases kq with
   | zero => exact absurd HA.out (by simp [revenantlaw32_TaleTells.j0])
   | succ kj3 =>
    have H := HA.out
    clear HA
    simp only [revenantlaw32_TaleTells.j0] at H
    have HC9 := Aside0.mk H
    clear H
    have hcz10_0 : wc.cell? ⟨gb264, 0, none⟩ = some (.int .i64 a0_0) := (blk_cell BK264.out 0).trans rfl
    have hcz10_1 : wc.cell? ⟨gb264, 1, none⟩ = some (.bool a0_1) := (blk_cell BK264.out 1).trans rfl
    have hcz10_2 : wc.cell? ⟨gb264, 2, none⟩ = some (.int .u64 a0_2) := (blk_cell BK264.out 2).trans rfl
    have hfz10_0 := blk_frozen BK264.out 0
    have hfz10_1 := blk_frozen BK264.out 1
    have hfz10_2 := blk_frozen BK264.out 2
    go_upto_if 10 with (fail)
    go_cut [3] (fun v3 wc => ∃ (kq : Nat) (x3_8 : ByteArray), v3 = .string x3_8 ∧ Aside0 (revenantlaw32_TaleTells.j1 kq x3_8 a0_0 a0_1 a0_2 = some r) ∧ Aside0 (kq ≤ kj3) ∧ Aside0 (wc.heap[gb264]? = some (.cells #[.int .i64 a0_0, .bool a0_1, .int .u64 a0_2] 25 (0, 0))) ∧ Aside0 (Below w.heap.size w wc))
    case first =>
     have H := HC9.out
     clear HC9
     by_cases c11 : a0_2 = 0
     ·rw [if_pos c11] at H
      have c11b0 : (a0_2 == 0) = true := beq_iff_eq.mpr c11
      have c11b1 : (a0_2 != 0) = false := bne_eq_false_iff_eq.mpr c11
      clear c11
      (first | rw [c11b0] | (simp only [i64_w, i32_w]; rw [c11b0]) | skip)
      have H' := Aside0.mk H
      clear H
      go_wp2
      go_meet
      case rel => exact ⟨_, (x3_3), (by first | rfl | exact congrArg Value.bool (Eq.symm (by assumption)) | (simp; done) | (simp [*]; done)), H', ⟨by have := HJ3.out; first | omega | exact Nat.le_refl _⟩, ⟨up BK264.out⟩, ⟨upB HB.out⟩⟩
     ·rw [if_neg c11] at H
      have c11b0 : (a0_2 == 0) = false := beq_eq_false_iff_ne.mpr c11
      have c11b1 : (a0_2 != 0) = true := bne_iff_ne.mpr c11
      (first | rw [c11b0] | (simp only [i64_w, i32_w]; rw [c11b0]) | skip)
      by_cases c12 : x3_3.size + 1 ≤ 9223372036854775807
      ·rw [if_pos c12] at H
       have c12b0 := eq_true c12
       have c12b1 : decide (x3_3.size + 1 ≤ 9223372036854775807) = true := decide_eq_true c12
       try have c12b2 : (9223372036854775807 < x3_3.size + 1) = False := eq_false (Nat.not_lt.2 c12)
       replace H := Option.bind_eq_some_iff.mp H
       obtain ⟨t266, A130, H⟩ := H
       replace H : (if (x3_3 ++ (⟨#[32]⟩ : ByteArray)).size + t266.size ≤ 9223372036854775807 then (revenantlaw32_TaleTells.j1 kj3 ((x3_3 ++ (⟨#[32]⟩ : ByteArray)) ++ t266) a0_0 a0_1 a0_2) else (none)) = some r := H
       have A13 := Aside0.mk A130
       clear A130
       by_cases c14 : (x3_3 ++ (⟨#[32]⟩ : ByteArray)).size + t266.size ≤ 9223372036854775807
       ·rw [if_pos c14] at H
        have c14b0 := eq_true c14
        have c14b1 : decide ((x3_3 ++ (⟨#[32]⟩ : ByteArray)).size + t266.size ≤ 9223372036854775807) = true := decide_eq_true c14
        try have c14b2 : (9223372036854775807 < (x3_3 ++ (⟨#[32]⟩ : ByteArray)).size + t266.size) = False := eq_false (Nat.not_lt.2 c14)
        have c14b3 : (9223372036854775807 < x3_3.size + 1 + t266.size) = False := eq_false (by have h14 := c14; rw [ByteArray.size_append, show (⟨#[32]⟩ : ByteArray).size = 1 from rfl] at h14; omega)
        have H' := Aside0.mk H
        clear H
        have hcz15_0 : wc.cell? ⟨gb264, 0, none⟩ = some (.int .i64 a0_0) := (blk_cell BK264.out 0).trans rfl
        have hcz15_1 : wc.cell? ⟨gb264, 1, none⟩ = some (.bool a0_1) := (blk_cell BK264.out 1).trans rfl
        have hcz15_2 : wc.cell? ⟨gb264, 2, none⟩ = some (.int .u64 a0_2) := (blk_cell BK264.out 2).trans rfl
        have hfz15_0 := blk_frozen BK264.out 0
        have hfz15_1 := blk_frozen BK264.out 1
        have hfz15_2 := blk_frozen BK264.out 2
        go_wp2_with (first | ((with_reducible refine gate_callee (f := 6) rfl ?_); refine goesL_ (some 15) rfl rfl Tryd.func6 (by kernel_rfl) rfl #[.int .u64 a0_2] rfl (by (try simp only [List.map_toArray, List.map_cons, List.map_nil]); first | done | rfl | (simp only [List.length_drop, List.length_take]; rfl)) ?_; (with_reducible refine (revenantref32_Num.calls kj3 a0_2 t266 _ A13.out).mono ?_); rintro e w16 ⟨rfl, hb⟩; refine ⟨_, rfl, ?_⟩; have n0_ := Aside0.mk (blk_below (g := gb264) (o := .cells #[.int .i64 a0_0, .bool a0_1, .int .u64 a0_2] 25 (0, 0)) (up BK264.out) hb); have n1_ := Aside0.mk (below_step (upB HB.out) hb); clear BK264; clear HB; have BK264 := n0_; have HB := n1_; clear n0_ n1_; (try clear hb); (try clear hb2); (try clear hk); (try clear hi)))
        go_meet
        case rel => exact ⟨_, ((x3_3 ++ (⟨#[32]⟩ : ByteArray)) ++ t266), (by first | rfl | exact congrArg Value.bool (Eq.symm (by assumption)) | (simp; done) | (simp [*]; done)), H', ⟨by have := HJ3.out; first | omega | exact Nat.le_refl _⟩, ⟨up BK264.out⟩, ⟨upB HB.out⟩⟩
       ·rw [if_neg c14] at H
        exact absurd H (by simp)
      ·rw [if_neg c12] at H
       exact absurd H (by simp)
    case rest =>
     clear HC9
     try clear c1
     try clear p2
     try clear c3
     try clear c5
     try clear c6
     try clear c8
     try clear c11
     try clear c11b0
     try clear c11b1
     try clear c12
     try clear c12b0
     try clear c12b1
     try clear c12b2
     try clear c14
     try clear c14b0
     try clear c14b1
     try clear c14b2
     try clear hcz10_0
     try clear hcz10_1
     try clear hcz10_2
     try clear hcz15_0
     try clear hcz15_1
     try clear hcz15_2
     try clear hcz7_0
     try clear hcz7_1
     try clear hcz7_2
     try clear hfz10_0
     try clear hfz10_1
     try clear hfz10_2
     try clear hfz15_0
     try clear hfz15_1
     try clear hfz15_2
     try clear hfz7_0
     try clear hfz7_1
     try clear hfz7_2
     try clear p2
     obtain ⟨kq, x3_8, rfl, HA, HJ8, BK264, HB⟩ := hcut
     cases kq with
     | zero => exact absurd HA.out (by simp [revenantlaw32_TaleTells.j1])
     | succ kj8 =>
      have H := HA.out
      clear HA
      simp only [revenantlaw32_TaleTells.j1] at H
      have HC17 := Aside0.mk H
      clear H
      have hcz18_0 : wc.cell? ⟨gb264, 0, none⟩ = some (.int .i64 a0_0) := (blk_cell BK264.out 0).trans rfl
      have hcz18_1 : wc.cell? ⟨gb264, 1, none⟩ = some (.bool a0_1) := (blk_cell BK264.out 1).trans rfl
      have hcz18_2 : wc.cell? ⟨gb264, 2, none⟩ = some (.int .u64 a0_2) := (blk_cell BK264.out 2).trans rfl
      have hfz18_0 := blk_frozen BK264.out 0
      have hfz18_1 := blk_frozen BK264.out 1
      have hfz18_2 := blk_frozen BK264.out 2
      go_upto_if 19 with (fail)
      go_cut [3] (fun v3 wc => ∃ (kq : Nat) (x3_16 : ByteArray), v3 = .string x3_16 ∧ Aside0 (revenantlaw32_TaleTells.j2 kq x3_16 a0_0 a0_1 a0_2 = some r) ∧ Aside0 (kq ≤ kj8) ∧ Aside0 (wc.heap[gb264]? = some (.cells #[.int .i64 a0_0, .bool a0_1, .int .u64 a0_2] 25 (0, 0))) ∧ Aside0 (Below w.heap.size w wc))
      case first =>
       have H := HC17.out
       clear HC17
       by_cases c19 : a0_0 > 0
       ·rw [if_pos c19] at H
        have c19b0 : decide (0 < a0_0) = true := decide_eq_true c19
        clear c19
        (first | rw [c19b0] | (simp only [i64_w, i32_w]; rw [c19b0]) | skip)
        replace H := Option.bind_eq_some_iff.mp H
        obtain ⟨t267, A200, H⟩ := H
        replace H : (if 6 + t267.size ≤ 9223372036854775807 then (revenantlaw32_TaleTells.j2 kj8 ((⟨#[101, 114, 114, 111, 114, 32]⟩ : ByteArray) ++ t267) a0_0 a0_1 a0_2) else (none)) = some r := H
        have A20 := Aside0.mk A200
        clear A200
        by_cases c21 : 6 + t267.size ≤ 9223372036854775807
        ·rw [if_pos c21] at H
         have c21b0 := eq_true c21
         have c21b1 : decide (6 + t267.size ≤ 9223372036854775807) = true := decide_eq_true c21
         try have c21b2 : (9223372036854775807 < 6 + t267.size) = False := eq_false (Nat.not_lt.2 c21)
         have H' := Aside0.mk H
         clear H
         have hcz22_0 : wc.cell? ⟨gb264, 0, none⟩ = some (.int .i64 a0_0) := (blk_cell BK264.out 0).trans rfl
         have hcz22_1 : wc.cell? ⟨gb264, 1, none⟩ = some (.bool a0_1) := (blk_cell BK264.out 1).trans rfl
         have hcz22_2 : wc.cell? ⟨gb264, 2, none⟩ = some (.int .u64 a0_2) := (blk_cell BK264.out 2).trans rfl
         have hfz22_0 := blk_frozen BK264.out 0
         have hfz22_1 := blk_frozen BK264.out 1
         have hfz22_2 := blk_frozen BK264.out 2
         go_wp2_with (first | ((with_reducible refine gate_callee (f := 6) rfl ?_); refine goesL_ (some 23) rfl rfl Tryd.func6 (by kernel_rfl) rfl #[.int .u64 (IntKind.u64.wrap (a0_0))] rfl (by (try simp only [List.map_toArray, List.map_cons, List.map_nil]); first | done | rfl | (simp only [List.length_drop, List.length_take]; rfl)) ?_; (with_reducible refine (revenantref32_Num.calls kj8 (IntKind.u64.wrap (a0_0)) t267 _ A20.out).mono ?_); rintro e w23 ⟨rfl, hb⟩; refine ⟨_, rfl, ?_⟩; have n0_ := Aside0.mk (blk_below (g := gb264) (o := .cells #[.int .i64 a0_0, .bool a0_1, .int .u64 a0_2] 25 (0, 0)) (up BK264.out) hb); have n1_ := Aside0.mk (below_step (upB HB.out) hb); clear BK264; clear HB; have BK264 := n0_; have HB := n1_; clear n0_ n1_; (try clear hb); (try clear hb2); (try clear hk); (try clear hi)))
         go_meet
         case rel => exact ⟨_, ((⟨#[101, 114, 114, 111, 114, 32]⟩ : ByteArray) ++ t267), (by first | rfl | exact congrArg Value.bool (Eq.symm (by assumption)) | (simp; done) | (simp [*]; done)), H', ⟨by have := HJ3.out; have := HJ8.out; first | omega | exact Nat.le_refl _⟩, ⟨up BK264.out⟩, ⟨upB HB.out⟩⟩
        ·rw [if_neg c21] at H
         exact absurd H (by simp)
       ·rw [if_neg c19] at H
        have c19b0 : decide (0 < a0_0) = false := decide_eq_false c19
        clear c19
        (first | rw [c19b0] | (simp only [i64_w, i32_w]; rw [c19b0]) | skip)
        have H' := Aside0.mk H
        clear H
        go_wp2
        go_meet
        case rel => exact ⟨_, (x3_8), (by first | rfl | exact congrArg Value.bool (Eq.symm (by assumption)) | (simp; done) | (simp [*]; done)), H', ⟨by have := HJ3.out; have := HJ8.out; first | omega | exact Nat.le_refl _⟩, ⟨up BK264.out⟩, ⟨upB HB.out⟩⟩
      case rest =>
       clear HC17
       try clear c1
       try clear c2
       try clear p2
       try clear c3
       try clear c5
       try clear c6
       try clear c8
       try clear c11
       try clear c11b0
       try clear c11b1
       try clear c12
       try clear c12b0
       try clear c12b1
       try clear c12b2
       try clear c14
       try clear c14b0
       try clear c14b1
       try clear c14b2
       try clear c19
       try clear c19b0
       try clear c21
       try clear c21b0
       try clear c21b1
       try clear c21b2
       try clear hcz10_0
       try clear hcz10_1
       try clear hcz10_2
       try clear hcz15_0
       try clear hcz15_1
       try clear hcz15_2
       try clear hcz18_0
       try clear hcz18_1
       try clear hcz18_2
       try clear hcz22_0
       try clear hcz22_1
       try clear hcz22_2
       try clear hcz7_0
       try clear hcz7_1
       try clear hcz7_2
       try clear hfz10_0
       try clear hfz10_1
       try clear hfz10_2
       try clear hfz15_0
       try clear hfz15_1
       try clear hfz15_2
       try clear hfz18_0
       try clear hfz18_1
       try clear hfz18_2
       try clear hfz22_0
       try clear hfz22_1
       try clear hfz22_2
       try clear hfz7_0
       try clear hfz7_1
       try clear hfz7_2
       try clear p2
       obtain ⟨kq, x3_16, rfl, HA, HJ16, BK264, HB⟩ := hcut
       cases kq with
       | zero => exact absurd HA.out (by simp [revenantlaw32_TaleTells.j2])
       | succ kj16 =>
        have H := HA.out
        clear HA
        simp only [revenantlaw32_TaleTells.j2] at H
        have HC24 := Aside0.mk H
        clear H
        have hcz25_0 : wc.cell? ⟨gb264, 0, none⟩ = some (.int .i64 a0_0) := (blk_cell BK264.out 0).trans rfl
        have hcz25_1 : wc.cell? ⟨gb264, 1, none⟩ = some (.bool a0_1) := (blk_cell BK264.out 1).trans rfl
        have hcz25_2 : wc.cell? ⟨gb264, 2, none⟩ = some (.int .u64 a0_2) := (blk_cell BK264.out 2).trans rfl
        have hfz25_0 := blk_frozen BK264.out 0
        have hfz25_1 := blk_frozen BK264.out 1
        have hfz25_2 := blk_frozen BK264.out 2
        go_upto_if 27 with (fail)
        go_cut [3] (fun v3 wc => ∃ (kq : Nat) (x3_23 : ByteArray), v3 = .string x3_23 ∧ Aside0 (revenantlaw32_TaleTells.j3 kq x3_23 a0_0 a0_1 a0_2 = some r) ∧ Aside0 (kq ≤ kj16) ∧ Aside0 (wc.heap[gb264]? = some (.cells #[.int .i64 a0_0, .bool a0_1, .int .u64 a0_2] 25 (0, 0))) ∧ Aside0 (Below w.heap.size w wc))
        case first =>
         have H := HC24.out
         clear HC24
         by_cases c26 : a0_0 < 0
         ·rw [if_pos c26] at H
          have c26b0 : decide (a0_0 < 0) = true := decide_eq_true c26
          clear c26
          (first | rw [c26b0] | (simp only [i64_w, i32_w]; rw [c26b0]) | skip)
          replace H := Option.bind_eq_some_iff.mp H
          obtain ⟨t268, A270, H⟩ := H
          replace H : (if 7 + t268.size ≤ 9223372036854775807 then (revenantlaw32_TaleTells.j3 kj16 ((⟨#[101, 114, 114, 111, 114, 32, 45]⟩ : ByteArray) ++ t268) a0_0 a0_1 a0_2) else (none)) = some r := H
          have A27 := Aside0.mk A270
          clear A270
          by_cases c28 : 7 + t268.size ≤ 9223372036854775807
          ·rw [if_pos c28] at H
           have c28b0 := eq_true c28
           have c28b1 : decide (7 + t268.size ≤ 9223372036854775807) = true := decide_eq_true c28
           try have c28b2 : (9223372036854775807 < 7 + t268.size) = False := eq_false (Nat.not_lt.2 c28)
           have H' := Aside0.mk H
           clear H
           have hcz29_0 : wc.cell? ⟨gb264, 0, none⟩ = some (.int .i64 a0_0) := (blk_cell BK264.out 0).trans rfl
           have hcz29_1 : wc.cell? ⟨gb264, 1, none⟩ = some (.bool a0_1) := (blk_cell BK264.out 1).trans rfl
           have hcz29_2 : wc.cell? ⟨gb264, 2, none⟩ = some (.int .u64 a0_2) := (blk_cell BK264.out 2).trans rfl
           have hfz29_0 := blk_frozen BK264.out 0
           have hfz29_1 := blk_frozen BK264.out 1
           have hfz29_2 := blk_frozen BK264.out 2
           go_wp2_with (first | ((with_reducible refine gate_callee (f := 6) rfl ?_); refine goesL_ (some 32) rfl rfl Tryd.func6 (by kernel_rfl) rfl #[.int .u64 (IntKind.u64.wrap (-(IntKind.u64.wrap (a0_0))))] rfl (by (try simp only [List.map_toArray, List.map_cons, List.map_nil]); first | done | rfl | (simp only [List.length_drop, List.length_take]; rfl)) ?_; (with_reducible refine (revenantref32_Num.calls kj16 (IntKind.u64.wrap (-(IntKind.u64.wrap (a0_0)))) t268 _ A27.out).mono ?_); rintro e w30 ⟨rfl, hb⟩; refine ⟨_, rfl, ?_⟩; have n0_ := Aside0.mk (blk_below (g := gb264) (o := .cells #[.int .i64 a0_0, .bool a0_1, .int .u64 a0_2] 25 (0, 0)) (up BK264.out) hb); have n1_ := Aside0.mk (below_step (upB HB.out) hb); clear BK264; clear HB; have BK264 := n0_; have HB := n1_; clear n0_ n1_; (try clear hb); (try clear hb2); (try clear hk); (try clear hi)))
           go_meet
           case rel => exact ⟨_, ((⟨#[101, 114, 114, 111, 114, 32, 45]⟩ : ByteArray) ++ t268), (by first | rfl | exact congrArg Value.bool (Eq.symm (by assumption)) | (simp; done) | (simp [*]; done)), H', ⟨by have := HJ3.out; have := HJ8.out; have := HJ16.out; first | omega | exact Nat.le_refl _⟩, ⟨up BK264.out⟩, ⟨upB HB.out⟩⟩
          ·rw [if_neg c28] at H
           exact absurd H (by simp)
         ·rw [if_neg c26] at H
          have c26b0 : decide (a0_0 < 0) = false := decide_eq_false c26
          clear c26
          (first | rw [c26b0] | (simp only [i64_w, i32_w]; rw [c26b0]) | skip)
          have H' := Aside0.mk H
          clear H
          go_wp2
          go_meet
          case rel => exact ⟨_, (x3_16), (by first | rfl | exact congrArg Value.bool (Eq.symm (by assumption)) | (simp; done) | (simp [*]; done)), H', ⟨by have := HJ3.out; have := HJ8.out; have := HJ16.out; first | omega | exact Nat.le_refl _⟩, ⟨up BK264.out⟩, ⟨upB HB.out⟩⟩
        case rest =>
         clear HC24
         try clear c1
         try clear c2
         try clear p2
         try clear c3
         try clear c5
         try clear c6
         try clear c8
         try clear c11
         try clear c11b0
         try clear c11b1
         try clear c12
         try clear c12b0
         try clear c12b1
         try clear c12b2
         try clear c14
         try clear c14b0
         try clear c14b1
         try clear c14b2
         try clear c19
         try clear c19b0
         try clear c21
         try clear c21b0
         try clear c21b1
         try clear c21b2
         try clear c26
         try clear c26b0
         try clear c28
         try clear c28b0
         try clear c28b1
         try clear c28b2
         try clear hcz10_0
         try clear hcz10_1
         try clear hcz10_2
         try clear hcz15_0
         try clear hcz15_1
         try clear hcz15_2
         try clear hcz18_0
         try clear hcz18_1
         try clear hcz18_2
         try clear hcz22_0
         try clear hcz22_1
         try clear hcz22_2
         try clear hcz25_0
         try clear hcz25_1
         try clear hcz25_2
         try clear hcz29_0
         try clear hcz29_1
         try clear hcz29_2
         try clear hcz7_0
         try clear hcz7_1
         try clear hcz7_2
         try clear hfz10_0
         try clear hfz10_1
         try clear hfz10_2
         try clear hfz15_0
         try clear hfz15_1
         try clear hfz15_2
         try clear hfz18_0
         try clear hfz18_1
         try clear hfz18_2
         try clear hfz22_0
         try clear hfz22_1
         try clear hfz22_2
         try clear hfz25_0
         try clear hfz25_1
         try clear hfz25_2
         try clear hfz29_0
         try clear hfz29_1
         try clear hfz29_2
         try clear hfz7_0
         try clear hfz7_1
         try clear hfz7_2
         try clear p2
         obtain ⟨kq, x3_23, rfl, HA, HJ23, BK264, HB⟩ := hcut
         cases kq with
         | zero => exact absurd HA.out (by simp [revenantlaw32_TaleTells.j3])
         | succ kj23 =>
          have H := HA.out
          clear HA
          simp only [revenantlaw32_TaleTells.j3] at H
          by_cases c31 : a0_0 = 6
          ·rw [if_pos c31] at H
           have c31b0 : (a0_0 == 6) = true := beq_iff_eq.mpr c31
           have c31b1 : (a0_0 != 6) = false := bne_eq_false_iff_eq.mpr c31
           clear c31
           by_cases c32 : a0_0 = 7
           ·rw [if_pos c32] at H
            have c32b0 : (a0_0 == 7) = true := beq_iff_eq.mpr c32
            have c32b1 : (a0_0 != 7) = false := bne_eq_false_iff_eq.mpr c32
            clear c32
            replace H := Option.bind_eq_some_iff.mp H
            obtain ⟨t269, A330, H⟩ := H
            replace H : (some (t269.toList == ([101, 112, 111, 99, 104] : List UInt8))) = some r := H
            have A33 := Aside0.mk A330
            clear A330
            obtain rfl := Option.some.inj H
            have hcz34_0 : wc.cell? ⟨gb264, 0, none⟩ = some (.int .i64 a0_0) := (blk_cell BK264.out 0).trans rfl
            have hcz34_1 : wc.cell? ⟨gb264, 1, none⟩ = some (.bool a0_1) := (blk_cell BK264.out 1).trans rfl
            have hcz34_2 : wc.cell? ⟨gb264, 2, none⟩ = some (.int .u64 a0_2) := (blk_cell BK264.out 2).trans rfl
            have hfz34_0 := blk_frozen BK264.out 0
            have hfz34_1 := blk_frozen BK264.out 1
            have hfz34_2 := blk_frozen BK264.out 2
            go_wp2_with (first | ((with_reducible refine gate_callee (f := 7) rfl ?_); refine goesL_ (some 41) rfl rfl Tryd.func7 (by kernel_rfl) rfl #[.agg #[.int .i64 a0_0, .bool a0_1, .int .u64 a0_2]] rfl (by (try simp only [List.map_toArray, List.map_cons, List.map_nil]); first | done | rfl | (simp only [List.length_drop, List.length_take]; rfl)) ?_; (with_reducible refine (tale_Tell.calls kj23 a0_0 a0_1 a0_2 t269 _ A33.out HTT.out (upB HB.out)).mono ?_); rintro e w35 ⟨rfl, hb⟩; refine ⟨_, rfl, ?_⟩; have n0_ := Aside0.mk (blk_below (g := gb264) (o := .cells #[.int .i64 a0_0, .bool a0_1, .int .u64 a0_2] 25 (0, 0)) (up BK264.out) hb); have n1_ := Aside0.mk (below_step (upB HB.out) hb); clear BK264; clear HB; have BK264 := n0_; have HB := n1_; clear n0_ n1_; (try clear hb); (try clear hb2); (try clear hk); (try clear hi)))
            go_ret
            exact ⟨by first | rfl | (simp [errW_none, errW_some] <;> rfl) | (simp [*, errW_none, errW_some] <;> rfl), upB HB.out⟩
           ·rw [if_neg c32] at H
            have c32b0 : (a0_0 == 7) = false := beq_eq_false_iff_ne.mpr c32
            have c32b1 : (a0_0 != 7) = true := bne_iff_ne.mpr c32
            replace H := Option.bind_eq_some_iff.mp H
            obtain ⟨t270, A360, H⟩ := H
            replace H : (some (t270.toList == ([102, 117, 108, 108] : List UInt8))) = some r := H
            have A36 := Aside0.mk A360
            clear A360
            obtain rfl := Option.some.inj H
            have hcz37_0 : wc.cell? ⟨gb264, 0, none⟩ = some (.int .i64 a0_0) := (blk_cell BK264.out 0).trans rfl
            have hcz37_1 : wc.cell? ⟨gb264, 1, none⟩ = some (.bool a0_1) := (blk_cell BK264.out 1).trans rfl
            have hcz37_2 : wc.cell? ⟨gb264, 2, none⟩ = some (.int .u64 a0_2) := (blk_cell BK264.out 2).trans rfl
            have hfz37_0 := blk_frozen BK264.out 0
            have hfz37_1 := blk_frozen BK264.out 1
            have hfz37_2 := blk_frozen BK264.out 2
            go_wp2_with (first | ((with_reducible refine gate_callee (f := 7) rfl ?_); refine goesL_ (some 41) rfl rfl Tryd.func7 (by kernel_rfl) rfl #[.agg #[.int .i64 a0_0, .bool a0_1, .int .u64 a0_2]] rfl (by (try simp only [List.map_toArray, List.map_cons, List.map_nil]); first | done | rfl | (simp only [List.length_drop, List.length_take]; rfl)) ?_; (with_reducible refine (tale_Tell.calls kj23 a0_0 a0_1 a0_2 t270 _ A36.out HTT.out (upB HB.out)).mono ?_); rintro e w38 ⟨rfl, hb⟩; refine ⟨_, rfl, ?_⟩; have n0_ := Aside0.mk (blk_below (g := gb264) (o := .cells #[.int .i64 a0_0, .bool a0_1, .int .u64 a0_2] 25 (0, 0)) (up BK264.out) hb); have n1_ := Aside0.mk (below_step (upB HB.out) hb); clear BK264; clear HB; have BK264 := n0_; have HB := n1_; clear n0_ n1_; (try clear hb); (try clear hb2); (try clear hk); (try clear hi)))
            go_ret
            exact ⟨by first | rfl | (simp [errW_none, errW_some] <;> rfl) | (simp [*, errW_none, errW_some] <;> rfl), upB HB.out⟩
          ·rw [if_neg c31] at H
           have c31b0 : (a0_0 == 6) = false := beq_eq_false_iff_ne.mpr c31
           have c31b1 : (a0_0 != 6) = true := bne_iff_ne.mpr c31
           by_cases c39 : a0_0 = 7
           ·rw [if_pos c39] at H
            have c39b0 : (a0_0 == 7) = true := beq_iff_eq.mpr c39
            have c39b1 : (a0_0 != 7) = false := bne_eq_false_iff_eq.mpr c39
            clear c39
            replace H := Option.bind_eq_some_iff.mp H
            obtain ⟨t271, A400, H⟩ := H
            replace H : (some (t271.toList == ([101, 112, 111, 99, 104] : List UInt8))) = some r := H
            have A40 := Aside0.mk A400
            clear A400
            obtain rfl := Option.some.inj H
            have hcz41_0 : wc.cell? ⟨gb264, 0, none⟩ = some (.int .i64 a0_0) := (blk_cell BK264.out 0).trans rfl
            have hcz41_1 : wc.cell? ⟨gb264, 1, none⟩ = some (.bool a0_1) := (blk_cell BK264.out 1).trans rfl
            have hcz41_2 : wc.cell? ⟨gb264, 2, none⟩ = some (.int .u64 a0_2) := (blk_cell BK264.out 2).trans rfl
            have hfz41_0 := blk_frozen BK264.out 0
            have hfz41_1 := blk_frozen BK264.out 1
            have hfz41_2 := blk_frozen BK264.out 2
            go_wp2_with (first | ((with_reducible refine gate_callee (f := 7) rfl ?_); refine goesL_ (some 41) rfl rfl Tryd.func7 (by kernel_rfl) rfl #[.agg #[.int .i64 a0_0, .bool a0_1, .int .u64 a0_2]] rfl (by (try simp only [List.map_toArray, List.map_cons, List.map_nil]); first | done | rfl | (simp only [List.length_drop, List.length_take]; rfl)) ?_; (with_reducible refine (tale_Tell.calls kj23 a0_0 a0_1 a0_2 t271 _ A40.out HTT.out (upB HB.out)).mono ?_); rintro e w42 ⟨rfl, hb⟩; refine ⟨_, rfl, ?_⟩; have n0_ := Aside0.mk (blk_below (g := gb264) (o := .cells #[.int .i64 a0_0, .bool a0_1, .int .u64 a0_2] 25 (0, 0)) (up BK264.out) hb); have n1_ := Aside0.mk (below_step (upB HB.out) hb); clear BK264; clear HB; have BK264 := n0_; have HB := n1_; clear n0_ n1_; (try clear hb); (try clear hb2); (try clear hk); (try clear hi)))
            go_ret
            exact ⟨by first | rfl | (simp [errW_none, errW_some] <;> rfl) | (simp [*, errW_none, errW_some] <;> rfl), upB HB.out⟩
           ·rw [if_neg c39] at H
            have c39b0 : (a0_0 == 7) = false := beq_eq_false_iff_ne.mpr c39
            have c39b1 : (a0_0 != 7) = true := bne_iff_ne.mpr c39
            replace H := Option.bind_eq_some_iff.mp H
            obtain ⟨t272, A430, H⟩ := H
            replace H : (some (t272.toList == x3_23.toList)) = some r := H
            have A43 := Aside0.mk A430
            clear A430
            obtain rfl := Option.some.inj H
            have hcz44_0 : wc.cell? ⟨gb264, 0, none⟩ = some (.int .i64 a0_0) := (blk_cell BK264.out 0).trans rfl
            have hcz44_1 : wc.cell? ⟨gb264, 1, none⟩ = some (.bool a0_1) := (blk_cell BK264.out 1).trans rfl
            have hcz44_2 : wc.cell? ⟨gb264, 2, none⟩ = some (.int .u64 a0_2) := (blk_cell BK264.out 2).trans rfl
            have hfz44_0 := blk_frozen BK264.out 0
            have hfz44_1 := blk_frozen BK264.out 1
            have hfz44_2 := blk_frozen BK264.out 2
            go_wp2_with (first | ((with_reducible refine gate_callee (f := 7) rfl ?_); refine goesL_ (some 41) rfl rfl Tryd.func7 (by kernel_rfl) rfl #[.agg #[.int .i64 a0_0, .bool a0_1, .int .u64 a0_2]] rfl (by (try simp only [List.map_toArray, List.map_cons, List.map_nil]); first | done | rfl | (simp only [List.length_drop, List.length_take]; rfl)) ?_; (with_reducible refine (tale_Tell.calls kj23 a0_0 a0_1 a0_2 t272 _ A43.out HTT.out (upB HB.out)).mono ?_); rintro e w45 ⟨rfl, hb⟩; refine ⟨_, rfl, ?_⟩; have n0_ := Aside0.mk (blk_below (g := gb264) (o := .cells #[.int .i64 a0_0, .bool a0_1, .int .u64 a0_2] 25 (0, 0)) (up BK264.out) hb); have n1_ := Aside0.mk (below_step (upB HB.out) hb); clear BK264; clear HB; have BK264 := n0_; have HB := n1_; clear n0_ n1_; (try clear hb); (try clear hb2); (try clear hk); (try clear hi)))
            go_ret
            exact ⟨by first | rfl | (simp [errW_none, errW_some] <;> rfl) | (simp [*, errW_none, errW_some] <;> rfl), upB HB.out⟩
 ·replace c3 := Bool.eq_false_iff.mpr c3
  subst c3
  have H1 : (some false) = some r := by rw [if_neg (show ¬ (false = true) by decide)] at H; exact H
  clear H
  have H := H1
  clear H1
  obtain rfl := Option.some.inj H
  go_enter Tryd.func3, Tryd.ntmps3
  go_wp2_with (first | ((with_reducible refine gate_dst (N := 1) rfl ?_); refine box_event ?hg (N := 1) ?hd (cs := #[.int .i64 a0_0, .bool a0_1, .int .u64 a0_2]) (t := 25) ?hr ?_; (case hd => rfl); (case hg => rfl); (case hr => first | (go_simp; done) | (go_simp; rfl)); intro gb264 hg w46 hbox hb; have n0_ := Aside0.mk (below_step (upB HB.out) hb); have n1_ := Aside0.mk (hbox); have n2_ := Aside0.mk ((by rw [hg]; exact (below_size (upB HB.out)) : w.heap.size ≤ gb264)); have n3_ := Aside0.mk ((by rw [hg]; exact (below_size (upB HB.out)) : w.heap.size ≤ gb264)); clear HB; have HB := n0_; have BK264 := n1_; have GW264 := n2_; have GE264 := n3_; clear n0_ n1_ n2_ n3_; clear hb hbox hg) | ((with_reducible refine gate_callee (f := 5) rfl ?_); refine goesL_ (some 4) rfl rfl Tryd.func5 (by kernel_rfl) rfl #[] rfl (by (try simp only [List.map_toArray, List.map_cons, List.map_nil]); first | done | rfl | (simp only [List.length_drop, List.length_take]; rfl)) ?_; (with_reducible refine (revenantlaw32_awake.calls  false _ A2.out HTT.out (upB HB.out)).mono ?_); rintro e w47 ⟨rfl, hb⟩; refine ⟨_, rfl, ?_⟩; have n0_ := Aside0.mk (blk_below (g := gb264) (o := .cells #[.int .i64 a0_0, .bool a0_1, .int .u64 a0_2] 25 (0, 0)) (up BK264.out) hb); have n1_ := Aside0.mk (below_step (upB HB.out) hb); clear BK264; clear HB; have BK264 := n0_; have HB := n1_; clear n0_ n1_; (try clear hb); (try clear hb2); (try clear hk); (try clear hi)))
  go_ret
  exact ⟨by first | rfl | (simp [errW_none, errW_some] <;> rfl) | (simp [*, errW_none, errW_some] <;> rfl), upB HB.out⟩
end Go.Proofs.YtinmmnljicmppaaDoor.PTaleApart
